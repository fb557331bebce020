/-
  The walks of the law's own small functions: parts, noughts, shown. By an AI agent.
-/
import Derived.Test.YteefinlpfgbefaaRefSum
namespace Go.Proofs.Yteefinlpfgbefaa
open Go.RowKit

theorem Try.info32 : (Try.prog.info? 32).map (fun i => (i.zero, i.size, i.bytes)) = some (some (.slice none 0 0), 1, 24) := by kernel_rfl

/-- the pieces that the laws take -/
def pcs (ls : List (List UInt8)) : List (List UInt8) := (ls.take 10).map (·.take 200)

theorem flat_bound (k : Nat) (ls : List (List UInt8)) (h : ∀ l ∈ ls, l.length ≤ k) : ls.flatten.length ≤ ls.length * k := by
  induction ls with
  | nil => simp
  | cons x r ih =>
    have h1 := h x (by simp)
    have h2 := ih (fun l hl => h l (by simp [hl]))
    simp only [List.flatten_cons, List.length_append, List.length_cons, Nat.add_mul]
    omega
theorem pcs_len (ls : List (List UInt8)) : (pcs ls).flatten.length ≤ 2000 := by
  have h := flat_bound 200 (pcs ls) (fun l hl => by
    obtain ⟨x, _, rfl⟩ := List.mem_map.1 hl
    simp; omega)
  have h2 : (pcs ls).length ≤ 10 := by unfold pcs; simp; omega
  have h3 : (pcs ls).length * 200 ≤ 10 * 200 := Nat.mul_le_mul_right _ h2
  omega
theorem pcs_next (ls : List (List UInt8)) (k : Nat) (h : k < ls.length) (h10 : k < 10) : pcs (ls.take (k + 1)) = pcs (ls.take k) ++ [ls[k].take 200] := by
  unfold pcs
  rw [List.take_take, List.take_take, Nat.min_eq_right (by omega), Nat.min_eq_right (by omega), take_next ls k h, List.map_append]
  rfl
theorem pcs_full (ls : List (List UInt8)) (k : Nat) (hk : k ≤ ls.length) (hk10 : k ≤ 10) (h : ¬ (k < ls.length ∧ k < 10)) : pcs (ls.take k) = pcs ls ∧ (pcs ls).length = k := by
  have e : (ls.take k).take 10 = ls.take 10 := by
    by_cases h1 : k < ls.length
    · obtain rfl : k = 10 := by omega
      rw [List.take_take, Nat.min_self]
    · rw [List.take_of_length_le (show ls.length ≤ k by omega)]
  refine ⟨by unfold pcs; rw [e], ?_⟩
  unfold pcs
  rw [List.length_map, List.length_take]
  omega

set_option maxHeartbeats 400000 in
theorem parts_any (P : Nat → Prop) (v : Value) (ls : List (List UInt8)) (w : World) (hr : RB2 w P v ls) :
    Calls Try.prog 11 #[v] w fun e w' => ∃ vo, e = .returned (.tuple #[vo, .string (bs (pcs ls).flatten)]) ∧ RB2 w' (fun k => P k ∨ w.heap.size ≤ k) vo (pcs ls) ∧ Ex (fun _ => False) w w' := by
  have hr := hr.old
  obtain ⟨hl, A, c, rfl, hc, hcell⟩ := hr
  have HC := Lib.hid hcell
  clear hcell
  obtain ⟨i0, hi, hz0, hz1, hz2⟩ := info_parts Try.info32
  go_enter Try.func11, Try.ntmps11
  go_wp2
  have hex : Ex (fun _ => False) w w := Ex.refl _ w
  go_loopw [4, 5, 6] (fun o s i wr => ∃ (k : Nat) (vals : List Value) (t : List UInt8), k ≤ ls.length ∧ k ≤ 10 ∧ i = .int .i64 (k : Int) ∧ s = .string (bs t) ∧ t.length ≤ k * 200 ∧ Hid (t = (pcs (ls.take k)).flatten) ∧ wr.ownsRow w.heap.size 32 1 o k vals ∧ Hid (vals.length = k ∧ ∀ j (h : j < k) (h' : j < vals.length) (h'' : j < ls.length), RB wr (fun k => P k ∧ k < w.heap.size) vals[j] (ls[j].take 200)) ∧ Ex (fun _ => False) w wr) (fun _ _ i _ => ls.length - (intOf i).toNat)
  case atStart => exact ⟨0, [], [], by omega, by omega, rfl, rfl, by simp, by simp [Hid, pcs], World.ownsRow_nil _ _ _ _, ⟨rfl, fun j h => by omega⟩, hex⟩
  case round =>
    clear hex
    obtain ⟨k, vals, t, hk, hk10, rfl, rfl, htl, ht, hown, hv, hex⟩ := hrel
    obtain ⟨hvl, hvals⟩ := hv.out
    by_cases hlt : k < ls.length ∧ k < 10
    · obtain ⟨hlt, hlt10⟩ := hlt
      obtain ⟨b, off, vi, rfl, ⟨hpb, hbb⟩, hvi, hri⟩ := HC.out k hlt
      have hri' := hri.keep hex (fun _ _ _ => id)
      obtain ⟨hli, Ai, ci, rfl, hci, hcelli⟩ := hri'
      have hvi' := hex.cell hvi id
      have HI := Lib.hid hcelli
      have HRI := Lib.hid hri
      clear hcelli hri hvi
      obtain ⟨m, hm, hm1, HM⟩ : ∃ m : Nat, (if 200 < (ls[k].length : Int) then (200 : Int) else (ls[k].length : Int)) = (m : Int) ∧ m ≤ ls[k].length ∧ Hid (m = (ls[k].take 200).length) := by
        refine ⟨(ls[k].take 200).length, ?_, by simp; omega, rfl⟩
        rw [List.length_take]; split <;> omega
      have hrt : RB w (fun k => P k ∧ k < w.heap.size) (.slice Ai m ci) (ls[k].take 200) := by rw [HM.out]; exact HRI.out.take 200
      have HRT := Lib.hid hrt
      clear hrt
      have hmi : (m : Int) ≤ (ls[k].length : Int) := by omega
      have hsz := hex.size
      have ex1 : Ex (fun _ => False) w (wr.alloc (.cells #[.slice Ai m ci] 32)) := hex.alloc _
      clear hv
      go_wp2
      go_quiet (fail)
      go_wp2_with (at_builtin; refine wpList_append_row rfl (.tmp 29) (.tmp 31) 22 rfl w.heap.size 32 i0 (.slice none 0 0) 1 24 Try.underlying22 hi hz0 hz1 hz2 rfl (by decide) u4 k vals rfl ?c0 _ 1 1 rfl [.slice Ai m ci] rfl ?c1 ?c2 ?c3 ?c4 ?c5 ?_; (case c0 => exact (hown.alloc _)); (case c1 => exact (new_cells _ #[.slice Ai m ci] _)); (case c2 => simp [Value.oneCell']); (case c3 => simp only [maxLen]; omega); (case c4 => omega); (case c5 => simp; omega); intro v2 w2 ho2 hg2 hn2 hb2; have ex2 := ((hex.drewN nq).alloc (.cells #[.slice Ai m ci] 32)).grown hg2 (fun j hj => .inr (hown.lt j hj).1); have hcv := (HRT.out.keep ex2 (fun _ _ _ => id)).str (Pr := Try.prog) 32 9 5 Try.underlying32 Try.underlying5 Try.underlying9; have hba := bs_append t (ls[k].take 200); have hz9 := bs_size t; have hz8 : (bs (ls[k].take 200)).size = m := (by rw [bs_size, HM.out]))
      go_roundw
      case rel => 
        have ex3 : Ex (fun j => w.heap.size ≤ j) wr w2 := (((Ex.refl _ wr).drewN nq).alloc (.cells #[.slice Ai m ci] 32)).grown hg2 (fun j hj => .inl (hown.lt j hj).1)
        refine ⟨k + 1, _, _, by omega, by omega, by go_num, rfl, ?_, ?_, ho2, ⟨by simp [hvl], fun j hj h' h'' => ?_⟩, ex2⟩
        · simp; omega
        · show _ = _
          rw [ht.out]
          rw [pcs_next ls k hlt hlt10, List.flatten_append]
          simp
        · by_cases hjk : j < k
          · rw [List.getElem_append_left (by omega)]
            exact (hvals j hjk (by omega) h'').keep ex3 (fun i _ hp => by omega)
          · obtain rfl : j = vals.length := by omega
            simp only [List.getElem_concat_length]
            obtain rfl := hvl
            exact HRT.out.keep ex2 (fun _ _ _ => id)
      case measure => simp [intOf]; omega
    · obtain ⟨hpc, hpl⟩ := pcs_full ls k hk hk10 hlt
      have hfin : RB2 wr (fun k => P k ∨ w.heap.size ≤ k) u4 (pcs ls) := by
        refine RB2.ofRow (P := fun k => P k ∧ k < w.heap.size) (pcs ls) hown hpl.symm (by omega) (fun k hk => .inr hk) (fun k hk => .inl hk.1) (fun j hj hj' => ?_)
        have := hvals j (by omega) hj (by omega)
        simpa [pcs] using this
      have HF := Lib.hid hfin
      have HT := Lib.hid (ht.out.trans (by rw [hpc]))
      clear hfin hpc hvals hv hpl hvl
      have hlt' : ¬ k < ls.length ∨ 10 ≤ k := by omega
      clear hlt
      by_cases h : k < ls.length
      · have h10 : 10 ≤ k := by omega
        go_wp2
        go_ret2
        exact ⟨u4, by rw [← HT.out]; rfl, HF.out, hex⟩
      · go_wp2
        go_ret2
        exact ⟨u4, by rw [← HT.out]; rfl, HF.out, hex⟩
theorem noughts_any (P : Nat → Prop) (v : Value) (l : List UInt8) (w : World) (hr : RB w P v l) :
    Calls Try.prog 19 #[v] w fun e w' => e = .returned (.bool (decide (ac true l = 0))) ∧ w = w' := by
  obtain ⟨hl, A, c, rfl, hc, hcell⟩ := hr
  have HC := Lib.hid hcell
  clear hcell
  go_enter Try.func19, Try.ntmps19
  go_wp2
  go_loop [3] (fun i => ∃ k : Nat, k ≤ l.length ∧ i = .int .i64 (k : Int) ∧ Hid (ac true (l.take k) = 0)) (fun i => l.length - (intOf i).toNat)
  case atStart => exact ⟨0, by omega, rfl, rfl⟩
  case round =>
    obtain ⟨k, hk, rfl, h0⟩ := hrel
    by_cases hlt : k < l.length
    · obtain ⟨b, off, rfl, _, hci⟩ := HC.out k hlt
      have hn : Hid (ac true (l.take (k + 1)) = ac true (l.take k) + (if hi true (l.take k) then l[k].toNat * 256 else l[k].toNat)) := by
        show _ = _
        rw [take_next l k hlt, ac_snoc]
      by_cases hz : l[k].toNat = 0
      · have hz1 : ((l[k].toNat : Int) != 0) = false := by simp [hz]
        have HZ := Lib.hid hz
        clear hz
        go_wp2
        go_round
        case rel => exact ⟨k + 1, by omega, by go_num, by show _ = _; rw [hn.out, h0.out, HZ.out]; simp⟩
        case measure => simp [intOf]; omega
      · have hz1 : ((l[k].toNat : Int) != 0) = true := by simp; omega
        have hfin : Hid (decide (ac true l = 0) = false) := by
          show _ = _
          have e : ac true l = ac true (l.take (k + 1)) + ac (hi true (l.take (k + 1))) (l.drop (k + 1)) := by rw [← ac_append, List.take_append_drop]
          rw [hn.out] at e
          simp only [decide_eq_false_iff_not]
          split at e <;> omega
        clear hz
        go_wp2
        go_ret
        exact ⟨by rw [hfin.out]; rfl, rfl⟩
    · have hfin : Hid (decide (ac true l = 0) = true) := by
        have := h0.out
        rw [List.take_of_length_le (by omega)] at this
        show _ = _
        simp [this]
      go_wp2
      go_ret
      exact ⟨by rw [hfin.out]; rfl, rfl⟩

theorem at_even (x n : Nat) (h0 : 0 < n) (h2 : n % 2 = 0) : ∃ j : Nat, (x : Int) % ((n : Int) / 2) * 2 = (j : Int) ∧ j % 2 = 0 ∧ j + 1 < n := by
  have h1 := Nat.mod_lt x (show 0 < n / 2 by omega)
  refine ⟨x % (n / 2) * 2, ?_, by omega, by omega⟩
  simp


theorem at_chain (x n : Nat) (h0 : 4 ≤ n) (h2 : n % 2 = 0) : ∃ j : Nat, (x : Int) % ((n : Int) / 2 - 1) * 2 = (j : Int) ∧ j % 2 = 0 ∧ j + 3 < n := by
  have h1 := Nat.mod_lt x (show 0 < n / 2 - 1 by omega)
  refine ⟨x % (n / 2 - 1) * 2, ?_, by omega, by omega⟩
  have e : (n : Int) / 2 - 1 = ((n / 2 - 1 : Nat) : Int) := by omega
  rw [e]
  simp
def b8 : List UInt8 := [0, 1, 242, 3, 244, 245, 246, 247]
theorem su_b8 : su [b8].flatten = 8717 := by decide
theorem va_b8 : ((su [b8, [34, 13]].flatten : Int) == 0) = true := by decide
theorem vb_b8 : ((su [b8].flatten : Int) == 0) = false := by decide
theorem su_no : su ([] : List (List UInt8)).flatten = 65535 := by decide
theorem up_b8 : up 8717 1 2 = 8716 := by decide
theorem psd_b8 : bs (psd 167772161 167772162 17 300) = ⟨#[10, 0, 0, 1, 10, 0, 0, 2, 0, 17, 1, 44]⟩ := by decide
set_option maxHeartbeats 400000 in
theorem shown_any (w : World) : Calls Try.prog 10 #[] w fun e w' => e = .returned (.bool true) ∧ Ex (fun _ => False) w w' := by
  go_enter Try.func10, Try.ntmps10
  go_wp2_with fail
  refine (pseudo_any 167772161 167772162 17 300 (by omega) (by omega) (by omega) (by omega) _).mono ?_
  rintro e w1 ⟨vp, rfl, hop, hx1⟩
  have hx := ((Ex.refl (fun _ => False) w).alloc _).trans hx1
  have r8 : RB w1 (fun _ => True) (.slice (some ⟨w.heap.size, 0, none⟩) 8 8) b8 := ((RB.made w b8 _ _ (by rfl) (by simp [b8]) _ _ rfl (Nat.le_refl _) rfl).keep hx1 (fun _ _ _ => id)).any
  clear hx1
  go_wp2_with fail
  refine (sum_any _ _ [b8] _ (RB2.one r8 _ rfl) (by simp [b8])).mono ?_
  rintro e w2 ⟨he, rfl⟩
  obtain rfl : e = .returned (.int .u16 8717) := he.trans (by rw [su_b8]; rfl)
  go_wp2_with fail
  refine (valid_any _ _ [b8, [34, 13]] _ (RB2.two ((r8.alloc _).alloc _) (RB.made _ [34, 13] _ _ (by rfl) (by simp) _ _ rfl (Nat.le_refl _) (by simp)).any _ (by simp)) (by simp [b8])).mono ?_
  rintro e w2 ⟨he, rfl⟩
  obtain rfl : e = .returned (.bool true) := he.trans (by rw [va_b8])
  clear he
  go_wp2_with fail
  refine (valid_any _ _ [b8] _ (RB2.one (((r8.alloc _).alloc _).alloc _) _ (by simp)) (by simp [b8])).mono ?_
  rintro e w2 ⟨he, rfl⟩
  obtain rfl : e = .returned (.bool false) := he.trans (by rw [vb_b8])
  clear he
  go_wp2_with fail
  refine (sum_any (fun _ => True) _ [] _ (RB2.nil _ _) (by simp)).mono ?_
  rintro e w2 ⟨he, rfl⟩
  obtain rfl : e = .returned (.int .u16 65535) := he.trans (by rw [su_no]; rfl)
  clear he
  go_wp2_with fail
  refine (update_any 8717 1 2 (by omega) (by omega) (by omega) _).mono ?_
  rintro e w2 ⟨he, rfl⟩
  obtain rfl : e = .returned (.int .u16 8716) := he.trans (by rw [up_b8]; rfl)
  clear he
  have hcv := (((((hop.rb.any.alloc (.cells #[.slice (some ⟨w.heap.size, 0, none⟩) 8 8] 32)).alloc (.cells #[.int .u8 34, .int .u8 13] 5)).alloc (.cells #[.slice (some ⟨w.heap.size, 0, none⟩) 8 8, .slice (some ⟨w1.heap.size + 1, 0, none⟩) 2 2] 32)).alloc (.cells #[.slice (some ⟨w.heap.size, 0, none⟩) 8 8] 32))).str (Pr := Try.prog) 32 9 5 Try.underlying32 Try.underlying5 Try.underlying9
  rw [psd_b8] at hcv
  go_wp2_with fail
  go_ret
  exact ⟨rfl, (((hx.alloc _).alloc _).alloc _).alloc _⟩
theorem ac_psd (s d n : Int) : ∃ k : Nat, (∀ o : Int, 0 ≤ o → o < 256 → (ac true (psd s d o n) : Int) = k + o ∧ (ac true (psd d s o n) : Int) = k + o) := by
  refine ⟨ac true (psd s d 0 n), fun o h0 h1 => ?_⟩
  have f : ∀ s d o : Int, ac true (psd s d o n) = ac true (four s) + ac true (four d) + ((by8 o).toNat + ((by8 (n / 256)).toNat * 256 + (by8 n).toNat)) := by
    intro s d o
    have e : psd s d o n = four s ++ (four d ++ [0, by8 o, by8 (n / 256), by8 n]) := by simp [psd]
    rw [e, ac_append, ac_append, hi_even _ _ (by simp [four]), hi_even _ _ (by simp [four])]
    have e4 : ac true [0, by8 o, by8 (n / 256), by8 n] = 0 * 256 + ((by8 o).toNat + ((by8 (n / 256)).toNat * 256 + ((by8 n).toNat + 0))) := rfl
    omega
  have f0 := f s d 0
  have f1 := f s d o
  have f2 := f d s o
  have e0 : (by8 0).toNat = 0 := rfl
  have e3 := by8_toNat o
  omega
theorem fo_near (k a b : Nat) (ha : a < 256) (hb : b < 256) (h : fo (k + a) = fo (k + b)) : a = b := by
  unfold fo at h
  split at h <;> split at h <;> omega
theorem su_psd (s d p n : Int) (hp : 0 ≤ p ∧ p < 256) : su (psd d s p n) = su (psd s d p n) := by
  obtain ⟨k, hk⟩ := ac_psd s d n
  have h := hk p hp.1 hp.2
  unfold su
  rw [show ac true (psd d s p n) = ac true (psd s d p n) by omega]
theorem su_psd_ne (s d p o n : Int) (hp : 0 ≤ p ∧ p < 256) (ho : 0 ≤ o ∧ o < 256) (h : p ≠ o) : su (psd s d p n) ≠ su (psd s d o n) := by
  obtain ⟨k, hk⟩ := ac_psd s d n
  have h1 := hk p hp.1 hp.2
  have h2 := hk o ho.1 ho.2
  intro he
  unfold su at he
  rw [show ac true (psd s d p n) = k + p.toNat by omega, show ac true (psd s d o n) = k + o.toNat by omega] at he
  have h3 := fo_le (k + p.toNat)
  have h4 := fo_le (k + o.toNat)
  have := fo_near k p.toNat o.toNat (by omega) (by omega) (by omega)
  omega
end Go.Proofs.Yteefinlpfgbefaa
