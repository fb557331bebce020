/-
  The walk of the law SumParts. By an AI agent.
-/
import Derived.Test.YteefinlpfgbefaaLaw02
import Derived.Test.YteefinlpfgbefaaSumMath2
import Derived.Deep.QuietTactic
import Derived.BigQuiet
import Derived.StillTailTactics
import Derived.Deep.Cut
import Derived.Deep.DeepCutAuto
import Derived.Deep.RegionHeld
import Derived.Deep.AppendLies
namespace Go.Proofs.Yteefinlpfgbefaa
open Go.RowKit

theorem new_cells_at (w : World) (cs : Array Value) (t : TypeId) (g : Nat) (hg : g = w.heap.size) : ∀ j u, cs.toList[j]? = some u → ∃ a, some (⟨g, 0, none⟩ : Addr) = some a ∧ (w.alloc (.cells cs t)).cell? (a.add j) = some u := by
  subst hg
  exact new_cells w cs t

theorem new_row2 (w : World) (x y : Value) (t : TypeId) {g : Nat} (hg : g = w.heap.size) : ∀ j u, [x, y][j]? = some u → (w.alloc (.cells #[x, y] t)).cell? (Addr.add ⟨g, 0, none⟩ j) = some u := by
  subst hg
  intro j u h
  obtain ⟨a, e, hc⟩ := new_cells w #[x, y] t j u h
  obtain rfl := Option.some.inj e
  exact hc

set_option maxRecDepth 100000 in
set_option maxHeartbeats 2000000 in
theorem partslaw_any (P : Nat → Prop) (v : Value) (ls : List (List UInt8)) (w : World) (hr : RB2 w P v ls) :
    Calls Try.prog 4 #[v] w fun e w' => e = .returned (.bool true) ∧ Ex (fun _ => False) w w' := by
  obtain ⟨i0, hi, hz0, hz1, hz2⟩ := info_parts Try.info5
  obtain ⟨j0, hj, hy0, hy1, hy2⟩ := info_parts Try.info32
  have hpl := pcs_len ls
  have hpn : (pcs ls).length ≤ 10 := by unfold pcs; simp; omega
  go_enter Try.func4, Try.ntmps4
  go_wp2_with fail
  refine (shown_any _).mono ?_
  rintro e w1 ⟨rfl, hx1⟩
  go_wp2_with fail
  refine (parts_any P v ls _ (hr.keep hx1 (fun _ _ _ => id))).mono ?_
  rintro e w2 ⟨vo, rfl, hro, hx2⟩
  generalize pcs ls = pl at hpl hpn hro ⊢
  have hx := hx1.trans hx2
  clear hx1 hx2 hr
  go_wp2_with fail
  refine (sum_any _ _ pl _ hro (by omega)).mono ?_
  rintro e w' ⟨rfl, rfl⟩
  have hro2 := hro.old
  obtain ⟨_, A, c, rfl, hc, hcell⟩ := hro2
  have HC := Lib.hid hcell
  have HRO := Lib.hid hro
  clear hcell hro
  go_wp2
  have hex : Ex (fun _ => False) w2 w2 := Ex.refl _ w2
  go_loopw [7, 8] (fun o i wr => ∃ (k n : Nat) (vals : List Value) (ls' : List (List UInt8)), k ≤ pl.length ∧ n = 3 * k ∧ i = .int .i64 (k : Int) ∧ wr.ownsRow w2.heap.size 32 1 o n vals ∧ Hid (ls'.length = n ∧ ls'.flatten = (pl.take k).flatten ∧ vals.length = n ∧ ∀ j (h : j < vals.length) (h' : j < ls'.length), RB wr (fun b => b < w2.heap.size) vals[j] ls'[j]) ∧ Ex (fun _ => False) w2 wr) (fun _ i _ => pl.length - (intOf i).toNat)
  case atStart => exact ⟨0, 0, [], [], by omega, rfl, rfl, World.ownsRow_nil _ _ _ _, ⟨rfl, rfl, rfl, fun j h => by simp at h⟩, hex⟩
  case round =>
    clear hex
    obtain ⟨k, n, vals, ls', hk, hn, rfl, hown, hv, hex⟩ := hrel
    by_cases hlt : k < pl.length
    · obtain ⟨b, off, vi, rfl, ⟨_, hbb⟩, hvi, hri⟩ := HC.out k hlt
      have hri2 : RB w2 (fun b => b < w2.heap.size) vi pl[k] := hri.mono (fun _ _ h => h.2)
      have hvi' := hex.cell hvi id
      have hsz := hex.size
      obtain ⟨_, Ai, ci, rfl, _, _⟩ := hri
      have HRI := Lib.hid hri2
      have HN := Lib.hid hn
      have hn30 : n ≤ 30 := by omega
      clear hri2 hvi hn
      go_wp2_with (at_builtin; refine wpList_append_row rfl (.tmp 26) (.tmp 32) 22 rfl w2.heap.size 32 j0 (.slice none 0 0) 1 24 Try.underlying22 hj hy0 hy1 hy2 rfl (by decide) u7 n vals rfl ?c0 _ 3 3 rfl [.slice none 0 0, .slice Ai pl[k].length ci, .slice (some ⟨wr.heap.size, 0, none⟩) 0 0] rfl ?c1 ?c2 ?c3 ?c4 ?c5 ?_; (case c0 => exact ((hown.alloc _).alloc _)); (case c1 => exact (new_cells_at _ #[.slice none 0 0, .slice Ai pl[k].length ci, .slice (some ⟨wr.heap.size, 0, none⟩) 0 0] _ _ (by simp))); (case c2 => simp [Value.oneCell']); (case c3 => simp only [maxLen]; omega); (case c4 => omega); (case c5 => simp; omega); intro v3 w3 ho3 hg3 hn3 hb3)
      have ex2 : Ex (fun _ => False) w2 w3 := ((hex.alloc _).alloc _).grown hg3 (fun j hj => .inr (hown.lt j hj).1)
      have ex3 : Ex (fun j => w2.heap.size ≤ j) wr w3 := (((Ex.refl _ wr).alloc _).alloc _).grown hg3 (fun j hj => .inl (hown.lt j hj).1)
      obtain ⟨v1, v2, v4, hv4⟩ := hv.out
      go_roundw
      case rel =>
        refine ⟨k + 1, n + 3, _, ls' ++ [[], pl[k], []], by omega, by have := HN.out; omega, by go_num, ho3, ⟨by simp [v1], ?_, by simp [v4], fun j h h' => ?_⟩, ex2⟩
        · rw [flat_next pl k hlt, List.flatten_append, v2]; simp
        · by_cases hjn : j < n
          · rw [List.getElem_append_left (by omega), List.getElem_append_left (by omega)]
            exact (hv4 j (by omega) (by omega)).keep ex3 (fun i _ hi => by omega)
          · have h3 : j < n + 3 := by simp [v4] at h; omega
            obtain ⟨d, rfl⟩ : ∃ d, j = n + d := ⟨j - n, by omega⟩
            rw [List.getElem_append_right (by omega), List.getElem_append_right (by omega)]
            have e1 : n + d - vals.length = d := by omega
            have e2 : n + d - ls'.length = d := by omega
            simp only [e1, e2]
            have : d = 0 ∨ d = 1 ∨ d = 2 := by omega
            rcases this with rfl | rfl | rfl
            · exact RB.nil w3 _
            · exact HRI.out.keep ex2 (fun _ _ _ => id)
            · exact ⟨by simp, _, 0, rfl, by simp, fun i hi => by simp at hi⟩
      case measure => simp [intOf]; omega
    · obtain rfl : k = pl.length := by omega
      obtain ⟨v1, v2, v4, hv4⟩ := hv.out
      rw [List.take_length] at v2
      have hrm : RB2 wr (fun _ => True) u7 ls' := RB2.ofRow (P := fun b => b < w2.heap.size) ls' hown v1.symm (by omega) (fun _ _ => trivial) (fun _ _ => trivial) hv4
      have hsm : su ls'.flatten = su pl.flatten := by rw [v2]
      have hlm : ls'.flatten.length ≤ 2000 := by rw [v2]; exact hpl
      clear hv hv4 v1 v2 v4 hn hown
      generalize pl.flatten = fl at hpl hsm hlm
      obtain ⟨q, hq, hq1⟩ : ∃ q : Nat, su fl = q ∧ q ≤ 65535 := ⟨_, rfl, su_le fl⟩
      rw [hq] at hsm ⊢
      have HQ := Lib.hid hq
      have HRM := Lib.hid hrm
      have HEX := Lib.hid (hx.trans hex)
      clear hrm hex hx hq
      generalize u7 = vm at HRM ⊢
      have kb := fun (w : World) (l : List UInt8) => conv_text (Pr := Try.prog) 9 32 Try.underlying9 Try.underlying32 Try.underlying5 w l
      have hzp := bs_size fl
      have ks := tw_size
      have hsm := Lib.hid hsm
      go_wp2_with fail
      refine (sum1_any _ _ fl (tw wr fl) _ (wr.heap.size + 1) (tw_size _ _).symm (RB.text wr _ (by omega) _ rfl) (by omega)).mono ?_
      rintro e w' ⟨rfl, rfl⟩
      rw [HQ.out]
      go_wp2_with fail
      refine (sum_any _ _ ls' _ (HRM.out.keep (((Ex.refl (fun _ => False) wr).text fl).alloc _) (fun _ _ _ => id)) (by omega)).mono ?_
      rintro e w' ⟨rfl, rfl⟩
      rw [hsm.out]
      have hxw := (HEX.out.text fl).alloc (.cells #[.slice (some ⟨wr.heap.size, 0, none⟩) fl.length (tc wr fl)] 32)
      generalize ((tw wr fl).alloc (.cells #[.slice (some ⟨wr.heap.size, 0, none⟩) fl.length (tc wr fl)] 32)) = W at hxw ⊢
      have HXW := Lib.hid hxw
      clear hxw hsm ks HRM HEX
      have hqq : ((q : Int) != (q : Int)) = false := by simp
      go_upto_if 49 with (fail)
      go_cut [5] (fun s wx => ∃ M : List UInt8, s = .string (bs M) ∧ M.length ≤ 2001 ∧ Hid (M.length % 2 = 0 ∧ su M = q) ∧ wx = W)
      case first =>
        by_cases hodd : fl.length % 2 = 1
        · have hb : ((fl.length : Int) % 2 == 1) = true := by simp; omega
          have hap := bs_append fl [0]
          have hb0 : (bs [0] : ByteArray) = ⟨#[0]⟩ := rfl
          rw [hb0] at hap
          go_wp2_with fail
          go_meet
          exact ⟨fl ++ [0], rfl, by simp; omega, ⟨by simp; omega, by rw [su_pad]; exact HQ.out⟩, rfl⟩
        · have hb : ((fl.length : Int) % 2 == 1) = false := by simp; omega
          go_wp2_with fail
          go_meet
          exact ⟨fl, rfl, by omega, ⟨by omega, HQ.out⟩, rfl⟩
      case rest =>
        obtain ⟨M, rfl, hM1, hM2, rfl⟩ := hcut
        have hkeep := HXW
        have hzm := bs_size M
        have hM1' : (M.length : Int) ≤ 2001 := by omega
        have b1 := IntWalk.u8_in ((q : Int) / 256) (by omega)
        have b2 := IntWalk.u8_in ((q : Int) % 256) (by omega)
        go_wp2_with fail
        have hxo := HXW.out.alloc (.cells #[.int .u8 ((q : Int) / 256), .int .u8 ((q : Int) % 256)] 5)
        have hro := RB.made wc [by8 ((q : Int) / 256), by8 ((q : Int) % 256)] #[.int .u8 ((q : Int) / 256), .int .u8 ((q : Int) % 256)] 5 (by simp [u8v_by8]; omega) (by simp) 2 2 rfl (Nat.le_refl _) (g := wc.heap.size) rfl
        have hro := hro.old
        generalize wc.heap.size = go at hro ⊢
        generalize wc.alloc (.cells #[.int .u8 ((q : Int) / 256), .int .u8 ((q : Int) % 256)] 5) = wo at hxo hro ⊢
        have HXO := Lib.hid hxo
        have HRO2 := Lib.hid hro
        clear hxo hro HXW hkeep b1 b2
        obtain ⟨hM3, hM4⟩ := hM2.out
        have HM4 := Lib.hid hM4
        clear hM4 hM2
        have hxx : Ex (fun _ => False) wo wo := Ex.refl _ wo
        go_loopw [10, 11] (fun o i wr => ∃ (k : Nat) (T : List UInt8), k ≤ M.length ∧ i = .int .i64 (k : Int) ∧ OB wr wo.heap.size o T ∧ Hid (k % 2 = 0 ∧ T.length + k = M.length ∧ ac true T = ac true (M.drop k)) ∧ Ex (fun _ => False) wo wr) (fun _ i _ => (intOf i).toNat)
        case atStart => exact ⟨M.length, [], Nat.le_refl _, rfl, OB.nil wo _, ⟨hM3, by simp, by simp [ac]⟩, hxx⟩
        case round =>
          clear hxx
          obtain ⟨k, T, hk, rfl, hob, hh, hex⟩ := hrel
          by_cases hlt : 0 < k
          · obtain ⟨j, rfl⟩ : ∃ j, k = j + 2 := ⟨k - 2, by have := hh.out; omega⟩
            have g1 : ((j : Int) + 2) - 2 = (j : Int) := by omega
            have g2 : ((j : Int) + 2) - 1 = (j : Int) + 1 := by omega
            have g3 := IntWalk.i64_in ((j : Int) + 1) (by omega)
            have g4 := IntWalk.i64_in (j : Int) (by omega)
            have g9 : (j : Int) < (M.length : Int) := by omega
            have g10 : (j : Int) + 1 < (M.length : Int) := by omega
            have g5 : (0 : Int) ≤ (j : Int) + 1 := by omega
            have g6 : ((j : Int) + 1).toNat = j + 1 := by omega
            have g7 := bs_get M j (by omega)
            have g8 := bs_get M (j + 1) (by omega)
            have hT : T.length ≤ 2001 := by have := hh.out; omega
            go_wp2
            refine wp_region_held_drew (S := fun _ => True) (by kernel_rfl) trivial (fun _ => ?_)
            refine wpAnyH_take (i := 0) (oi := { dst := some 65, op := Go.Op.move (Go.Operand.tmp 10), type := 32, pos := "law.go:55", after := #[], guard := none }) (v := ?v0) rfl (by kernel_rfl) (by kernel_rfl) (by kernel_rfl) (fun _ _ _ h => h) (Or.inl ⟨by rfl, ?hy0⟩) (by assumption) ?rest0
            case hy0 => (intro w hSw; (try dsimp only at hSw); go_simp <;> with_reducible rfl)
            try simp only [Act.put, List.setIfInBounds_toArray, List.set_cons_zero, List.set_cons_succ]
            refine wpAnyH_take (i := 1) (oi := { dst := some 66, op := Go.Op.move (Go.Operand.tmp 5), type := 9, pos := "law.go:55", after := #[], guard := none }) (v := ?v1) rfl (by kernel_rfl) (by kernel_rfl) (by kernel_rfl) (fun _ _ _ h => h) (Or.inl ⟨by rfl, ?hy1⟩) (by assumption) ?rest1
            case hy1 => (intro w hSw; (try dsimp only at hSw); go_simp <;> with_reducible rfl)
            try simp only [Act.put, List.setIfInBounds_toArray, List.set_cons_zero, List.set_cons_succ]
            refine wpAnyH_take (i := 2) (oi := { dst := some 67, op := Go.Op.move (Go.Operand.tmp 11), type := 3, pos := "law.go:55", after := #[], guard := none }) (v := ?v2) rfl (by kernel_rfl) (by kernel_rfl) (by kernel_rfl) (fun _ _ _ h => h) (Or.inl ⟨by rfl, ?hy2⟩) (by assumption) ?rest2
            case hy2 => (intro w hSw; (try dsimp only at hSw); go_simp <;> with_reducible rfl)
            try simp only [Act.put, List.setIfInBounds_toArray, List.set_cons_zero, List.set_cons_succ]
            refine wpAnyH_take (i := 3) (oi := { dst := some 68, op := Go.Op.binOp Go.BinOp.sub 3 (Go.Operand.tmp 67) (Go.Operand.const (Go.Value.int Go.IntKind.i64 2)) 3, type := 3, pos := "law.go:55", after := #[{ on := 2, ground := Go.Ground.data }], guard := none }) (v := ?v3) rfl (by kernel_rfl) (by kernel_rfl) (by kernel_rfl) (fun _ _ _ h => h) (Or.inl ⟨by rfl, ?hy3⟩) (by assumption) ?rest3
            case hy3 => (intro w hSw; (try dsimp only at hSw); go_simp <;> with_reducible rfl)
            try simp only [Act.put, List.setIfInBounds_toArray, List.set_cons_zero, List.set_cons_succ]
            refine wpAnyH_take (i := 4) (oi := { dst := some 69, op := Go.Op.index 9 (Go.Operand.tmp 66) (Go.Operand.tmp 68), type := 5, pos := "law.go:55", after := #[{ on := 1, ground := Go.Ground.data }, { on := 3, ground := Go.Ground.data }], guard := none }) (v := ?v4) rfl (by kernel_rfl) (by kernel_rfl) (by kernel_rfl) (fun _ _ _ h => h) (Or.inl ⟨by rfl, ?hy4⟩) (by assumption) ?rest4
            case hy4 => (intro w hSw; (try dsimp only at hSw); go_simp <;> with_reducible rfl)
            try simp only [Act.put, List.setIfInBounds_toArray, List.set_cons_zero, List.set_cons_succ]
            refine wpAnyH_take (i := 5) (oi := { dst := some 70, op := Go.Op.move (Go.Operand.tmp 5), type := 9, pos := "law.go:55", after := #[], guard := none }) (v := ?v5) rfl (by kernel_rfl) (by kernel_rfl) (by kernel_rfl) (fun _ _ _ h => h) (Or.inl ⟨by rfl, ?hy5⟩) (by assumption) ?rest5
            case hy5 => (intro w hSw; (try dsimp only at hSw); go_simp <;> with_reducible rfl)
            try simp only [Act.put, List.setIfInBounds_toArray, List.set_cons_zero, List.set_cons_succ]
            refine wpAnyH_take (i := 6) (oi := { dst := some 71, op := Go.Op.move (Go.Operand.tmp 11), type := 3, pos := "law.go:55", after := #[], guard := none }) (v := ?v6) rfl (by kernel_rfl) (by kernel_rfl) (by kernel_rfl) (fun _ _ _ h => h) (Or.inl ⟨by rfl, ?hy6⟩) (by assumption) ?rest6
            case hy6 => (intro w hSw; (try dsimp only at hSw); go_simp <;> with_reducible rfl)
            try simp only [Act.put, List.setIfInBounds_toArray, List.set_cons_zero, List.set_cons_succ]
            refine wpAnyH_take (i := 7) (oi := { dst := some 72, op := Go.Op.binOp Go.BinOp.sub 3 (Go.Operand.tmp 71) (Go.Operand.const (Go.Value.int Go.IntKind.i64 1)) 3, type := 3, pos := "law.go:55", after := #[{ on := 6, ground := Go.Ground.data }], guard := none }) (v := ?v7) rfl (by kernel_rfl) (by kernel_rfl) (by kernel_rfl) (fun _ _ _ h => h) (Or.inl ⟨by rfl, ?hy7⟩) (by assumption) ?rest7
            case hy7 => (intro w hSw; (try dsimp only at hSw); go_simp <;> with_reducible rfl)
            try simp only [Act.put, List.setIfInBounds_toArray, List.set_cons_zero, List.set_cons_succ]
            refine wpAnyH_take (i := 8) (oi := { dst := some 73, op := Go.Op.index 9 (Go.Operand.tmp 70) (Go.Operand.tmp 72), type := 5, pos := "law.go:55", after := #[{ on := 5, ground := Go.Ground.data }, { on := 7, ground := Go.Ground.data }], guard := none }) (v := ?v8) rfl (by kernel_rfl) (by kernel_rfl) (by kernel_rfl) (fun _ _ _ h => h) (Or.inl ⟨by rfl, ?hy8⟩) (by assumption) ?rest8
            case hy8 => (intro w hSw; (try dsimp only at hSw); go_simp <;> with_reducible rfl)
            try simp only [Act.put, List.setIfInBounds_toArray, List.set_cons_zero, List.set_cons_succ]
            refine wpAnyH_ready (rs := [9]) (by kernel_rfl) (by simp) ?_
            refine AllReadyH.cons (o := { dst := some 74, op := Go.Op.buildSlice 32 2 #[(0, Go.Operand.tmp 69), (1, Go.Operand.tmp 73)], type := 32, pos := "law.go:55", after := #[{ on := 4, ground := Go.Ground.data }, { on := 8, ground := Go.Ground.data }], guard := none }) rfl (fun K hK => ?_) AllReadyH.nil
            go_simp; refine hK.out _ _ trivial (fun _ => ?_)
            try simp only [Act.put, List.setIfInBounds_toArray, List.set_cons_zero, List.set_cons_succ]
            refine wpAnyH_ready (rs := [10]) (by kernel_rfl) (by simp) ?_
            refine AllReadyH.cons (o := { dst := some 75, op := Go.Op.call { callee := Go.Callee.builtin Go.Builtin.append, args := #[Go.Operand.tmp 65, Go.Operand.tmp 74], argTypes := #[32, 32] }, type := 32, pos := "law.go:55", after := #[{ on := 0, ground := Go.Ground.data }, { on := 9, ground := Go.Ground.data }], guard := none }) rfl (fun K hK => ?_) AllReadyH.nil
            refine step_append_lies _ rfl (.tmp 65) (.tmp 74) 32 rfl wo.heap.size 5 i0 (.int .u8 0) 1 1 Try.underlying32 hi hz0 hz1 hz2 rfl (by decide) u10 T.length (T.map u8v) rfl (OB.alloc ⟨hob.1, hob.2⟩ _).2 ⟨wr.heap.size, 0, none⟩ 2 2 [u8v M[j], u8v M[j + 1]] rfl rfl ?hnews ?hone (by decide) ?h63 ?hby ?hbase _ rfl ?hafter
            case hnews => (intro k u hu; exact new_row2 _ _ _ _ rfl k u hu)
            case hone => (intro u hu; simp only [List.mem_cons, List.not_mem_nil, or_false] at hu; rcases hu with rfl | rfl <;> rfl)
            case h63 => (simp only [maxLen]; omega)
            case hby => omega
            case hbase => (have := hex.size; simp; omega)
            intro g cap w' ho hg hgb hgl; refine hK.out _ _ trivial (fun _ => ?_)
            refine wpAnyH_take (i := 11) (oi := { dst := some 10, op := Go.Op.assign (Go.Operand.tmp 75), type := 32, pos := "law.go:55", after := #[{ on := 10, ground := Go.Ground.data }, { on := 10, ground := Go.Ground.chain }, { on := 0, ground := Go.Ground.phase }, { on := 1, ground := Go.Ground.phase }, { on := 2, ground := Go.Ground.phase }, { on := 3, ground := Go.Ground.phase }, { on := 4, ground := Go.Ground.phase }, { on := 5, ground := Go.Ground.phase }, { on := 6, ground := Go.Ground.phase }, { on := 7, ground := Go.Ground.phase }, { on := 8, ground := Go.Ground.phase }, { on := 9, ground := Go.Ground.phase }, { on := 10, ground := Go.Ground.phase }], guard := none }) (v := ?v11) rfl (by kernel_rfl) (by kernel_rfl) (by kernel_rfl) (fun _ _ _ h => h) (Or.inl ⟨by rfl, ?hy11⟩) (by assumption) ?rest11
            case hy11 => (intro w hSw; (try dsimp only at hSw); go_simp <;> with_reducible rfl)
            try simp only [Act.put, List.setIfInBounds_toArray, List.set_cons_zero, List.set_cons_succ]
            refine wpAnyH_done (by kernel_rfl) ?_ _
            go_wp2
            go_roundw
            case rel =>
              obtain ⟨e1, e2, e3⟩ := hh.out
              refine ⟨j, T ++ [M[j], M[j + 1]], by omega, by go_num, ⟨by simp; omega, by simpa using ho⟩, ⟨by omega, by simp; omega, ?_⟩, (hex.alloc _).drew.grown hg (fun k hk => .inr (hob.lt k hk).1)⟩
              have e4 := ac_drop M (j + 2) (by omega) hk
              simp only [show j + 2 - 2 = j by omega, show j + 2 - 1 = j + 1 by omega] at e4
              have e0 : ac true [M[j], M[j + 1]] = M[j].toNat * 256 + (M[j + 1].toNat + 0) := rfl
              rw [e4, ac_append, hi_even _ _ (by omega), e0, e3]
              omega
            case measure => simp [intOf]; omega
          · obtain rfl : k = 0 := by omega
            have hsT : su T = q := by
              have e := hh.out.2.2
              unfold su
              rw [e]
              exact HM4.out
            have hlT : T.length ≤ 2001 := by have := hh.out; omega
            obtain ⟨A10, c10, rfl⟩ := hob.shape
            have HT := Lib.hid hsT
            have hby : (by8 ((q : Int) / 256)).toNat * 256 + (by8 ((q : Int) % 256)).toNat = q := by
              have h1 := by8_toNat ((q : Int) / 256)
              have h2 := by8_toNat ((q : Int) % 256)
              omega
            have HBY := Lib.hid hby
            clear hby
            have HOB := Lib.hid hob
            have HEX := Lib.hid hex
            clear hsT hob hex hh
            have hq2 : ((q : Int) == (q : Int)) = true := by simp
            go_wp2_with fail
            refine (sum1_any _ _ M (tw wr M) _ _ rfl (RB.text wr _ (by omega) _ rfl) (by omega)).mono ?_
            rintro e w' ⟨rfl, rfl⟩
            rw [HM4.out]
            have hx5 := (HEX.out.text M).alloc (.cells #[.slice (some ⟨wr.heap.size, 0, none⟩) M.length (tc wr M)] 32)
            have ho5 := HOB.out.keep (((Ex.refl (fun _ => False) wr).text M).alloc (.cells #[.slice (some ⟨wr.heap.size, 0, none⟩) M.length (tc wr M)] 32)) (fun _ _ _ _ => id)
            generalize ((tw wr M).alloc (.cells #[.slice (some ⟨wr.heap.size, 0, none⟩) M.length (tc wr M)] 32)) = w5 at hx5 ho5 ⊢
            have HX5 := Lib.hid hx5
            have HO5 := Lib.hid ho5
            clear hx5 ho5
            go_wp2_with fail
            have hown5 := (HRO2.out.keep (HX5.out.text M) (fun _ _ _ => id)).any
            refine (valid2_any _ _ _ M [by8 ((q : Int) / 256), by8 ((q : Int) % 256)] (tw w5 M) _ _ rfl (RB.text w5 _ (by omega) _ rfl).any hown5 (by simp; omega)).mono ?_
            rintro e w' ⟨rfl, rfl⟩
            have hv1 : decide (su (M ++ [by8 ((q : Int) / 256), by8 ((q : Int) % 256)]) = 0) = true := decide_eq_true (su_behind M hM3 _ _ (HBY.out.trans HM4.out.symm))
            have hv2 : decide (su ([by8 ((q : Int) / 256), by8 ((q : Int) % 256)] ++ M) = 0) = true := decide_eq_true (su_ahead M _ _ (HBY.out.trans HM4.out.symm))
            rw [hv1]
            have HV2 := Lib.hid hv2
            clear hv1 hv2 hown5
            have hx6 := (HX5.out.text M).alloc (.cells #[.slice (some ⟨w5.heap.size, 0, none⟩) M.length (tc w5 M), .slice (some ⟨go, 0, none⟩) 2 2] 32)
            have ho6 := HO5.out.keep (((Ex.refl (fun _ => False) w5).text M).alloc (.cells #[.slice (some ⟨w5.heap.size, 0, none⟩) M.length (tc w5 M), .slice (some ⟨go, 0, none⟩) 2 2] 32)) (fun _ _ _ _ => id)
            generalize ((tw w5 M).alloc (.cells #[.slice (some ⟨w5.heap.size, 0, none⟩) M.length (tc w5 M), .slice (some ⟨go, 0, none⟩) 2 2] 32)) = w6 at hx6 ho6 ⊢
            have HX6 := Lib.hid hx6
            have HO6 := Lib.hid ho6
            clear hx6 ho6
            go_wp2_with fail
            have hown6 := (HRO2.out.keep (HX6.out.text M) (fun _ _ _ => id)).any
            refine (valid2_any _ _ _ [by8 ((q : Int) / 256), by8 ((q : Int) % 256)] M (tw w6 M) _ _ rfl hown6 (RB.text w6 _ (by omega) _ rfl).any (by simp; omega)).mono ?_
            rintro e w' ⟨rfl, rfl⟩
            rw [HV2.out]
            clear hown6
            have hx7 := (HX6.out.text M).alloc (.cells #[.slice (some ⟨go, 0, none⟩) 2 2, .slice (some ⟨w6.heap.size, 0, none⟩) M.length (tc w6 M)] 32)
            have ho7 := HO6.out.keep (((Ex.refl (fun _ => False) w6).text M).alloc (.cells #[.slice (some ⟨go, 0, none⟩) 2 2, .slice (some ⟨w6.heap.size, 0, none⟩) M.length (tc w6 M)] 32)) (fun _ _ _ _ => id)
            generalize ((tw w6 M).alloc (.cells #[.slice (some ⟨go, 0, none⟩) 2 2, .slice (some ⟨w6.heap.size, 0, none⟩) M.length (tc w6 M)] 32)) = w7 at hx7 ho7 ⊢
            have HX7 := Lib.hid hx7
            have HO7 := Lib.hid ho7
            clear hx7 ho7
            go_wp2_with fail
            refine (sum1_any _ _ T w7 _ _ rfl HO7.out.rb (by omega)).mono ?_
            rintro e w' ⟨rfl, rfl⟩
            rw [HT.out]
            go_wp2_with fail
            go_ret
            exact ⟨rfl, HXO.out.trans (HX7.out.alloc _)⟩
end Go.Proofs.Yteefinlpfgbefaa
