/-
  The contract of ether's tag. By an AI agent.
-/
import Derived.Test.YtkgieciamophkaaDoorEth
import Derived.Deep.Cut
namespace Go.Proofs.YtkgieciamophkaaDoor
open Go.RowKit

theorem row_set {w : World} {g : Nat} {cs : Array Value} {t : TypeId} (h : w.heap[g]? = some (.cells cs t)) (k : Nat) (v : Value) : (w.setCell ⟨g, k, none⟩ v).heap[g]? = some (.cells (cs.setIfInBounds k v) t) := by
  rw [setCell_eq_setRow w g k cs t (0, 0) v h]
  exact setRow_heap w g cs _ t _ h
theorem row_cell {w : World} {g k : Nat} {cs : Array Value} {t : TypeId} {v : Value} (h : w.heap[g]? = some (.cells cs t)) (hk : cs[k]? = some v) : w.cell? ⟨g, k, none⟩ = some v := by
  simp [World.cell?, h, hk]
theorem row_frozen {w : World} {g : Nat} {cs : Array Value} {t : TypeId} (h : w.heap[g]? = some (.cells cs t)) (k : Nat) : w.frozen? ⟨g, k, none⟩ = false := by
  simp [World.frozen?, h]
theorem row_lt {w : World} {g : Nat} {o : Obj} (h : w.heap[g]? = some o) : g < w.heap.size := (Array.getElem?_eq_some_iff.1 h).1

theorem sets (cs : Array Value) (a b c d : Value) : (((cs.setIfInBounds 12 a).setIfInBounds 13 b).setIfInBounds 12 c).setIfInBounds 13 d = (cs.setIfInBounds 12 c).setIfInBounds 13 d := by
  apply Array.ext_getElem?
  intro i
  simp only [Array.getElem?_setIfInBounds, Array.size_setIfInBounds]
  by_cases h1 : 13 = i
  · simp [h1]
  · by_cases h2 : 12 = i
    · simp [h1, h2]
    · simp [h1, h2]
/-- what stands ahead of a frame's bytes, behind the addresses: the tag (-1: none), the type, the bytes -/
def ptag : List UInt8 → Option (Int × Nat × List UInt8)
  | x0 :: x1 :: r => if nb [x0, x1] = 33024 then (match r with | v0 :: v1 :: t0 :: t1 :: r' => some ((nb [v0, v1] : Int), nb [t0, t1], r') | _ => none) else some (-1, nb [x0, x1], r)
  | _ => none
theorem nb2_lt (a b : UInt8) : nb [a, b] < 65536 := Nat.lt_of_lt_of_le (nb_lt [a, b]) (by simp)
theorem two {l : List UInt8} (h : 2 ≤ l.length) : ∃ a b r, l = a :: b :: r := by
  match l, h with
  | a :: b :: r, _ => exact ⟨a, b, r, rfl⟩
theorem ptag_short {l : List UInt8} (h : l.length < 2) : ptag l = none := by
  match l, h with
  | [], _ => rfl
  | [x], _ => rfl
theorem ptag_plain {a b : UInt8} {r : List UInt8} (h : nb [a, b] ≠ 33024) : ptag (a :: b :: r) = some (-1, nb [a, b], r) := by simp [ptag, h]
theorem ptag_cut {a b : UInt8} {r : List UInt8} (h : nb [a, b] = 33024) (hr : r.length < 4) : ptag (a :: b :: r) = none := by
  match r, hr with
  | [], _ => simp [ptag, h]
  | [x], _ => simp [ptag, h]
  | [x, y], _ => simp [ptag, h]
  | [x, y, z], _ => simp [ptag, h]
theorem ptag_tag {a b c d e f : UInt8} {r : List UInt8} (h : nb [a, b] = 33024) : ptag (a :: b :: c :: d :: e :: f :: r) = some ((nb [c, d] : Int), nb [e, f], r) := by simp [ptag, h]

set_option maxRecDepth 100000 in
set_option maxHeartbeats 2000000 in
theorem tag_any (p g o pf : Nat) (l : List UInt8) (cs : Array Value) (w : World) (h : RD w p g o l) (hf : w.heap[pf]? = some (.cells cs 76)) (hcs : cs.size = 15) (hne : pf ≠ p) (hng : pf ≠ g) :
    Calls Tryd.prog 51 #[.pointer (some ⟨pf, 0, none⟩), .pointer (some ⟨p, 0, none⟩)] w fun e w' => Ex (fun j => j = p ∨ j = pf) w w' ∧
      ((∃ vl ty r o', ptag l = some (vl, ty, r) ∧ e = .returned .nilIface ∧ RD w' p g o' r ∧ w'.heap[pf]? = some (.cells ((cs.setIfInBounds 12 (.int .i64 vl)).setIfInBounds 13 (.int .u16 (ty : Int))) 76)) ∨
       (ptag l = none ∧ (∃ cs', w'.heap[pf]? = some (.cells cs' 76) ∧ cs'.size = 15) ∧ ∃ v, e = .returned v ∧ EC w' (fun j => w.heap.size ≤ j) [lay1] v 2)) := by
  have hlt := h.lt
  have hfl := row_lt hf
  obtain ⟨v12, h12⟩ : ∃ v, cs[12]? = some v := ⟨_, Array.getElem?_eq_getElem (by omega)⟩
  have c12 := row_cell hf h12
  have f12 := row_frozen hf 12
  have hx1 : Ex (fun j => j = pf) w (w.setCell ⟨pf, 12, none⟩ (.int .i64 (-1))) := (Ex.refl (fun j => j = pf) w).setCell (p := ⟨pf, 12, none⟩) (.inl rfl) _
  have hr1 := h.keep hx1 (fun e => hne e.symm) (fun _ e => hng e.symm)
  have hf1 := row_set hf 12 (.int .i64 (-1))
  have H1 := Lib.hid hr1
  have HX1 := Lib.hid (hx1.mono (T := fun j => j = p ∨ j = pf) (fun _ _ e => .inr e))
  have HF1 := Lib.hid hf1
  have hsz : (w.setCell ⟨pf, 12, none⟩ (.int .i64 (-1))).heap.size = w.heap.size := by simp [World.setCell]
  clear hx1 hr1 hf1 h hf
  go_enter Tryd.func51, Tryd.ntmps51
  go_wp2_with fail
  clear c12 f12
  generalize w.setCell ⟨pf, 12, none⟩ (.int .i64 (-1)) = w1 at H1 HX1 HF1 hsz ⊢
  by_cases hl : l.length < 2
  ·
    refine (ru16_few p g o l w1 H1.out (by omega)).mono ?_
    rintro e w9 ⟨v9, rfl, he9, hx9⟩
    have hf9 := (hx9.block pf (row_lt HF1.out) id).trans HF1.out
    have hsz9 := hx9.size
    obtain ⟨v13, h13⟩ : ∃ v, (cs.setIfInBounds 12 (Value.int .i64 (-1)))[13]? = some v := ⟨_, Array.getElem?_eq_getElem (by simp; omega)⟩
    have c13 := row_cell hf9 h13
    have f13 := row_frozen hf9 13
    have hec := he9
    obtain ⟨ty, y, rfl⟩ := he9.shape
    have HE := Lib.hid hec
    have HX9 := Lib.hid (HX1.out.trans (hx9.mono (fun _ _ h => h.elim)))
    have HF10 := Lib.hid (row_set hf9 13 (.int .u16 0))
    have HX10 := Lib.hid ((Ex.refl (fun j => j = pf) w9).setCell (p := ⟨pf, 13, none⟩) (.inl rfl) (.int .u16 0))
    clear hec he9 hx9 hf9 H1 HX1 HF1
    go_wp2_with fail
    go_ret
    exact ⟨HX9.out.trans (HX10.out.mono (fun _ _ e => .inr e)), .inr ⟨ptag_short hl, ⟨_, HF10.out, by simp [hcs]⟩, _, rfl, EC.mono (fun j hj => by omega) (HE.out.keep HX10.out (fun j hj e => by omega))⟩⟩
  obtain ⟨x0, x1, r, rfl⟩ := two (show 2 ≤ l.length by omega)
  clear hl
  refine (ru16_any p g o (x0 :: x1 :: r) w1 H1.out (by simp)).mono ?_
  rintro e w2 ⟨rfl, hr2, hx2⟩
  have hr2 : RD w2 p g (o + 2) r := hr2
  have e0 : List.take 2 (x0 :: x1 :: r) = [x0, x1] := rfl
  rw [e0]
  clear e0
  have hlt16 := nb2_lt x0 x1
  obtain ⟨t0, ht0⟩ : ∃ t0, t0 = nb [x0, x1] := ⟨_, rfl⟩
  rw [← ht0] at hlt16 ⊢
  have hf2 := (hx2.block pf (row_lt HF1.out) hne).trans HF1.out
  obtain ⟨v13, h13⟩ : ∃ v, (cs.setIfInBounds 12 (Value.int .i64 (-1)))[13]? = some v := ⟨_, Array.getElem?_eq_getElem (by simp; omega)⟩
  have c13 := row_cell hf2 h13
  have f13 := row_frozen hf2 13
  have hx3 : Ex (fun j => j = pf) w2 (w2.setCell ⟨pf, 13, none⟩ (.int .u16 (t0 : Int))) := (Ex.refl (fun j => j = pf) w2).setCell (p := ⟨pf, 13, none⟩) (.inl rfl) _
  have hr3 := hr2.keep hx3 (fun e => hne e.symm) (fun _ e => hng e.symm)
  have hf3 := row_set hf2 13 (.int .u16 (t0 : Int))
  have hd3 : (w2.setCell ⟨pf, 13, none⟩ (.int .u16 (t0 : Int))).cell? ⟨pf, 13, none⟩ = some (.int .u16 (t0 : Int)) := World.cell?_setCell_same _ _ _ c13
  have HX3 := Lib.hid ((HX1.out.trans (hx2.mono (fun _ _ e => .inl e))).trans (hx3.mono (fun _ _ e => .inr e)))
  have hsz2 := hx2.size
  have hsz3 := hx3.size
  have HR3 := Lib.hid hr3
  have HF3 := Lib.hid hf3
  have HD3 := Lib.hid hd3
  have HT0 := Lib.hid ht0
  clear hx2 hr2 hf2 hx3 hr3 hf3 hd3 H1 HX1 HF1 ht0
  by_cases ht : t0 = 33024
  · have hb : ((t0 : Int) != 33024) = false := by simp [ht]
    have HTT := Lib.hid ht
    clear ht
    go_upto_region 3 with fail
    clear c13 f13
    have d3 := HD3.out
    generalize w2.setCell ⟨pf, 13, none⟩ (.int .u16 (t0 : Int)) = w3 at HX3 hsz3 HR3 HF3 HD3 d3 ⊢
    go_wp2_with fail
    clear d3
    by_cases hl : r.length < 2
    · refine (ru16_few p g (o + 2) r w3 HR3.out hl).mono ?_
      rintro e w9 ⟨v9, rfl, he9, hx9⟩
      have hsz9 := hx9.size
      have hec := he9
      obtain ⟨ty, y, rfl⟩ := he9.shape
      have HE := Lib.hid hec
      have HX9 := Lib.hid (HX3.out.trans (hx9.mono (fun _ _ h => h.elim)))
      have HF10 := Lib.hid ((hx9.block pf (row_lt HF3.out) id).trans HF3.out)
      clear hec he9 hx9
      go_wp2_with fail
      go_ret
      exact ⟨HX9.out, .inr ⟨ptag_cut (by rw [← HT0.out]; exact HTT.out) (by omega), ⟨_, HF10.out, by simp [hcs]⟩, _, rfl, EC.mono (fun j hj => by omega) HE.out⟩⟩
    · obtain ⟨x2, x3, r2, rfl⟩ := two (show 2 ≤ r.length by omega)
      clear hl
      refine (ru16_any p g (o + 2) (x2 :: x3 :: r2) w3 HR3.out (by simp)).mono ?_
      rintro e w4 ⟨rfl, hr4, hx4⟩
      have hr4 : RD w4 p g (o + 2 + 2) r2 := hr4
      have e0 : List.take 2 (x2 :: x3 :: r2) = [x2, x3] := rfl
      rw [e0]
      clear e0
      have hlt16v := nb2_lt x2 x3
      obtain ⟨n0, hn0⟩ : ∃ n0, n0 = nb [x2, x3] := ⟨_, rfl⟩
      rw [← hn0] at hlt16v ⊢
      have hf4 := (hx4.block pf (row_lt HF3.out) hne).trans HF3.out
      obtain ⟨v12', h12'⟩ : ∃ v, ((cs.setIfInBounds 12 (Value.int .i64 (-1))).setIfInBounds 13 (Value.int .u16 (t0 : Int)))[12]? = some v := ⟨_, Array.getElem?_eq_getElem (by simp; omega)⟩
      have c12 := row_cell hf4 h12'
      have f12 := row_frozen hf4 12
      have hx5 : Ex (fun j => j = pf) w4 (w4.setCell ⟨pf, 12, none⟩ (.int .i64 (n0 : Int))) := (Ex.refl (fun j => j = pf) w4).setCell (p := ⟨pf, 12, none⟩) (.inl rfl) _
      have hr5 := hr4.keep hx5 (fun e => hne e.symm) (fun _ e => hng e.symm)
      have hf5 := row_set hf4 12 (.int .i64 (n0 : Int))
      have q1 := IntWalk.i64_in (n0 : Int) (by omega)
      have HX5 := Lib.hid ((HX3.out.trans (hx4.mono (fun _ _ e => .inl e))).trans (hx5.mono (fun _ _ e => .inr e)))
      have hsz4 := hx4.size
      have hsz5 := hx5.size
      have HR5 := Lib.hid hr5
      have HF5 := Lib.hid hf5
      have HN0 := Lib.hid hn0
      clear hx4 hr4 hf4 hx5 hr5 hf5 HX3 HR3 HF3 HD3 hn0
      go_wp2_with fail
      clear c12 f12 q1
      generalize w4.setCell ⟨pf, 12, none⟩ (.int .i64 (n0 : Int)) = w5 at HX5 hsz5 HR5 HF5 ⊢
      by_cases hl : r2.length < 2
      ·
        refine (ru16_few p g (o + 2 + 2) r2 w5 HR5.out (by omega)).mono ?_
        rintro e w9 ⟨v9, rfl, he9, hx9⟩
        have hf9 := (hx9.block pf (row_lt HF5.out) id).trans HF5.out
        have hsz9 := hx9.size
        obtain ⟨v13, h13⟩ : ∃ v, (((cs.setIfInBounds 12 (Value.int .i64 (-1))).setIfInBounds 13 (Value.int .u16 (t0 : Int))).setIfInBounds 12 (Value.int .i64 (n0 : Int)))[13]? = some v := ⟨_, Array.getElem?_eq_getElem (by simp; omega)⟩
        have c13 := row_cell hf9 h13
        have f13 := row_frozen hf9 13
        have hec := he9
        obtain ⟨ty, y, rfl⟩ := he9.shape
        have HE := Lib.hid hec
        have HX9 := Lib.hid (HX5.out.trans (hx9.mono (fun _ _ h => h.elim)))
        have HF10 := Lib.hid (row_set hf9 13 (.int .u16 0))
        have HX10 := Lib.hid ((Ex.refl (fun j => j = pf) w9).setCell (p := ⟨pf, 13, none⟩) (.inl rfl) (.int .u16 0))
        clear hec he9 hx9 hf9 HR5 HX5 HF5
        go_wp2_with fail
        go_ret
        exact ⟨HX9.out.trans (HX10.out.mono (fun _ _ e => .inr e)), .inr ⟨ptag_cut (by rw [← HT0.out]; exact HTT.out) (by simp; omega), ⟨_, HF10.out, by simp [hcs]⟩, _, rfl, EC.mono (fun j hj => by omega) (HE.out.keep HX10.out (fun j hj e => by omega))⟩⟩
      · obtain ⟨x4, x5, r3, rfl⟩ := two (show 2 ≤ r2.length by omega)
        clear hl
        refine (ru16_any p g (o + 2 + 2) (x4 :: x5 :: r3) w5 HR5.out (by simp)).mono ?_
        rintro e w6 ⟨rfl, hr6, hx6⟩
        have hr6 : RD w6 p g (o + 2 + 2 + 2) r3 := hr6
        have e0 : List.take 2 (x4 :: x5 :: r3) = [x4, x5] := rfl
        rw [e0]
        clear e0
        have hlt16t := nb2_lt x4 x5
        have hf6 := (hx6.block pf (row_lt HF5.out) hne).trans HF5.out
        obtain ⟨v13', h13'⟩ : ∃ v, (((cs.setIfInBounds 12 (Value.int .i64 (-1))).setIfInBounds 13 (Value.int .u16 (t0 : Int))).setIfInBounds 12 (Value.int .i64 (n0 : Int)))[13]? = some v := ⟨_, Array.getElem?_eq_getElem (by simp; omega)⟩
        have c13 := row_cell hf6 h13'
        have f13 := row_frozen hf6 13
        have hx7 : Ex (fun j => j = pf) w6 (w6.setCell ⟨pf, 13, none⟩ (.int .u16 (nb [x4, x5] : Int))) := (Ex.refl (fun j => j = pf) w6).setCell (p := ⟨pf, 13, none⟩) (.inl rfl) _
        have hr7 := hr6.keep hx7 (fun e => hne e.symm) (fun _ e => hng e.symm)
        have hf7 := row_set hf6 13 (.int .u16 (nb [x4, x5] : Int))
        have HX7 := Lib.hid ((HX5.out.trans (hx6.mono (fun _ _ e => .inl e))).trans (hx7.mono (fun _ _ e => .inr e)))
        have HR7 := Lib.hid hr7
        have HF7 := Lib.hid hf7
        clear hx6 hr6 hf6 hx7 hr7 hf7 HX5 HR5 HF5
        go_wp2_with fail
        go_ret
        refine ⟨HX7.out, .inl ⟨(n0 : Int), nb [x4, x5], r3, _, ?_, rfl, HR7.out, ?_⟩⟩
        · rw [HN0.out]; exact ptag_tag (by rw [← HT0.out]; exact HTT.out)
        · rw [HF7.out, sets]
  · have hb : ((t0 : Int) != 33024) = true := by simp; omega
    have HTT := Lib.hid ht
    clear ht
    go_upto_region 3 with fail
    clear c13 f13
    have d3 := HD3.out
    generalize w2.setCell ⟨pf, 13, none⟩ (.int .u16 (t0 : Int)) = w3 at HX3 hsz3 HR3 HF3 HD3 d3 ⊢
    go_wp2_with fail
    go_ret
    refine ⟨HX3.out, .inl ⟨-1, t0, r, _, ?_, rfl, HR3.out, HF3.out⟩⟩
    rw [HT0.out]
    exact ptag_plain (by rw [← HT0.out]; exact HTT.out)
end Go.Proofs.YtkgieciamophkaaDoor
