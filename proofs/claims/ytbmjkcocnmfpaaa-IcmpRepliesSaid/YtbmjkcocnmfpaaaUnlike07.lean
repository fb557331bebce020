/-
  The walk of IcmpUnlike. By an AI agent.
-/
import Derived.Test.YtbmjkcocnmfpaaaShown07
import Derived.Test.YtbmjkcocnmfpaaaStr
namespace Go.Proofs.Ytbmjkcocnmfpaaa
open Go.RowKit

theorem ms_cut (b : List UInt8) : ∃ l1 : List UInt8, (if 2000 < (b.length : Int) then (2000 : Int) else (b.length : Int)) = (l1.length : Int) ∧ l1.length ≤ b.length ∧ l1.length ≤ 2000 ∧ l1 = b.take 2000 := by
  refine ⟨b.take 2000, ?_, by simp; omega, by simp; omega, rfl⟩
  rw [List.length_take]; split <;> omega
set_option maxRecDepth 100000 in
set_option maxHeartbeats 16000000 in
theorem unlike07_any (m n : Ms) (Ax Ay : Option Addr) (cx cy : Nat) (w : World) (okm : m.ok) (okn : n.ok) (hm : RB w (fun _ => True) (.slice Ax m.b.length cx) m.b) (hn : RB w (fun _ => True) (.slice Ay n.b.length cy) n.b) :
    Calls Try.prog 3 #[msv m (.slice Ax m.b.length cx), msv n (.slice Ay n.b.length cy)] w fun e w' => e = .returned (.bool true) ∧ Ex (fun _ => False) w w' := by
  obtain ⟨xty, xco, xrest, xb⟩ := m
  obtain ⟨yty, yco, yrest, yb⟩ := n
  simp only at hm hn
  have hmc : xb.length ≤ cx := by obtain ⟨_, _, _, e, h, _⟩ := hm; injection e with _ _ e3; rw [e3]; exact h
  have hnc : yb.length ≤ cy := by obtain ⟨_, _, _, e, h, _⟩ := hn; injection e with _ _ e3; rw [e3]; exact h
  obtain ⟨xl, hk, hk1, hk2, hxl⟩ := ms_cut xb
  obtain ⟨yl, gk, gk1, gk2, hyl⟩ := ms_cut yb
  have hki : (xl.length : Int) ≤ (xb.length : Int) := by omega
  have gki : (yl.length : Int) ≤ (yb.length : Int) := by omega
  have hkc : xl.length ≤ cx := by omega
  have gkc : yl.length ≤ cy := by omega
  have hm1 := hm.take 2000
  have hn1 := hn.take 2000
  rw [← hxl] at hm1
  rw [← hyl] at hn1
  have okx : (⟨xty, xco, xrest, xl⟩ : Ms).ok := okm
  have oky : (⟨yty, yco, yrest, yl⟩ : Ms).ok := okn
  have HM := Lib.hid hm1
  have HN := Lib.hid hn1
  have OKX := Lib.hid okx
  have OKY := Lib.hid oky
  have hin := mb_inj okx oky
  have HIN := Lib.hid hin
  clear hm hn hm1 hn1 okm okn okx oky hxl hyl hmc hnc hin
  show Calls Try.prog 3 #[.agg #[.int .u8 xty, .int .u8 xco, .int .u32 xrest, .slice Ax xb.length cx], .agg #[.int .u8 yty, .int .u8 yco, .int .u32 yrest, .slice Ay yb.length cy]] w _
  go_enter Try.func3, Try.ntmps3
  go_upto_region 1 with fail
  have hx : Ex (fun _ => False) w (w.alloc (.cells #[.int .u8 xty, .int .u8 xco, .int .u32 xrest, .slice Ax xb.length cx] 25)) := (Ex.refl _ w).alloc _
  have hb : (w.alloc (.cells #[.int .u8 xty, .int .u8 xco, .int .u32 xrest, .slice Ax xb.length cx] 25)).heap[w.heap.size]? = some (.cells #[.int .u8 xty, .int .u8 xco, .int .u32 xrest, .slice Ax xb.length cx] 25) := heap_alloc_new w _
  have hs1 : (w.alloc (.cells #[.int .u8 xty, .int .u8 xco, .int .u32 xrest, .slice Ax xb.length cx] 25)).heap.size = w.heap.size + 1 := by simp
  obtain ⟨xb_, hxb_⟩ : ∃ xb_, xb_ = w.heap.size := ⟨_, rfl⟩
  have hb_xb_ : w.heap.size ≤ xb_ := by omega
  rw [← hxb_] at hb hs1 
  try simp only [← hxb_]
  generalize w.alloc (.cells #[.int .u8 xty, .int .u8 xco, .int .u32 xrest, .slice Ax xb.length cx] 25) = w1 at hx hb  hs1 ⊢
  try simp only [← hs1]
  clear hs1
  clear hxb_
  have HX_w1 := Lib.hid hx
  clear hx
  have B_xb_ := Lib.hid hb
  clear hb
  have hx : Ex (fun _ => False) w1 (w1.alloc (.cells #[.int .u8 yty, .int .u8 yco, .int .u32 yrest, .slice Ay yb.length cy] 25)) := (Ex.refl _ w1).alloc _
  have hb : (w1.alloc (.cells #[.int .u8 yty, .int .u8 yco, .int .u32 yrest, .slice Ay yb.length cy] 25)).heap[w1.heap.size]? = some (.cells #[.int .u8 yty, .int .u8 yco, .int .u32 yrest, .slice Ay yb.length cy] 25) := heap_alloc_new w1 _
  obtain ⟨yb_, hyb_⟩ : ∃ yb_, yb_ = w1.heap.size := ⟨_, rfl⟩
  have hb_yb_ : w1.heap.size ≤ yb_ := by omega
  rw [← hyb_] at hb
  try simp only [← hyb_]
  generalize w1.alloc (.cells #[.int .u8 yty, .int .u8 yco, .int .u32 yrest, .slice Ay yb.length cy] 25) = w2 at hx hb ⊢
  clear hyb_
  have HX_w2 := Lib.hid hx
  clear hx
  have B_yb_ := Lib.hid hb
  clear hb
  have hx2 := row_lt B_xb_.out
  have ne_xb__yb_ : xb_ ≠ yb_ := by omega
  go_wp2_with fail
  refine (shown7_any w2).mono ?_
  rintro e w3 ⟨rfl, hx⟩
  have HX_w3 := Lib.hid hx
  clear hx
  have cxb_3 := row_cell (k := 3) (v := .slice Ax xb.length cx) (((HX_w2.out.trans HX_w3.out).block xb_ (row_lt B_xb_.out) id).trans B_xb_.out) rfl
  have fxb_3 := row_frozen (((HX_w2.out.trans HX_w3.out).block xb_ (row_lt B_xb_.out) id).trans B_xb_.out) 3
  go_upto_region 3 with fail
  replace B_xb_ := Lib.hid (((HX_w2.out.trans HX_w3.out).block xb_ (row_lt B_xb_.out) id).trans B_xb_.out)
  have hb : (w3.setCell ⟨xb_, 3, none⟩ (.slice Ax xl.length cx)).heap[xb_]? = some (.cells #[.int .u8 xty, .int .u8 xco, .int .u32 xrest, .slice Ax xl.length cx] 25) := (row_set B_xb_.out 3 (.slice Ax xl.length cx))
  have hx : Ex (fun j => j = xb_) w3 (w3.setCell ⟨xb_, 3, none⟩ (.slice Ax xl.length cx)) := ((Ex.refl (fun j => j = xb_) w3).setCell (p := ⟨xb_, 3, none⟩) (.inl rfl) (.slice Ax xl.length cx))
  clear cxb_3 fxb_3 hk
  generalize (w3.setCell ⟨xb_, 3, none⟩ (.slice Ax xl.length cx)) = w4 at hx hb ⊢
  clear B_xb_
  have HX_w4 := Lib.hid hx
  clear hx
  have B_xb_ := Lib.hid hb
  clear hb
  replace B_yb_ := Lib.hid ((HX_w4.out.block yb_ (row_lt ((HX_w3.out.block yb_ (row_lt B_yb_.out) id).trans B_yb_.out)) ne_xb__yb_.symm).trans ((HX_w3.out.block yb_ (row_lt B_yb_.out) id).trans B_yb_.out))
  have cyb_3 := row_cell (k := 3) (v := .slice Ay yb.length cy) B_yb_.out rfl
  have fyb_3 := row_frozen B_yb_.out 3
  go_upto_region 4 with fail
  have hb : (w4.setCell ⟨yb_, 3, none⟩ (.slice Ay yl.length cy)).heap[yb_]? = some (.cells #[.int .u8 yty, .int .u8 yco, .int .u32 yrest, .slice Ay yl.length cy] 25) := (row_set B_yb_.out 3 (.slice Ay yl.length cy))
  have hx : Ex (fun j => j = yb_) w4 (w4.setCell ⟨yb_, 3, none⟩ (.slice Ay yl.length cy)) := ((Ex.refl (fun j => j = yb_) w4).setCell (p := ⟨yb_, 3, none⟩) (.inl rfl) (.slice Ay yl.length cy))
  clear cyb_3 fyb_3 gk
  generalize (w4.setCell ⟨yb_, 3, none⟩ (.slice Ay yl.length cy)) = wb at hx hb ⊢
  clear B_yb_
  have HX_wb := Lib.hid hx
  clear hx
  have B_yb_ := Lib.hid hb
  clear hb
  replace B_xb_ := Lib.hid ((HX_wb.out.block xb_ (row_lt B_xb_.out) ne_xb__yb_).trans B_xb_.out)
  replace HM := Lib.hid (RB.keep HM.out ((((HX_w1.out.trans HX_w2.out).trans HX_w3.out).andThen HX_w4.out (fun i hi e => by have := hb_xb_; omega)).andThen HX_wb.out (fun i hi e => by have := HX_w1.out.size; have := hb_yb_; omega)) (fun _ _ _ => id))
  replace HN := Lib.hid (RB.keep HN.out ((((HX_w1.out.trans HX_w2.out).trans HX_w3.out).andThen HX_w4.out (fun i hi e => by have := hb_xb_; omega)).andThen HX_wb.out (fun i hi e => by have := HX_w1.out.size; have := hb_yb_; omega)) (fun _ _ _ => id))
  have cxb_0 := row_cell (k := 0) (v := .int .u8 xty) B_xb_.out rfl
  have cxb_1 := row_cell (k := 1) (v := .int .u8 xco) B_xb_.out rfl
  have cxb_2 := row_cell (k := 2) (v := .int .u32 xrest) B_xb_.out rfl
  have cxb_3 := row_cell (k := 3) (v := .slice Ax xl.length cx) B_xb_.out rfl
  have cyb_0 := row_cell (k := 0) (v := .int .u8 yty) B_yb_.out rfl
  have cyb_1 := row_cell (k := 1) (v := .int .u8 yco) B_yb_.out rfl
  have cyb_2 := row_cell (k := 2) (v := .int .u32 yrest) B_yb_.out rfl
  have cyb_3 := row_cell (k := 3) (v := .slice Ay yl.length cy) B_yb_.out rfl
  have HX := HM
  have HY := HN
  obtain ⟨M1, hM1⟩ : ∃ M1, M1 = mb ⟨xty, xco, xrest, xl⟩ := ⟨_, rfl⟩
  obtain ⟨M2, hM2⟩ : ∃ M2, M2 = mb ⟨yty, yco, yrest, yl⟩ := ⟨_, rfl⟩
  have HM1 := Lib.hid hM1
  have HM2 := Lib.hid hM2
  obtain ⟨bb, hbb⟩ : ∃ b, Ms.eqB ⟨xty, xco, xrest, xl⟩ ⟨yty, yco, yrest, yl⟩ = b := ⟨_, rfl⟩
  have hs : ((bs M1).toList == (bs M2).toList) = bb := by
    rw [str_beq, ← hbb]
    by_cases h : (⟨xty, xco, xrest, xl⟩ : Ms) = ⟨yty, yco, yrest, yl⟩
    · rw [(Ms.eqB_iff _ _).2 h, decide_eq_true_eq, hM1, hM2]; exact HIN.out.2 h
    · have e : Ms.eqB ⟨xty, xco, xrest, xl⟩ ⟨yty, yco, yrest, yl⟩ = false := by rw [Bool.eq_false_iff]; exact fun h' => h ((Ms.eqB_iff _ _).1 h')
      rw [e, decide_eq_false_iff_not, hM1, hM2]; exact fun h' => h (HIN.out.1 h')
  have z1 : ∀ w, (binOp .eql 29 (rmv ⟨xty, xco, xrest, xl⟩) (rmv ⟨yty, yco, yrest, yl⟩)).run Try.prog w = .ok (.bool bb) w := fun w => by rw [rmv_eq, hbb]
  have z2 : ∀ w, (eqGuard .eql 29 (.tmp 33) (.tmp 35) (rmv ⟨xty, xco, xrest, xl⟩) (rmv ⟨yty, yco, yrest, yl⟩)).run Try.prog w = .ok () w := fun w => rmv_guard .eql (.tmp 33) (.tmp 35) _ _ w
  have hb2 : (bb == bb) = true := by simp
  have Z1 := Lib.hid z1
  have Z2 := Lib.hid z2
  have HXB := Lib.hid ((((HX_w1.out.trans HX_w2.out).trans HX_w3.out).andThen HX_w4.out (fun i hi e => by have := hb_xb_; omega)).andThen HX_wb.out (fun i hi e => by have := HX_w1.out.size; have := hb_yb_; omega))
  have hS0 : Ex (fun _ => False) wb wb.drew := (Ex.refl _ wb).drew
  clear z1 z2 hbb hM1 hM2 
  refine wp_region_held_drew (S := fun W => Ex (fun _ => False) wb W) (by kernel_rfl) hS0 (fun _ => ?_)
  have HX_wd := Lib.hid hS0
  generalize wb.drew = wd at HX_wd hS0 ⊢
  refine wpAnyH_take (i := 0) (oi := { dst := some 23, op := Go.Op.move (Go.Operand.tmp 5), type := 4, pos := "more.go:15", after := #[], guard := none }) (v := ?v1) rfl (by kernel_rfl) (by kernel_rfl) (by kernel_rfl) (fun _ _ _ h => h) (Or.inl ⟨by rfl, ?hy1⟩) (by assumption) ?rest1
  case hy1 => (intro w hSw; (try dsimp only at hSw); have ecxb_0 := hSw.cell cxb_0 id; have ecxb_1 := hSw.cell cxb_1 id; have ecxb_2 := hSw.cell cxb_2 id; have ecxb_3 := hSw.cell cxb_3 id; have ecyb_0 := hSw.cell cyb_0 id; have ecyb_1 := hSw.cell cyb_1 id; have ecyb_2 := hSw.cell cyb_2 id; have ecyb_3 := hSw.cell cyb_3 id; have z1 := Z1.out; have z2 := Z2.out; go_simp <;> with_reducible rfl)
  try simp only [Act.put, List.setIfInBounds_toArray, List.set_cons_zero, List.set_cons_succ]
  refine wpAnyH_take (i := 1) (oi := { dst := some 24, op := Go.Op.move (Go.Operand.tmp 23), type := 4, pos := "more.go:15", after := #[{ on := 0, ground := Go.Ground.data }], guard := none }) (v := ?v2) rfl (by kernel_rfl) (by kernel_rfl) (by kernel_rfl) (fun _ _ _ h => h) (Or.inl ⟨by rfl, ?hy2⟩) (by assumption) ?rest2
  case hy2 => (intro w hSw; (try dsimp only at hSw); have ecxb_0 := hSw.cell cxb_0 id; have ecxb_1 := hSw.cell cxb_1 id; have ecxb_2 := hSw.cell cxb_2 id; have ecxb_3 := hSw.cell cxb_3 id; have ecyb_0 := hSw.cell cyb_0 id; have ecyb_1 := hSw.cell cyb_1 id; have ecyb_2 := hSw.cell cyb_2 id; have ecyb_3 := hSw.cell cyb_3 id; have z1 := Z1.out; have z2 := Z2.out; go_simp <;> with_reducible rfl)
  try simp only [Act.put, List.setIfInBounds_toArray, List.set_cons_zero, List.set_cons_succ]
  refine wpAnyH_take (i := 2) (oi := { dst := some 25, op := Go.Op.load 25 (Go.Operand.tmp 2), type := 25, pos := "more.go:15", after := #[{ on := 1, ground := Go.Ground.guard }], guard := some (1, true) }) (v := ?v3) rfl (by kernel_rfl) (by kernel_rfl) (by kernel_rfl) (fun _ _ _ h => h) (Or.inl ⟨by rfl, ?hy3⟩) (by assumption) ?rest3
  case hy3 => (intro w hSw; (try dsimp only at hSw); have ecxb_0 := hSw.cell cxb_0 id; have ecxb_1 := hSw.cell cxb_1 id; have ecxb_2 := hSw.cell cxb_2 id; have ecxb_3 := hSw.cell cxb_3 id; have ecyb_0 := hSw.cell cyb_0 id; have ecyb_1 := hSw.cell cyb_1 id; have ecyb_2 := hSw.cell cyb_2 id; have ecyb_3 := hSw.cell cyb_3 id; have z1 := Z1.out; have z2 := Z2.out; go_simp <;> with_reducible rfl)
  try simp only [Act.put, List.setIfInBounds_toArray, List.set_cons_zero, List.set_cons_succ]
  refine wpAnyH_take (i := 5) (oi := { dst := some 28, op := Go.Op.load 25 (Go.Operand.tmp 3), type := 25, pos := "more.go:15", after := #[{ on := 1, ground := Go.Ground.guard }], guard := some (1, true) }) (v := ?v4) rfl (by kernel_rfl) (by kernel_rfl) (by kernel_rfl) (fun _ _ _ h => h) (Or.inl ⟨by rfl, ?hy4⟩) (by assumption) ?rest4
  case hy4 => (intro w hSw; (try dsimp only at hSw); have ecxb_0 := hSw.cell cxb_0 id; have ecxb_1 := hSw.cell cxb_1 id; have ecxb_2 := hSw.cell cxb_2 id; have ecxb_3 := hSw.cell cxb_3 id; have ecyb_0 := hSw.cell cyb_0 id; have ecyb_1 := hSw.cell cyb_1 id; have ecyb_2 := hSw.cell cyb_2 id; have ecyb_3 := hSw.cell cyb_3 id; have z1 := Z1.out; have z2 := Z2.out; go_simp <;> with_reducible rfl)
  try simp only [Act.put, List.setIfInBounds_toArray, List.set_cons_zero, List.set_cons_succ]
  refine wpAnyH_take (i := 9) (oi := { dst := some 32, op := Go.Op.load 25 (Go.Operand.tmp 2), type := 25, pos := "more.go:15", after := #[{ on := 1, ground := Go.Ground.guard }], guard := some (1, true) }) (v := ?v5) rfl (by kernel_rfl) (by kernel_rfl) (by kernel_rfl) (fun _ _ _ h => h) (Or.inl ⟨by rfl, ?hy5⟩) (by assumption) ?rest5
  case hy5 => (intro w hSw; (try dsimp only at hSw); have ecxb_0 := hSw.cell cxb_0 id; have ecxb_1 := hSw.cell cxb_1 id; have ecxb_2 := hSw.cell cxb_2 id; have ecxb_3 := hSw.cell cxb_3 id; have ecyb_0 := hSw.cell cyb_0 id; have ecyb_1 := hSw.cell cyb_1 id; have ecyb_2 := hSw.cell cyb_2 id; have ecyb_3 := hSw.cell cyb_3 id; have z1 := Z1.out; have z2 := Z2.out; go_simp <;> with_reducible rfl)
  try simp only [Act.put, List.setIfInBounds_toArray, List.set_cons_zero, List.set_cons_succ]
  refine wpAnyH_take (i := 11) (oi := { dst := some 34, op := Go.Op.load 25 (Go.Operand.tmp 3), type := 25, pos := "more.go:15", after := #[{ on := 1, ground := Go.Ground.guard }], guard := some (1, true) }) (v := ?v6) rfl (by kernel_rfl) (by kernel_rfl) (by kernel_rfl) (fun _ _ _ h => h) (Or.inl ⟨by rfl, ?hy6⟩) (by assumption) ?rest6
  case hy6 => (intro w hSw; (try dsimp only at hSw); have ecxb_0 := hSw.cell cxb_0 id; have ecxb_1 := hSw.cell cxb_1 id; have ecxb_2 := hSw.cell cxb_2 id; have ecxb_3 := hSw.cell cxb_3 id; have ecyb_0 := hSw.cell cyb_0 id; have ecyb_1 := hSw.cell cyb_1 id; have ecyb_2 := hSw.cell cyb_2 id; have ecyb_3 := hSw.cell cyb_3 id; have z1 := Z1.out; have z2 := Z2.out; go_simp <;> with_reducible rfl)
  try simp only [Act.put, List.setIfInBounds_toArray, List.set_cons_zero, List.set_cons_succ]
  refine wpAnyH_ready (rs := [3]) (by kernel_rfl) (by simp) ?_
  refine AllReadyH.cons (o := { dst := some 26, op := Go.Op.call { callee := Go.Callee.value (Go.Operand.func 7), args := #[Go.Operand.tmp 25], argTypes := #[25] }, type := 23, pos := "more.go:15", after := #[{ on := 2, ground := Go.Ground.data }, { on := 1, ground := Go.Ground.chain }, { on := 1, ground := Go.Ground.guard }], guard := some (1, true) }) rfl (fun K hK => ?_) AllReadyH.nil
  go_simp
  refine (mBytes_any _ (⟨xty, xco, xrest, xl⟩ : Ms) Ax cx _ OKX.out (RB.keep HX.out HX_wd.out (fun _ _ _ => id)) (by show xl.length ≤ _; omega)).mono ?_
  rintro e w3 ⟨A3, c3, rfl, ho, hx⟩
  have HO3 : Hid (OB w3 wd.heap.size (.slice (some A3) (8 + xl.length) c3) M1) := Lib.hid (by rw [HM1.out]; exact ho)
  clear ho
  have HX_w3 := Lib.hid hx
  clear hx
  have hS : Ex (fun _ => False) wb w3 := (HX_wd.out.trans HX_w3.out)
  refine hK.out _ _ hS (fun _ => ?_)
  refine wpAnyH_ready (rs := [4, 6]) (by kernel_rfl) (by simp) ?_
  refine AllReadyH.cons (o := { dst := some 27, op := Go.Op.convert 23 9 (Go.Operand.tmp 26), type := 9, pos := "more.go:15", after := #[{ on := 3, ground := Go.Ground.data }, { on := 1, ground := Go.Ground.guard }], guard := some (1, true) }) rfl (fun K hK => ?_) ?_
  ·
    have hcv := (HO3.out).rb.str (Pr := Try.prog) 23 9 5 Try.underlying23 Try.underlying5 Try.underlying9
    go_simp
    clear hcv
    have hx : Ex (fun _ => False) w3 w3 := Ex.refl _ _
    clear hx
    have hS : Ex (fun _ => False) wb w3 := (HX_wd.out.trans HX_w3.out)
    refine hK.out _ _ hS (fun _ => ?_)
    refine wpAnyH_ready (rs := [6]) (by kernel_rfl) (by simp) ?_
    refine AllReadyH.cons (o := { dst := some 29, op := Go.Op.call { callee := Go.Callee.value (Go.Operand.func 7), args := #[Go.Operand.tmp 28], argTypes := #[25] }, type := 23, pos := "more.go:15", after := #[{ on := 5, ground := Go.Ground.data }, { on := 3, ground := Go.Ground.chain }, { on := 1, ground := Go.Ground.guard }], guard := some (1, true) }) rfl (fun K hK => ?_) AllReadyH.nil
    go_simp
    refine (mBytes_any _ (⟨yty, yco, yrest, yl⟩ : Ms) Ay cy _ OKY.out (RB.keep HY.out (HX_wd.out.trans HX_w3.out) (fun _ _ _ => id)) (by show yl.length ≤ _; omega)).mono ?_
    rintro e w6 ⟨A6, c6, rfl, ho, hx⟩
    have HO6 : Hid (OB w6 w3.heap.size (.slice (some A6) (8 + yl.length) c6) M2) := Lib.hid (by rw [HM2.out]; exact ho)
    clear ho
    have HX_w6 := Lib.hid hx
    clear hx
    have hS : Ex (fun _ => False) wb w6 := ((HX_wd.out.trans HX_w3.out).trans HX_w6.out)
    refine hK.out _ _ hS (fun _ => ?_)
    refine wpAnyH_ready (rs := [7, 10]) (by kernel_rfl) (by simp) ?_
    refine AllReadyH.cons (o := { dst := some 30, op := Go.Op.convert 23 9 (Go.Operand.tmp 29), type := 9, pos := "more.go:15", after := #[{ on := 6, ground := Go.Ground.data }, { on := 1, ground := Go.Ground.guard }], guard := some (1, true) }) rfl (fun K hK => ?_) ?_
    ·
      have hcv := (HO6.out).rb.str (Pr := Try.prog) 23 9 5 Try.underlying23 Try.underlying5 Try.underlying9
      go_simp
      clear hcv
      have hx : Ex (fun _ => False) w6 w6 := Ex.refl _ _
      clear hx
      have hS : Ex (fun _ => False) wb w6 := ((HX_wd.out.trans HX_w3.out).trans HX_w6.out)
      refine hK.out _ _ hS (fun _ => ?_)
      refine wpAnyH_take (i := 8) (oi := { dst := some 31, op := Go.Op.binOp Go.BinOp.eql 9 (Go.Operand.tmp 27) (Go.Operand.tmp 30) 9, type := 4, pos := "more.go:15", after := #[{ on := 4, ground := Go.Ground.data }, { on := 7, ground := Go.Ground.data }, { on := 1, ground := Go.Ground.guard }], guard := some (1, true) }) (v := ?v7) rfl (by kernel_rfl) (by kernel_rfl) (by kernel_rfl) (fun _ _ _ h => h) (Or.inl ⟨by rfl, ?hy7⟩) (by assumption) ?rest7
      case hy7 => (intro w hSw; (try dsimp only at hSw); have ecxb_0 := hSw.cell cxb_0 id; have ecxb_1 := hSw.cell cxb_1 id; have ecxb_2 := hSw.cell cxb_2 id; have ecxb_3 := hSw.cell cxb_3 id; have ecyb_0 := hSw.cell cyb_0 id; have ecyb_1 := hSw.cell cyb_1 id; have ecyb_2 := hSw.cell cyb_2 id; have ecyb_3 := hSw.cell cyb_3 id; have z1 := Z1.out; have z2 := Z2.out; go_simp <;> with_reducible rfl)
      try simp only [Act.put, List.setIfInBounds_toArray, List.set_cons_zero, List.set_cons_succ]
      refine wpAnyH_ready (rs := [10]) (by kernel_rfl) (by simp) ?_
      refine AllReadyH.cons (o := { dst := some 33, op := Go.Op.call { callee := Go.Callee.value (Go.Operand.func 8), args := #[Go.Operand.tmp 32], argTypes := #[25] }, type := 29, pos := "more.go:15", after := #[{ on := 9, ground := Go.Ground.data }, { on := 6, ground := Go.Ground.chain }, { on := 1, ground := Go.Ground.guard }], guard := some (1, true) }) rfl (fun K hK => ?_) AllReadyH.nil
      go_simp
      refine (of7_any _ (⟨xty, xco, xrest, xl⟩ : Ms) Ax cx _ OKX.out (RB.keep HX.out ((HX_wd.out.trans HX_w3.out).trans HX_w6.out) (fun _ _ _ => id))).mono ?_
      rintro e w10 ⟨rfl, hx⟩
      have HX_w10 := Lib.hid hx
      clear hx
      have hS : Ex (fun _ => False) wb w10 := (((HX_wd.out.trans HX_w3.out).trans HX_w6.out).trans HX_w10.out)
      refine hK.out _ _ hS (fun _ => ?_)
      refine wpAnyH_ready (rs := [12]) (by kernel_rfl) (by simp) ?_
      refine AllReadyH.cons (o := { dst := some 35, op := Go.Op.call { callee := Go.Callee.value (Go.Operand.func 8), args := #[Go.Operand.tmp 34], argTypes := #[25] }, type := 29, pos := "more.go:15", after := #[{ on := 11, ground := Go.Ground.data }, { on := 10, ground := Go.Ground.chain }, { on := 1, ground := Go.Ground.guard }], guard := some (1, true) }) rfl (fun K hK => ?_) AllReadyH.nil
      go_simp
      refine (of7_any _ (⟨yty, yco, yrest, yl⟩ : Ms) Ay cy _ OKY.out (RB.keep HY.out (((HX_wd.out.trans HX_w3.out).trans HX_w6.out).trans HX_w10.out) (fun _ _ _ => id))).mono ?_
      rintro e w12 ⟨rfl, hx⟩
      have HX_w12 := Lib.hid hx
      clear hx
      have hS : Ex (fun _ => False) wb w12 := ((((HX_wd.out.trans HX_w3.out).trans HX_w6.out).trans HX_w10.out).trans HX_w12.out)
      refine hK.out _ _ hS (fun _ => ?_)
      refine wpAnyH_take (i := 13) (oi := { dst := some 36, op := Go.Op.binOp Go.BinOp.eql 29 (Go.Operand.tmp 33) (Go.Operand.tmp 35) 29, type := 4, pos := "more.go:15", after := #[{ on := 10, ground := Go.Ground.data }, { on := 12, ground := Go.Ground.data }, { on := 1, ground := Go.Ground.guard }], guard := some (1, true) }) (v := ?v8) rfl (by kernel_rfl) (by kernel_rfl) (by kernel_rfl) (fun _ _ _ h => h) (Or.inl ⟨by rfl, ?hy8⟩) (by assumption) ?rest8
      case hy8 => (intro w hSw; (try dsimp only at hSw); have ecxb_0 := hSw.cell cxb_0 id; have ecxb_1 := hSw.cell cxb_1 id; have ecxb_2 := hSw.cell cxb_2 id; have ecxb_3 := hSw.cell cxb_3 id; have ecyb_0 := hSw.cell cyb_0 id; have ecyb_1 := hSw.cell cyb_1 id; have ecyb_2 := hSw.cell cyb_2 id; have ecyb_3 := hSw.cell cyb_3 id; have z1 := Z1.out; have z2 := Z2.out; go_simp <;> with_reducible rfl)
      try simp only [Act.put, List.setIfInBounds_toArray, List.set_cons_zero, List.set_cons_succ]
      refine wpAnyH_take (i := 14) (oi := { dst := some 37, op := Go.Op.binOp Go.BinOp.eql 4 (Go.Operand.tmp 31) (Go.Operand.tmp 36) 4, type := 4, pos := "more.go:15", after := #[{ on := 8, ground := Go.Ground.data }, { on := 13, ground := Go.Ground.data }, { on := 1, ground := Go.Ground.guard }], guard := some (1, true) }) (v := ?v9) rfl (by kernel_rfl) (by kernel_rfl) (by kernel_rfl) (fun _ _ _ h => h) (Or.inl ⟨by rfl, ?hy9⟩) (by assumption) ?rest9
      case hy9 => (intro w hSw; (try dsimp only at hSw); have ecxb_0 := hSw.cell cxb_0 id; have ecxb_1 := hSw.cell cxb_1 id; have ecxb_2 := hSw.cell cxb_2 id; have ecxb_3 := hSw.cell cxb_3 id; have ecyb_0 := hSw.cell cyb_0 id; have ecyb_1 := hSw.cell cyb_1 id; have ecyb_2 := hSw.cell cyb_2 id; have ecyb_3 := hSw.cell cyb_3 id; have z1 := Z1.out; have z2 := Z2.out; go_simp <;> with_reducible rfl)
      try simp only [Act.put, List.setIfInBounds_toArray, List.set_cons_zero, List.set_cons_succ]
      refine wpAnyH_take (i := 15) (oi := { dst := some 38, op := Go.Op.pick (Go.Operand.tmp 24) (Go.Operand.tmp 37) (Go.Operand.const (Go.Value.bool false)), type := 4, pos := "more.go:15", after := #[{ on := 1, ground := Go.Ground.data }, { on := 14, ground := Go.Ground.data }], guard := none }) (v := ?v10) rfl (by kernel_rfl) (by kernel_rfl) (by kernel_rfl) (fun _ _ _ h => h) (Or.inl ⟨by rfl, ?hy10⟩) (by assumption) ?rest10
      case hy10 => (intro w hSw; (try dsimp only at hSw); have ecxb_0 := hSw.cell cxb_0 id; have ecxb_1 := hSw.cell cxb_1 id; have ecxb_2 := hSw.cell cxb_2 id; have ecxb_3 := hSw.cell cxb_3 id; have ecyb_0 := hSw.cell cyb_0 id; have ecyb_1 := hSw.cell cyb_1 id; have ecyb_2 := hSw.cell cyb_2 id; have ecyb_3 := hSw.cell cyb_3 id; have z1 := Z1.out; have z2 := Z2.out; go_simp <;> with_reducible rfl)
      try simp only [Act.put, List.setIfInBounds_toArray, List.set_cons_zero, List.set_cons_succ]
      refine wpAnyH_take (i := 16) (oi := { dst := some 4, op := Go.Op.assign (Go.Operand.tmp 38), type := 4, pos := "more.go:15", after := #[{ on := 15, ground := Go.Ground.data }, { on := 12, ground := Go.Ground.chain }, { on := 0, ground := Go.Ground.phase }, { on := 1, ground := Go.Ground.phase }, { on := 2, ground := Go.Ground.phase }, { on := 3, ground := Go.Ground.phase }, { on := 4, ground := Go.Ground.phase }, { on := 5, ground := Go.Ground.phase }, { on := 6, ground := Go.Ground.phase }, { on := 7, ground := Go.Ground.phase }, { on := 8, ground := Go.Ground.phase }, { on := 9, ground := Go.Ground.phase }, { on := 10, ground := Go.Ground.phase }, { on := 11, ground := Go.Ground.phase }, { on := 12, ground := Go.Ground.phase }, { on := 13, ground := Go.Ground.phase }, { on := 14, ground := Go.Ground.phase }, { on := 15, ground := Go.Ground.phase }], guard := none }) (v := ?v11) rfl (by kernel_rfl) (by kernel_rfl) (by kernel_rfl) (fun _ _ _ h => h) (Or.inl ⟨by rfl, ?hy11⟩) (by assumption) ?rest11
      case hy11 => (intro w hSw; (try dsimp only at hSw); have ecxb_0 := hSw.cell cxb_0 id; have ecxb_1 := hSw.cell cxb_1 id; have ecxb_2 := hSw.cell cxb_2 id; have ecxb_3 := hSw.cell cxb_3 id; have ecyb_0 := hSw.cell cyb_0 id; have ecyb_1 := hSw.cell cyb_1 id; have ecyb_2 := hSw.cell cyb_2 id; have ecyb_3 := hSw.cell cyb_3 id; have z1 := Z1.out; have z2 := Z2.out; go_simp <;> with_reducible rfl)
      try simp only [Act.put, List.setIfInBounds_toArray, List.set_cons_zero, List.set_cons_succ]
      refine wpAnyH_done (by kernel_rfl) ?_ _
      have HXE := Lib.hid (((((HX_wd.out.trans HX_w3.out).trans HX_w6.out).trans HX_w10.out).trans HX_w12.out))
      go_wp2_with fail
      go_ret
      exact ⟨rfl, HXB.out.trans HXE.out⟩
    refine AllReadyH.cons (o := { dst := some 33, op := Go.Op.call { callee := Go.Callee.value (Go.Operand.func 8), args := #[Go.Operand.tmp 32], argTypes := #[25] }, type := 29, pos := "more.go:15", after := #[{ on := 9, ground := Go.Ground.data }, { on := 6, ground := Go.Ground.chain }, { on := 1, ground := Go.Ground.guard }], guard := some (1, true) }) rfl (fun K hK => ?_) AllReadyH.nil
    go_simp
    refine (of7_any _ (⟨xty, xco, xrest, xl⟩ : Ms) Ax cx _ OKX.out (RB.keep HX.out ((HX_wd.out.trans HX_w3.out).trans HX_w6.out) (fun _ _ _ => id))).mono ?_
    rintro e w10 ⟨rfl, hx⟩
    have HX_w10 := Lib.hid hx
    clear hx
    have hS : Ex (fun _ => False) wb w10 := (((HX_wd.out.trans HX_w3.out).trans HX_w6.out).trans HX_w10.out)
    refine hK.out _ _ hS (fun _ => ?_)
    refine wpAnyH_ready (rs := [7, 12]) (by kernel_rfl) (by simp) ?_
    refine AllReadyH.cons (o := { dst := some 30, op := Go.Op.convert 23 9 (Go.Operand.tmp 29), type := 9, pos := "more.go:15", after := #[{ on := 6, ground := Go.Ground.data }, { on := 1, ground := Go.Ground.guard }], guard := some (1, true) }) rfl (fun K hK => ?_) ?_
    ·
      have hcv := ((OB.keep HO6.out HX_w10.out (fun _ _ _ _ => id))).rb.str (Pr := Try.prog) 23 9 5 Try.underlying23 Try.underlying5 Try.underlying9
      go_simp
      clear hcv
      have hx : Ex (fun _ => False) w10 w10 := Ex.refl _ _
      clear hx
      have hS : Ex (fun _ => False) wb w10 := (((HX_wd.out.trans HX_w3.out).trans HX_w6.out).trans HX_w10.out)
      refine hK.out _ _ hS (fun _ => ?_)
      refine wpAnyH_take (i := 8) (oi := { dst := some 31, op := Go.Op.binOp Go.BinOp.eql 9 (Go.Operand.tmp 27) (Go.Operand.tmp 30) 9, type := 4, pos := "more.go:15", after := #[{ on := 4, ground := Go.Ground.data }, { on := 7, ground := Go.Ground.data }, { on := 1, ground := Go.Ground.guard }], guard := some (1, true) }) (v := ?v12) rfl (by kernel_rfl) (by kernel_rfl) (by kernel_rfl) (fun _ _ _ h => h) (Or.inl ⟨by rfl, ?hy12⟩) (by assumption) ?rest12
      case hy12 => (intro w hSw; (try dsimp only at hSw); have ecxb_0 := hSw.cell cxb_0 id; have ecxb_1 := hSw.cell cxb_1 id; have ecxb_2 := hSw.cell cxb_2 id; have ecxb_3 := hSw.cell cxb_3 id; have ecyb_0 := hSw.cell cyb_0 id; have ecyb_1 := hSw.cell cyb_1 id; have ecyb_2 := hSw.cell cyb_2 id; have ecyb_3 := hSw.cell cyb_3 id; have z1 := Z1.out; have z2 := Z2.out; go_simp <;> with_reducible rfl)
      try simp only [Act.put, List.setIfInBounds_toArray, List.set_cons_zero, List.set_cons_succ]
      refine wpAnyH_ready (rs := [12]) (by kernel_rfl) (by simp) ?_
      refine AllReadyH.cons (o := { dst := some 35, op := Go.Op.call { callee := Go.Callee.value (Go.Operand.func 8), args := #[Go.Operand.tmp 34], argTypes := #[25] }, type := 29, pos := "more.go:15", after := #[{ on := 11, ground := Go.Ground.data }, { on := 10, ground := Go.Ground.chain }, { on := 1, ground := Go.Ground.guard }], guard := some (1, true) }) rfl (fun K hK => ?_) AllReadyH.nil
      go_simp
      refine (of7_any _ (⟨yty, yco, yrest, yl⟩ : Ms) Ay cy _ OKY.out (RB.keep HY.out (((HX_wd.out.trans HX_w3.out).trans HX_w6.out).trans HX_w10.out) (fun _ _ _ => id))).mono ?_
      rintro e w12 ⟨rfl, hx⟩
      have HX_w12 := Lib.hid hx
      clear hx
      have hS : Ex (fun _ => False) wb w12 := ((((HX_wd.out.trans HX_w3.out).trans HX_w6.out).trans HX_w10.out).trans HX_w12.out)
      refine hK.out _ _ hS (fun _ => ?_)
      refine wpAnyH_take (i := 13) (oi := { dst := some 36, op := Go.Op.binOp Go.BinOp.eql 29 (Go.Operand.tmp 33) (Go.Operand.tmp 35) 29, type := 4, pos := "more.go:15", after := #[{ on := 10, ground := Go.Ground.data }, { on := 12, ground := Go.Ground.data }, { on := 1, ground := Go.Ground.guard }], guard := some (1, true) }) (v := ?v13) rfl (by kernel_rfl) (by kernel_rfl) (by kernel_rfl) (fun _ _ _ h => h) (Or.inl ⟨by rfl, ?hy13⟩) (by assumption) ?rest13
      case hy13 => (intro w hSw; (try dsimp only at hSw); have ecxb_0 := hSw.cell cxb_0 id; have ecxb_1 := hSw.cell cxb_1 id; have ecxb_2 := hSw.cell cxb_2 id; have ecxb_3 := hSw.cell cxb_3 id; have ecyb_0 := hSw.cell cyb_0 id; have ecyb_1 := hSw.cell cyb_1 id; have ecyb_2 := hSw.cell cyb_2 id; have ecyb_3 := hSw.cell cyb_3 id; have z1 := Z1.out; have z2 := Z2.out; go_simp <;> with_reducible rfl)
      try simp only [Act.put, List.setIfInBounds_toArray, List.set_cons_zero, List.set_cons_succ]
      refine wpAnyH_take (i := 14) (oi := { dst := some 37, op := Go.Op.binOp Go.BinOp.eql 4 (Go.Operand.tmp 31) (Go.Operand.tmp 36) 4, type := 4, pos := "more.go:15", after := #[{ on := 8, ground := Go.Ground.data }, { on := 13, ground := Go.Ground.data }, { on := 1, ground := Go.Ground.guard }], guard := some (1, true) }) (v := ?v14) rfl (by kernel_rfl) (by kernel_rfl) (by kernel_rfl) (fun _ _ _ h => h) (Or.inl ⟨by rfl, ?hy14⟩) (by assumption) ?rest14
      case hy14 => (intro w hSw; (try dsimp only at hSw); have ecxb_0 := hSw.cell cxb_0 id; have ecxb_1 := hSw.cell cxb_1 id; have ecxb_2 := hSw.cell cxb_2 id; have ecxb_3 := hSw.cell cxb_3 id; have ecyb_0 := hSw.cell cyb_0 id; have ecyb_1 := hSw.cell cyb_1 id; have ecyb_2 := hSw.cell cyb_2 id; have ecyb_3 := hSw.cell cyb_3 id; have z1 := Z1.out; have z2 := Z2.out; go_simp <;> with_reducible rfl)
      try simp only [Act.put, List.setIfInBounds_toArray, List.set_cons_zero, List.set_cons_succ]
      refine wpAnyH_take (i := 15) (oi := { dst := some 38, op := Go.Op.pick (Go.Operand.tmp 24) (Go.Operand.tmp 37) (Go.Operand.const (Go.Value.bool false)), type := 4, pos := "more.go:15", after := #[{ on := 1, ground := Go.Ground.data }, { on := 14, ground := Go.Ground.data }], guard := none }) (v := ?v15) rfl (by kernel_rfl) (by kernel_rfl) (by kernel_rfl) (fun _ _ _ h => h) (Or.inl ⟨by rfl, ?hy15⟩) (by assumption) ?rest15
      case hy15 => (intro w hSw; (try dsimp only at hSw); have ecxb_0 := hSw.cell cxb_0 id; have ecxb_1 := hSw.cell cxb_1 id; have ecxb_2 := hSw.cell cxb_2 id; have ecxb_3 := hSw.cell cxb_3 id; have ecyb_0 := hSw.cell cyb_0 id; have ecyb_1 := hSw.cell cyb_1 id; have ecyb_2 := hSw.cell cyb_2 id; have ecyb_3 := hSw.cell cyb_3 id; have z1 := Z1.out; have z2 := Z2.out; go_simp <;> with_reducible rfl)
      try simp only [Act.put, List.setIfInBounds_toArray, List.set_cons_zero, List.set_cons_succ]
      refine wpAnyH_take (i := 16) (oi := { dst := some 4, op := Go.Op.assign (Go.Operand.tmp 38), type := 4, pos := "more.go:15", after := #[{ on := 15, ground := Go.Ground.data }, { on := 12, ground := Go.Ground.chain }, { on := 0, ground := Go.Ground.phase }, { on := 1, ground := Go.Ground.phase }, { on := 2, ground := Go.Ground.phase }, { on := 3, ground := Go.Ground.phase }, { on := 4, ground := Go.Ground.phase }, { on := 5, ground := Go.Ground.phase }, { on := 6, ground := Go.Ground.phase }, { on := 7, ground := Go.Ground.phase }, { on := 8, ground := Go.Ground.phase }, { on := 9, ground := Go.Ground.phase }, { on := 10, ground := Go.Ground.phase }, { on := 11, ground := Go.Ground.phase }, { on := 12, ground := Go.Ground.phase }, { on := 13, ground := Go.Ground.phase }, { on := 14, ground := Go.Ground.phase }, { on := 15, ground := Go.Ground.phase }], guard := none }) (v := ?v16) rfl (by kernel_rfl) (by kernel_rfl) (by kernel_rfl) (fun _ _ _ h => h) (Or.inl ⟨by rfl, ?hy16⟩) (by assumption) ?rest16
      case hy16 => (intro w hSw; (try dsimp only at hSw); have ecxb_0 := hSw.cell cxb_0 id; have ecxb_1 := hSw.cell cxb_1 id; have ecxb_2 := hSw.cell cxb_2 id; have ecxb_3 := hSw.cell cxb_3 id; have ecyb_0 := hSw.cell cyb_0 id; have ecyb_1 := hSw.cell cyb_1 id; have ecyb_2 := hSw.cell cyb_2 id; have ecyb_3 := hSw.cell cyb_3 id; have z1 := Z1.out; have z2 := Z2.out; go_simp <;> with_reducible rfl)
      try simp only [Act.put, List.setIfInBounds_toArray, List.set_cons_zero, List.set_cons_succ]
      refine wpAnyH_done (by kernel_rfl) ?_ _
      have HXE := Lib.hid (((((HX_wd.out.trans HX_w3.out).trans HX_w6.out).trans HX_w10.out).trans HX_w12.out))
      go_wp2_with fail
      go_ret
      exact ⟨rfl, HXB.out.trans HXE.out⟩
    refine AllReadyH.cons (o := { dst := some 35, op := Go.Op.call { callee := Go.Callee.value (Go.Operand.func 8), args := #[Go.Operand.tmp 34], argTypes := #[25] }, type := 29, pos := "more.go:15", after := #[{ on := 11, ground := Go.Ground.data }, { on := 10, ground := Go.Ground.chain }, { on := 1, ground := Go.Ground.guard }], guard := some (1, true) }) rfl (fun K hK => ?_) AllReadyH.nil
    go_simp
    refine (of7_any _ (⟨yty, yco, yrest, yl⟩ : Ms) Ay cy _ OKY.out (RB.keep HY.out (((HX_wd.out.trans HX_w3.out).trans HX_w6.out).trans HX_w10.out) (fun _ _ _ => id))).mono ?_
    rintro e w12 ⟨rfl, hx⟩
    have HX_w12 := Lib.hid hx
    clear hx
    have hS : Ex (fun _ => False) wb w12 := ((((HX_wd.out.trans HX_w3.out).trans HX_w6.out).trans HX_w10.out).trans HX_w12.out)
    refine hK.out _ _ hS (fun _ => ?_)
    refine wpAnyH_take (i := 13) (oi := { dst := some 36, op := Go.Op.binOp Go.BinOp.eql 29 (Go.Operand.tmp 33) (Go.Operand.tmp 35) 29, type := 4, pos := "more.go:15", after := #[{ on := 10, ground := Go.Ground.data }, { on := 12, ground := Go.Ground.data }, { on := 1, ground := Go.Ground.guard }], guard := some (1, true) }) (v := ?v17) rfl (by kernel_rfl) (by kernel_rfl) (by kernel_rfl) (fun _ _ _ h => h) (Or.inl ⟨by rfl, ?hy17⟩) (by assumption) ?rest17
    case hy17 => (intro w hSw; (try dsimp only at hSw); have ecxb_0 := hSw.cell cxb_0 id; have ecxb_1 := hSw.cell cxb_1 id; have ecxb_2 := hSw.cell cxb_2 id; have ecxb_3 := hSw.cell cxb_3 id; have ecyb_0 := hSw.cell cyb_0 id; have ecyb_1 := hSw.cell cyb_1 id; have ecyb_2 := hSw.cell cyb_2 id; have ecyb_3 := hSw.cell cyb_3 id; have z1 := Z1.out; have z2 := Z2.out; go_simp <;> with_reducible rfl)
    try simp only [Act.put, List.setIfInBounds_toArray, List.set_cons_zero, List.set_cons_succ]
    refine wpAnyH_ready (rs := [7]) (by kernel_rfl) (by simp) ?_
    refine AllReadyH.cons (o := { dst := some 30, op := Go.Op.convert 23 9 (Go.Operand.tmp 29), type := 9, pos := "more.go:15", after := #[{ on := 6, ground := Go.Ground.data }, { on := 1, ground := Go.Ground.guard }], guard := some (1, true) }) rfl (fun K hK => ?_) AllReadyH.nil
    have hcv := ((OB.keep HO6.out (HX_w10.out.trans HX_w12.out) (fun _ _ _ _ => id))).rb.str (Pr := Try.prog) 23 9 5 Try.underlying23 Try.underlying5 Try.underlying9
    go_simp
    clear hcv
    have hx : Ex (fun _ => False) w12 w12 := Ex.refl _ _
    clear hx
    have hS : Ex (fun _ => False) wb w12 := ((((HX_wd.out.trans HX_w3.out).trans HX_w6.out).trans HX_w10.out).trans HX_w12.out)
    refine hK.out _ _ hS (fun _ => ?_)
    refine wpAnyH_take (i := 8) (oi := { dst := some 31, op := Go.Op.binOp Go.BinOp.eql 9 (Go.Operand.tmp 27) (Go.Operand.tmp 30) 9, type := 4, pos := "more.go:15", after := #[{ on := 4, ground := Go.Ground.data }, { on := 7, ground := Go.Ground.data }, { on := 1, ground := Go.Ground.guard }], guard := some (1, true) }) (v := ?v18) rfl (by kernel_rfl) (by kernel_rfl) (by kernel_rfl) (fun _ _ _ h => h) (Or.inl ⟨by rfl, ?hy18⟩) (by assumption) ?rest18
    case hy18 => (intro w hSw; (try dsimp only at hSw); have ecxb_0 := hSw.cell cxb_0 id; have ecxb_1 := hSw.cell cxb_1 id; have ecxb_2 := hSw.cell cxb_2 id; have ecxb_3 := hSw.cell cxb_3 id; have ecyb_0 := hSw.cell cyb_0 id; have ecyb_1 := hSw.cell cyb_1 id; have ecyb_2 := hSw.cell cyb_2 id; have ecyb_3 := hSw.cell cyb_3 id; have z1 := Z1.out; have z2 := Z2.out; go_simp <;> with_reducible rfl)
    try simp only [Act.put, List.setIfInBounds_toArray, List.set_cons_zero, List.set_cons_succ]
    refine wpAnyH_take (i := 14) (oi := { dst := some 37, op := Go.Op.binOp Go.BinOp.eql 4 (Go.Operand.tmp 31) (Go.Operand.tmp 36) 4, type := 4, pos := "more.go:15", after := #[{ on := 8, ground := Go.Ground.data }, { on := 13, ground := Go.Ground.data }, { on := 1, ground := Go.Ground.guard }], guard := some (1, true) }) (v := ?v19) rfl (by kernel_rfl) (by kernel_rfl) (by kernel_rfl) (fun _ _ _ h => h) (Or.inl ⟨by rfl, ?hy19⟩) (by assumption) ?rest19
    case hy19 => (intro w hSw; (try dsimp only at hSw); have ecxb_0 := hSw.cell cxb_0 id; have ecxb_1 := hSw.cell cxb_1 id; have ecxb_2 := hSw.cell cxb_2 id; have ecxb_3 := hSw.cell cxb_3 id; have ecyb_0 := hSw.cell cyb_0 id; have ecyb_1 := hSw.cell cyb_1 id; have ecyb_2 := hSw.cell cyb_2 id; have ecyb_3 := hSw.cell cyb_3 id; have z1 := Z1.out; have z2 := Z2.out; go_simp <;> with_reducible rfl)
    try simp only [Act.put, List.setIfInBounds_toArray, List.set_cons_zero, List.set_cons_succ]
    refine wpAnyH_take (i := 15) (oi := { dst := some 38, op := Go.Op.pick (Go.Operand.tmp 24) (Go.Operand.tmp 37) (Go.Operand.const (Go.Value.bool false)), type := 4, pos := "more.go:15", after := #[{ on := 1, ground := Go.Ground.data }, { on := 14, ground := Go.Ground.data }], guard := none }) (v := ?v20) rfl (by kernel_rfl) (by kernel_rfl) (by kernel_rfl) (fun _ _ _ h => h) (Or.inl ⟨by rfl, ?hy20⟩) (by assumption) ?rest20
    case hy20 => (intro w hSw; (try dsimp only at hSw); have ecxb_0 := hSw.cell cxb_0 id; have ecxb_1 := hSw.cell cxb_1 id; have ecxb_2 := hSw.cell cxb_2 id; have ecxb_3 := hSw.cell cxb_3 id; have ecyb_0 := hSw.cell cyb_0 id; have ecyb_1 := hSw.cell cyb_1 id; have ecyb_2 := hSw.cell cyb_2 id; have ecyb_3 := hSw.cell cyb_3 id; have z1 := Z1.out; have z2 := Z2.out; go_simp <;> with_reducible rfl)
    try simp only [Act.put, List.setIfInBounds_toArray, List.set_cons_zero, List.set_cons_succ]
    refine wpAnyH_take (i := 16) (oi := { dst := some 4, op := Go.Op.assign (Go.Operand.tmp 38), type := 4, pos := "more.go:15", after := #[{ on := 15, ground := Go.Ground.data }, { on := 12, ground := Go.Ground.chain }, { on := 0, ground := Go.Ground.phase }, { on := 1, ground := Go.Ground.phase }, { on := 2, ground := Go.Ground.phase }, { on := 3, ground := Go.Ground.phase }, { on := 4, ground := Go.Ground.phase }, { on := 5, ground := Go.Ground.phase }, { on := 6, ground := Go.Ground.phase }, { on := 7, ground := Go.Ground.phase }, { on := 8, ground := Go.Ground.phase }, { on := 9, ground := Go.Ground.phase }, { on := 10, ground := Go.Ground.phase }, { on := 11, ground := Go.Ground.phase }, { on := 12, ground := Go.Ground.phase }, { on := 13, ground := Go.Ground.phase }, { on := 14, ground := Go.Ground.phase }, { on := 15, ground := Go.Ground.phase }], guard := none }) (v := ?v21) rfl (by kernel_rfl) (by kernel_rfl) (by kernel_rfl) (fun _ _ _ h => h) (Or.inl ⟨by rfl, ?hy21⟩) (by assumption) ?rest21
    case hy21 => (intro w hSw; (try dsimp only at hSw); have ecxb_0 := hSw.cell cxb_0 id; have ecxb_1 := hSw.cell cxb_1 id; have ecxb_2 := hSw.cell cxb_2 id; have ecxb_3 := hSw.cell cxb_3 id; have ecyb_0 := hSw.cell cyb_0 id; have ecyb_1 := hSw.cell cyb_1 id; have ecyb_2 := hSw.cell cyb_2 id; have ecyb_3 := hSw.cell cyb_3 id; have z1 := Z1.out; have z2 := Z2.out; go_simp <;> with_reducible rfl)
    try simp only [Act.put, List.setIfInBounds_toArray, List.set_cons_zero, List.set_cons_succ]
    refine wpAnyH_done (by kernel_rfl) ?_ _
    have HXE := Lib.hid (((((HX_wd.out.trans HX_w3.out).trans HX_w6.out).trans HX_w10.out).trans HX_w12.out))
    go_wp2_with fail
    go_ret
    exact ⟨rfl, HXB.out.trans HXE.out⟩
  refine AllReadyH.cons (o := { dst := some 29, op := Go.Op.call { callee := Go.Callee.value (Go.Operand.func 7), args := #[Go.Operand.tmp 28], argTypes := #[25] }, type := 23, pos := "more.go:15", after := #[{ on := 5, ground := Go.Ground.data }, { on := 3, ground := Go.Ground.chain }, { on := 1, ground := Go.Ground.guard }], guard := some (1, true) }) rfl (fun K hK => ?_) AllReadyH.nil
  go_simp
  refine (mBytes_any _ (⟨yty, yco, yrest, yl⟩ : Ms) Ay cy _ OKY.out (RB.keep HY.out (HX_wd.out.trans HX_w3.out) (fun _ _ _ => id)) (by show yl.length ≤ _; omega)).mono ?_
  rintro e w6 ⟨A6, c6, rfl, ho, hx⟩
  have HO6 : Hid (OB w6 w3.heap.size (.slice (some A6) (8 + yl.length) c6) M2) := Lib.hid (by rw [HM2.out]; exact ho)
  clear ho
  have HX_w6 := Lib.hid hx
  clear hx
  have hS : Ex (fun _ => False) wb w6 := ((HX_wd.out.trans HX_w3.out).trans HX_w6.out)
  refine hK.out _ _ hS (fun _ => ?_)
  refine wpAnyH_ready (rs := [4, 7, 10]) (by kernel_rfl) (by simp) ?_
  refine AllReadyH.cons (o := { dst := some 27, op := Go.Op.convert 23 9 (Go.Operand.tmp 26), type := 9, pos := "more.go:15", after := #[{ on := 3, ground := Go.Ground.data }, { on := 1, ground := Go.Ground.guard }], guard := some (1, true) }) rfl (fun K hK => ?_) ?_
  ·
    have hcv := ((OB.keep HO3.out HX_w6.out (fun _ _ _ _ => id))).rb.str (Pr := Try.prog) 23 9 5 Try.underlying23 Try.underlying5 Try.underlying9
    go_simp
    clear hcv
    have hx : Ex (fun _ => False) w6 w6 := Ex.refl _ _
    clear hx
    have hS : Ex (fun _ => False) wb w6 := ((HX_wd.out.trans HX_w3.out).trans HX_w6.out)
    refine hK.out _ _ hS (fun _ => ?_)
    refine wpAnyH_ready (rs := [7, 10]) (by kernel_rfl) (by simp) ?_
    refine AllReadyH.cons (o := { dst := some 30, op := Go.Op.convert 23 9 (Go.Operand.tmp 29), type := 9, pos := "more.go:15", after := #[{ on := 6, ground := Go.Ground.data }, { on := 1, ground := Go.Ground.guard }], guard := some (1, true) }) rfl (fun K hK => ?_) ?_
    ·
      have hcv := (HO6.out).rb.str (Pr := Try.prog) 23 9 5 Try.underlying23 Try.underlying5 Try.underlying9
      go_simp
      clear hcv
      have hx : Ex (fun _ => False) w6 w6 := Ex.refl _ _
      clear hx
      have hS : Ex (fun _ => False) wb w6 := ((HX_wd.out.trans HX_w3.out).trans HX_w6.out)
      refine hK.out _ _ hS (fun _ => ?_)
      refine wpAnyH_take (i := 8) (oi := { dst := some 31, op := Go.Op.binOp Go.BinOp.eql 9 (Go.Operand.tmp 27) (Go.Operand.tmp 30) 9, type := 4, pos := "more.go:15", after := #[{ on := 4, ground := Go.Ground.data }, { on := 7, ground := Go.Ground.data }, { on := 1, ground := Go.Ground.guard }], guard := some (1, true) }) (v := ?v22) rfl (by kernel_rfl) (by kernel_rfl) (by kernel_rfl) (fun _ _ _ h => h) (Or.inl ⟨by rfl, ?hy22⟩) (by assumption) ?rest22
      case hy22 => (intro w hSw; (try dsimp only at hSw); have ecxb_0 := hSw.cell cxb_0 id; have ecxb_1 := hSw.cell cxb_1 id; have ecxb_2 := hSw.cell cxb_2 id; have ecxb_3 := hSw.cell cxb_3 id; have ecyb_0 := hSw.cell cyb_0 id; have ecyb_1 := hSw.cell cyb_1 id; have ecyb_2 := hSw.cell cyb_2 id; have ecyb_3 := hSw.cell cyb_3 id; have z1 := Z1.out; have z2 := Z2.out; go_simp <;> with_reducible rfl)
      try simp only [Act.put, List.setIfInBounds_toArray, List.set_cons_zero, List.set_cons_succ]
      refine wpAnyH_ready (rs := [10]) (by kernel_rfl) (by simp) ?_
      refine AllReadyH.cons (o := { dst := some 33, op := Go.Op.call { callee := Go.Callee.value (Go.Operand.func 8), args := #[Go.Operand.tmp 32], argTypes := #[25] }, type := 29, pos := "more.go:15", after := #[{ on := 9, ground := Go.Ground.data }, { on := 6, ground := Go.Ground.chain }, { on := 1, ground := Go.Ground.guard }], guard := some (1, true) }) rfl (fun K hK => ?_) AllReadyH.nil
      go_simp
      refine (of7_any _ (⟨xty, xco, xrest, xl⟩ : Ms) Ax cx _ OKX.out (RB.keep HX.out ((HX_wd.out.trans HX_w3.out).trans HX_w6.out) (fun _ _ _ => id))).mono ?_
      rintro e w10 ⟨rfl, hx⟩
      have HX_w10 := Lib.hid hx
      clear hx
      have hS : Ex (fun _ => False) wb w10 := (((HX_wd.out.trans HX_w3.out).trans HX_w6.out).trans HX_w10.out)
      refine hK.out _ _ hS (fun _ => ?_)
      refine wpAnyH_ready (rs := [12]) (by kernel_rfl) (by simp) ?_
      refine AllReadyH.cons (o := { dst := some 35, op := Go.Op.call { callee := Go.Callee.value (Go.Operand.func 8), args := #[Go.Operand.tmp 34], argTypes := #[25] }, type := 29, pos := "more.go:15", after := #[{ on := 11, ground := Go.Ground.data }, { on := 10, ground := Go.Ground.chain }, { on := 1, ground := Go.Ground.guard }], guard := some (1, true) }) rfl (fun K hK => ?_) AllReadyH.nil
      go_simp
      refine (of7_any _ (⟨yty, yco, yrest, yl⟩ : Ms) Ay cy _ OKY.out (RB.keep HY.out (((HX_wd.out.trans HX_w3.out).trans HX_w6.out).trans HX_w10.out) (fun _ _ _ => id))).mono ?_
      rintro e w12 ⟨rfl, hx⟩
      have HX_w12 := Lib.hid hx
      clear hx
      have hS : Ex (fun _ => False) wb w12 := ((((HX_wd.out.trans HX_w3.out).trans HX_w6.out).trans HX_w10.out).trans HX_w12.out)
      refine hK.out _ _ hS (fun _ => ?_)
      refine wpAnyH_take (i := 13) (oi := { dst := some 36, op := Go.Op.binOp Go.BinOp.eql 29 (Go.Operand.tmp 33) (Go.Operand.tmp 35) 29, type := 4, pos := "more.go:15", after := #[{ on := 10, ground := Go.Ground.data }, { on := 12, ground := Go.Ground.data }, { on := 1, ground := Go.Ground.guard }], guard := some (1, true) }) (v := ?v23) rfl (by kernel_rfl) (by kernel_rfl) (by kernel_rfl) (fun _ _ _ h => h) (Or.inl ⟨by rfl, ?hy23⟩) (by assumption) ?rest23
      case hy23 => (intro w hSw; (try dsimp only at hSw); have ecxb_0 := hSw.cell cxb_0 id; have ecxb_1 := hSw.cell cxb_1 id; have ecxb_2 := hSw.cell cxb_2 id; have ecxb_3 := hSw.cell cxb_3 id; have ecyb_0 := hSw.cell cyb_0 id; have ecyb_1 := hSw.cell cyb_1 id; have ecyb_2 := hSw.cell cyb_2 id; have ecyb_3 := hSw.cell cyb_3 id; have z1 := Z1.out; have z2 := Z2.out; go_simp <;> with_reducible rfl)
      try simp only [Act.put, List.setIfInBounds_toArray, List.set_cons_zero, List.set_cons_succ]
      refine wpAnyH_take (i := 14) (oi := { dst := some 37, op := Go.Op.binOp Go.BinOp.eql 4 (Go.Operand.tmp 31) (Go.Operand.tmp 36) 4, type := 4, pos := "more.go:15", after := #[{ on := 8, ground := Go.Ground.data }, { on := 13, ground := Go.Ground.data }, { on := 1, ground := Go.Ground.guard }], guard := some (1, true) }) (v := ?v24) rfl (by kernel_rfl) (by kernel_rfl) (by kernel_rfl) (fun _ _ _ h => h) (Or.inl ⟨by rfl, ?hy24⟩) (by assumption) ?rest24
      case hy24 => (intro w hSw; (try dsimp only at hSw); have ecxb_0 := hSw.cell cxb_0 id; have ecxb_1 := hSw.cell cxb_1 id; have ecxb_2 := hSw.cell cxb_2 id; have ecxb_3 := hSw.cell cxb_3 id; have ecyb_0 := hSw.cell cyb_0 id; have ecyb_1 := hSw.cell cyb_1 id; have ecyb_2 := hSw.cell cyb_2 id; have ecyb_3 := hSw.cell cyb_3 id; have z1 := Z1.out; have z2 := Z2.out; go_simp <;> with_reducible rfl)
      try simp only [Act.put, List.setIfInBounds_toArray, List.set_cons_zero, List.set_cons_succ]
      refine wpAnyH_take (i := 15) (oi := { dst := some 38, op := Go.Op.pick (Go.Operand.tmp 24) (Go.Operand.tmp 37) (Go.Operand.const (Go.Value.bool false)), type := 4, pos := "more.go:15", after := #[{ on := 1, ground := Go.Ground.data }, { on := 14, ground := Go.Ground.data }], guard := none }) (v := ?v25) rfl (by kernel_rfl) (by kernel_rfl) (by kernel_rfl) (fun _ _ _ h => h) (Or.inl ⟨by rfl, ?hy25⟩) (by assumption) ?rest25
      case hy25 => (intro w hSw; (try dsimp only at hSw); have ecxb_0 := hSw.cell cxb_0 id; have ecxb_1 := hSw.cell cxb_1 id; have ecxb_2 := hSw.cell cxb_2 id; have ecxb_3 := hSw.cell cxb_3 id; have ecyb_0 := hSw.cell cyb_0 id; have ecyb_1 := hSw.cell cyb_1 id; have ecyb_2 := hSw.cell cyb_2 id; have ecyb_3 := hSw.cell cyb_3 id; have z1 := Z1.out; have z2 := Z2.out; go_simp <;> with_reducible rfl)
      try simp only [Act.put, List.setIfInBounds_toArray, List.set_cons_zero, List.set_cons_succ]
      refine wpAnyH_take (i := 16) (oi := { dst := some 4, op := Go.Op.assign (Go.Operand.tmp 38), type := 4, pos := "more.go:15", after := #[{ on := 15, ground := Go.Ground.data }, { on := 12, ground := Go.Ground.chain }, { on := 0, ground := Go.Ground.phase }, { on := 1, ground := Go.Ground.phase }, { on := 2, ground := Go.Ground.phase }, { on := 3, ground := Go.Ground.phase }, { on := 4, ground := Go.Ground.phase }, { on := 5, ground := Go.Ground.phase }, { on := 6, ground := Go.Ground.phase }, { on := 7, ground := Go.Ground.phase }, { on := 8, ground := Go.Ground.phase }, { on := 9, ground := Go.Ground.phase }, { on := 10, ground := Go.Ground.phase }, { on := 11, ground := Go.Ground.phase }, { on := 12, ground := Go.Ground.phase }, { on := 13, ground := Go.Ground.phase }, { on := 14, ground := Go.Ground.phase }, { on := 15, ground := Go.Ground.phase }], guard := none }) (v := ?v26) rfl (by kernel_rfl) (by kernel_rfl) (by kernel_rfl) (fun _ _ _ h => h) (Or.inl ⟨by rfl, ?hy26⟩) (by assumption) ?rest26
      case hy26 => (intro w hSw; (try dsimp only at hSw); have ecxb_0 := hSw.cell cxb_0 id; have ecxb_1 := hSw.cell cxb_1 id; have ecxb_2 := hSw.cell cxb_2 id; have ecxb_3 := hSw.cell cxb_3 id; have ecyb_0 := hSw.cell cyb_0 id; have ecyb_1 := hSw.cell cyb_1 id; have ecyb_2 := hSw.cell cyb_2 id; have ecyb_3 := hSw.cell cyb_3 id; have z1 := Z1.out; have z2 := Z2.out; go_simp <;> with_reducible rfl)
      try simp only [Act.put, List.setIfInBounds_toArray, List.set_cons_zero, List.set_cons_succ]
      refine wpAnyH_done (by kernel_rfl) ?_ _
      have HXE := Lib.hid (((((HX_wd.out.trans HX_w3.out).trans HX_w6.out).trans HX_w10.out).trans HX_w12.out))
      go_wp2_with fail
      go_ret
      exact ⟨rfl, HXB.out.trans HXE.out⟩
    refine AllReadyH.cons (o := { dst := some 33, op := Go.Op.call { callee := Go.Callee.value (Go.Operand.func 8), args := #[Go.Operand.tmp 32], argTypes := #[25] }, type := 29, pos := "more.go:15", after := #[{ on := 9, ground := Go.Ground.data }, { on := 6, ground := Go.Ground.chain }, { on := 1, ground := Go.Ground.guard }], guard := some (1, true) }) rfl (fun K hK => ?_) AllReadyH.nil
    go_simp
    refine (of7_any _ (⟨xty, xco, xrest, xl⟩ : Ms) Ax cx _ OKX.out (RB.keep HX.out ((HX_wd.out.trans HX_w3.out).trans HX_w6.out) (fun _ _ _ => id))).mono ?_
    rintro e w10 ⟨rfl, hx⟩
    have HX_w10 := Lib.hid hx
    clear hx
    have hS : Ex (fun _ => False) wb w10 := (((HX_wd.out.trans HX_w3.out).trans HX_w6.out).trans HX_w10.out)
    refine hK.out _ _ hS (fun _ => ?_)
    refine wpAnyH_ready (rs := [7, 12]) (by kernel_rfl) (by simp) ?_
    refine AllReadyH.cons (o := { dst := some 30, op := Go.Op.convert 23 9 (Go.Operand.tmp 29), type := 9, pos := "more.go:15", after := #[{ on := 6, ground := Go.Ground.data }, { on := 1, ground := Go.Ground.guard }], guard := some (1, true) }) rfl (fun K hK => ?_) ?_
    ·
      have hcv := ((OB.keep HO6.out HX_w10.out (fun _ _ _ _ => id))).rb.str (Pr := Try.prog) 23 9 5 Try.underlying23 Try.underlying5 Try.underlying9
      go_simp
      clear hcv
      have hx : Ex (fun _ => False) w10 w10 := Ex.refl _ _
      clear hx
      have hS : Ex (fun _ => False) wb w10 := (((HX_wd.out.trans HX_w3.out).trans HX_w6.out).trans HX_w10.out)
      refine hK.out _ _ hS (fun _ => ?_)
      refine wpAnyH_take (i := 8) (oi := { dst := some 31, op := Go.Op.binOp Go.BinOp.eql 9 (Go.Operand.tmp 27) (Go.Operand.tmp 30) 9, type := 4, pos := "more.go:15", after := #[{ on := 4, ground := Go.Ground.data }, { on := 7, ground := Go.Ground.data }, { on := 1, ground := Go.Ground.guard }], guard := some (1, true) }) (v := ?v27) rfl (by kernel_rfl) (by kernel_rfl) (by kernel_rfl) (fun _ _ _ h => h) (Or.inl ⟨by rfl, ?hy27⟩) (by assumption) ?rest27
      case hy27 => (intro w hSw; (try dsimp only at hSw); have ecxb_0 := hSw.cell cxb_0 id; have ecxb_1 := hSw.cell cxb_1 id; have ecxb_2 := hSw.cell cxb_2 id; have ecxb_3 := hSw.cell cxb_3 id; have ecyb_0 := hSw.cell cyb_0 id; have ecyb_1 := hSw.cell cyb_1 id; have ecyb_2 := hSw.cell cyb_2 id; have ecyb_3 := hSw.cell cyb_3 id; have z1 := Z1.out; have z2 := Z2.out; go_simp <;> with_reducible rfl)
      try simp only [Act.put, List.setIfInBounds_toArray, List.set_cons_zero, List.set_cons_succ]
      refine wpAnyH_ready (rs := [12]) (by kernel_rfl) (by simp) ?_
      refine AllReadyH.cons (o := { dst := some 35, op := Go.Op.call { callee := Go.Callee.value (Go.Operand.func 8), args := #[Go.Operand.tmp 34], argTypes := #[25] }, type := 29, pos := "more.go:15", after := #[{ on := 11, ground := Go.Ground.data }, { on := 10, ground := Go.Ground.chain }, { on := 1, ground := Go.Ground.guard }], guard := some (1, true) }) rfl (fun K hK => ?_) AllReadyH.nil
      go_simp
      refine (of7_any _ (⟨yty, yco, yrest, yl⟩ : Ms) Ay cy _ OKY.out (RB.keep HY.out (((HX_wd.out.trans HX_w3.out).trans HX_w6.out).trans HX_w10.out) (fun _ _ _ => id))).mono ?_
      rintro e w12 ⟨rfl, hx⟩
      have HX_w12 := Lib.hid hx
      clear hx
      have hS : Ex (fun _ => False) wb w12 := ((((HX_wd.out.trans HX_w3.out).trans HX_w6.out).trans HX_w10.out).trans HX_w12.out)
      refine hK.out _ _ hS (fun _ => ?_)
      refine wpAnyH_take (i := 13) (oi := { dst := some 36, op := Go.Op.binOp Go.BinOp.eql 29 (Go.Operand.tmp 33) (Go.Operand.tmp 35) 29, type := 4, pos := "more.go:15", after := #[{ on := 10, ground := Go.Ground.data }, { on := 12, ground := Go.Ground.data }, { on := 1, ground := Go.Ground.guard }], guard := some (1, true) }) (v := ?v28) rfl (by kernel_rfl) (by kernel_rfl) (by kernel_rfl) (fun _ _ _ h => h) (Or.inl ⟨by rfl, ?hy28⟩) (by assumption) ?rest28
      case hy28 => (intro w hSw; (try dsimp only at hSw); have ecxb_0 := hSw.cell cxb_0 id; have ecxb_1 := hSw.cell cxb_1 id; have ecxb_2 := hSw.cell cxb_2 id; have ecxb_3 := hSw.cell cxb_3 id; have ecyb_0 := hSw.cell cyb_0 id; have ecyb_1 := hSw.cell cyb_1 id; have ecyb_2 := hSw.cell cyb_2 id; have ecyb_3 := hSw.cell cyb_3 id; have z1 := Z1.out; have z2 := Z2.out; go_simp <;> with_reducible rfl)
      try simp only [Act.put, List.setIfInBounds_toArray, List.set_cons_zero, List.set_cons_succ]
      refine wpAnyH_take (i := 14) (oi := { dst := some 37, op := Go.Op.binOp Go.BinOp.eql 4 (Go.Operand.tmp 31) (Go.Operand.tmp 36) 4, type := 4, pos := "more.go:15", after := #[{ on := 8, ground := Go.Ground.data }, { on := 13, ground := Go.Ground.data }, { on := 1, ground := Go.Ground.guard }], guard := some (1, true) }) (v := ?v29) rfl (by kernel_rfl) (by kernel_rfl) (by kernel_rfl) (fun _ _ _ h => h) (Or.inl ⟨by rfl, ?hy29⟩) (by assumption) ?rest29
      case hy29 => (intro w hSw; (try dsimp only at hSw); have ecxb_0 := hSw.cell cxb_0 id; have ecxb_1 := hSw.cell cxb_1 id; have ecxb_2 := hSw.cell cxb_2 id; have ecxb_3 := hSw.cell cxb_3 id; have ecyb_0 := hSw.cell cyb_0 id; have ecyb_1 := hSw.cell cyb_1 id; have ecyb_2 := hSw.cell cyb_2 id; have ecyb_3 := hSw.cell cyb_3 id; have z1 := Z1.out; have z2 := Z2.out; go_simp <;> with_reducible rfl)
      try simp only [Act.put, List.setIfInBounds_toArray, List.set_cons_zero, List.set_cons_succ]
      refine wpAnyH_take (i := 15) (oi := { dst := some 38, op := Go.Op.pick (Go.Operand.tmp 24) (Go.Operand.tmp 37) (Go.Operand.const (Go.Value.bool false)), type := 4, pos := "more.go:15", after := #[{ on := 1, ground := Go.Ground.data }, { on := 14, ground := Go.Ground.data }], guard := none }) (v := ?v30) rfl (by kernel_rfl) (by kernel_rfl) (by kernel_rfl) (fun _ _ _ h => h) (Or.inl ⟨by rfl, ?hy30⟩) (by assumption) ?rest30
      case hy30 => (intro w hSw; (try dsimp only at hSw); have ecxb_0 := hSw.cell cxb_0 id; have ecxb_1 := hSw.cell cxb_1 id; have ecxb_2 := hSw.cell cxb_2 id; have ecxb_3 := hSw.cell cxb_3 id; have ecyb_0 := hSw.cell cyb_0 id; have ecyb_1 := hSw.cell cyb_1 id; have ecyb_2 := hSw.cell cyb_2 id; have ecyb_3 := hSw.cell cyb_3 id; have z1 := Z1.out; have z2 := Z2.out; go_simp <;> with_reducible rfl)
      try simp only [Act.put, List.setIfInBounds_toArray, List.set_cons_zero, List.set_cons_succ]
      refine wpAnyH_take (i := 16) (oi := { dst := some 4, op := Go.Op.assign (Go.Operand.tmp 38), type := 4, pos := "more.go:15", after := #[{ on := 15, ground := Go.Ground.data }, { on := 12, ground := Go.Ground.chain }, { on := 0, ground := Go.Ground.phase }, { on := 1, ground := Go.Ground.phase }, { on := 2, ground := Go.Ground.phase }, { on := 3, ground := Go.Ground.phase }, { on := 4, ground := Go.Ground.phase }, { on := 5, ground := Go.Ground.phase }, { on := 6, ground := Go.Ground.phase }, { on := 7, ground := Go.Ground.phase }, { on := 8, ground := Go.Ground.phase }, { on := 9, ground := Go.Ground.phase }, { on := 10, ground := Go.Ground.phase }, { on := 11, ground := Go.Ground.phase }, { on := 12, ground := Go.Ground.phase }, { on := 13, ground := Go.Ground.phase }, { on := 14, ground := Go.Ground.phase }, { on := 15, ground := Go.Ground.phase }], guard := none }) (v := ?v31) rfl (by kernel_rfl) (by kernel_rfl) (by kernel_rfl) (fun _ _ _ h => h) (Or.inl ⟨by rfl, ?hy31⟩) (by assumption) ?rest31
      case hy31 => (intro w hSw; (try dsimp only at hSw); have ecxb_0 := hSw.cell cxb_0 id; have ecxb_1 := hSw.cell cxb_1 id; have ecxb_2 := hSw.cell cxb_2 id; have ecxb_3 := hSw.cell cxb_3 id; have ecyb_0 := hSw.cell cyb_0 id; have ecyb_1 := hSw.cell cyb_1 id; have ecyb_2 := hSw.cell cyb_2 id; have ecyb_3 := hSw.cell cyb_3 id; have z1 := Z1.out; have z2 := Z2.out; go_simp <;> with_reducible rfl)
      try simp only [Act.put, List.setIfInBounds_toArray, List.set_cons_zero, List.set_cons_succ]
      refine wpAnyH_done (by kernel_rfl) ?_ _
      have HXE := Lib.hid (((((HX_wd.out.trans HX_w3.out).trans HX_w6.out).trans HX_w10.out).trans HX_w12.out))
      go_wp2_with fail
      go_ret
      exact ⟨rfl, HXB.out.trans HXE.out⟩
    refine AllReadyH.cons (o := { dst := some 35, op := Go.Op.call { callee := Go.Callee.value (Go.Operand.func 8), args := #[Go.Operand.tmp 34], argTypes := #[25] }, type := 29, pos := "more.go:15", after := #[{ on := 11, ground := Go.Ground.data }, { on := 10, ground := Go.Ground.chain }, { on := 1, ground := Go.Ground.guard }], guard := some (1, true) }) rfl (fun K hK => ?_) AllReadyH.nil
    go_simp
    refine (of7_any _ (⟨yty, yco, yrest, yl⟩ : Ms) Ay cy _ OKY.out (RB.keep HY.out (((HX_wd.out.trans HX_w3.out).trans HX_w6.out).trans HX_w10.out) (fun _ _ _ => id))).mono ?_
    rintro e w12 ⟨rfl, hx⟩
    have HX_w12 := Lib.hid hx
    clear hx
    have hS : Ex (fun _ => False) wb w12 := ((((HX_wd.out.trans HX_w3.out).trans HX_w6.out).trans HX_w10.out).trans HX_w12.out)
    refine hK.out _ _ hS (fun _ => ?_)
    refine wpAnyH_take (i := 13) (oi := { dst := some 36, op := Go.Op.binOp Go.BinOp.eql 29 (Go.Operand.tmp 33) (Go.Operand.tmp 35) 29, type := 4, pos := "more.go:15", after := #[{ on := 10, ground := Go.Ground.data }, { on := 12, ground := Go.Ground.data }, { on := 1, ground := Go.Ground.guard }], guard := some (1, true) }) (v := ?v32) rfl (by kernel_rfl) (by kernel_rfl) (by kernel_rfl) (fun _ _ _ h => h) (Or.inl ⟨by rfl, ?hy32⟩) (by assumption) ?rest32
    case hy32 => (intro w hSw; (try dsimp only at hSw); have ecxb_0 := hSw.cell cxb_0 id; have ecxb_1 := hSw.cell cxb_1 id; have ecxb_2 := hSw.cell cxb_2 id; have ecxb_3 := hSw.cell cxb_3 id; have ecyb_0 := hSw.cell cyb_0 id; have ecyb_1 := hSw.cell cyb_1 id; have ecyb_2 := hSw.cell cyb_2 id; have ecyb_3 := hSw.cell cyb_3 id; have z1 := Z1.out; have z2 := Z2.out; go_simp <;> with_reducible rfl)
    try simp only [Act.put, List.setIfInBounds_toArray, List.set_cons_zero, List.set_cons_succ]
    refine wpAnyH_ready (rs := [7]) (by kernel_rfl) (by simp) ?_
    refine AllReadyH.cons (o := { dst := some 30, op := Go.Op.convert 23 9 (Go.Operand.tmp 29), type := 9, pos := "more.go:15", after := #[{ on := 6, ground := Go.Ground.data }, { on := 1, ground := Go.Ground.guard }], guard := some (1, true) }) rfl (fun K hK => ?_) AllReadyH.nil
    have hcv := ((OB.keep HO6.out (HX_w10.out.trans HX_w12.out) (fun _ _ _ _ => id))).rb.str (Pr := Try.prog) 23 9 5 Try.underlying23 Try.underlying5 Try.underlying9
    go_simp
    clear hcv
    have hx : Ex (fun _ => False) w12 w12 := Ex.refl _ _
    clear hx
    have hS : Ex (fun _ => False) wb w12 := ((((HX_wd.out.trans HX_w3.out).trans HX_w6.out).trans HX_w10.out).trans HX_w12.out)
    refine hK.out _ _ hS (fun _ => ?_)
    refine wpAnyH_take (i := 8) (oi := { dst := some 31, op := Go.Op.binOp Go.BinOp.eql 9 (Go.Operand.tmp 27) (Go.Operand.tmp 30) 9, type := 4, pos := "more.go:15", after := #[{ on := 4, ground := Go.Ground.data }, { on := 7, ground := Go.Ground.data }, { on := 1, ground := Go.Ground.guard }], guard := some (1, true) }) (v := ?v33) rfl (by kernel_rfl) (by kernel_rfl) (by kernel_rfl) (fun _ _ _ h => h) (Or.inl ⟨by rfl, ?hy33⟩) (by assumption) ?rest33
    case hy33 => (intro w hSw; (try dsimp only at hSw); have ecxb_0 := hSw.cell cxb_0 id; have ecxb_1 := hSw.cell cxb_1 id; have ecxb_2 := hSw.cell cxb_2 id; have ecxb_3 := hSw.cell cxb_3 id; have ecyb_0 := hSw.cell cyb_0 id; have ecyb_1 := hSw.cell cyb_1 id; have ecyb_2 := hSw.cell cyb_2 id; have ecyb_3 := hSw.cell cyb_3 id; have z1 := Z1.out; have z2 := Z2.out; go_simp <;> with_reducible rfl)
    try simp only [Act.put, List.setIfInBounds_toArray, List.set_cons_zero, List.set_cons_succ]
    refine wpAnyH_take (i := 14) (oi := { dst := some 37, op := Go.Op.binOp Go.BinOp.eql 4 (Go.Operand.tmp 31) (Go.Operand.tmp 36) 4, type := 4, pos := "more.go:15", after := #[{ on := 8, ground := Go.Ground.data }, { on := 13, ground := Go.Ground.data }, { on := 1, ground := Go.Ground.guard }], guard := some (1, true) }) (v := ?v34) rfl (by kernel_rfl) (by kernel_rfl) (by kernel_rfl) (fun _ _ _ h => h) (Or.inl ⟨by rfl, ?hy34⟩) (by assumption) ?rest34
    case hy34 => (intro w hSw; (try dsimp only at hSw); have ecxb_0 := hSw.cell cxb_0 id; have ecxb_1 := hSw.cell cxb_1 id; have ecxb_2 := hSw.cell cxb_2 id; have ecxb_3 := hSw.cell cxb_3 id; have ecyb_0 := hSw.cell cyb_0 id; have ecyb_1 := hSw.cell cyb_1 id; have ecyb_2 := hSw.cell cyb_2 id; have ecyb_3 := hSw.cell cyb_3 id; have z1 := Z1.out; have z2 := Z2.out; go_simp <;> with_reducible rfl)
    try simp only [Act.put, List.setIfInBounds_toArray, List.set_cons_zero, List.set_cons_succ]
    refine wpAnyH_take (i := 15) (oi := { dst := some 38, op := Go.Op.pick (Go.Operand.tmp 24) (Go.Operand.tmp 37) (Go.Operand.const (Go.Value.bool false)), type := 4, pos := "more.go:15", after := #[{ on := 1, ground := Go.Ground.data }, { on := 14, ground := Go.Ground.data }], guard := none }) (v := ?v35) rfl (by kernel_rfl) (by kernel_rfl) (by kernel_rfl) (fun _ _ _ h => h) (Or.inl ⟨by rfl, ?hy35⟩) (by assumption) ?rest35
    case hy35 => (intro w hSw; (try dsimp only at hSw); have ecxb_0 := hSw.cell cxb_0 id; have ecxb_1 := hSw.cell cxb_1 id; have ecxb_2 := hSw.cell cxb_2 id; have ecxb_3 := hSw.cell cxb_3 id; have ecyb_0 := hSw.cell cyb_0 id; have ecyb_1 := hSw.cell cyb_1 id; have ecyb_2 := hSw.cell cyb_2 id; have ecyb_3 := hSw.cell cyb_3 id; have z1 := Z1.out; have z2 := Z2.out; go_simp <;> with_reducible rfl)
    try simp only [Act.put, List.setIfInBounds_toArray, List.set_cons_zero, List.set_cons_succ]
    refine wpAnyH_take (i := 16) (oi := { dst := some 4, op := Go.Op.assign (Go.Operand.tmp 38), type := 4, pos := "more.go:15", after := #[{ on := 15, ground := Go.Ground.data }, { on := 12, ground := Go.Ground.chain }, { on := 0, ground := Go.Ground.phase }, { on := 1, ground := Go.Ground.phase }, { on := 2, ground := Go.Ground.phase }, { on := 3, ground := Go.Ground.phase }, { on := 4, ground := Go.Ground.phase }, { on := 5, ground := Go.Ground.phase }, { on := 6, ground := Go.Ground.phase }, { on := 7, ground := Go.Ground.phase }, { on := 8, ground := Go.Ground.phase }, { on := 9, ground := Go.Ground.phase }, { on := 10, ground := Go.Ground.phase }, { on := 11, ground := Go.Ground.phase }, { on := 12, ground := Go.Ground.phase }, { on := 13, ground := Go.Ground.phase }, { on := 14, ground := Go.Ground.phase }, { on := 15, ground := Go.Ground.phase }], guard := none }) (v := ?v36) rfl (by kernel_rfl) (by kernel_rfl) (by kernel_rfl) (fun _ _ _ h => h) (Or.inl ⟨by rfl, ?hy36⟩) (by assumption) ?rest36
    case hy36 => (intro w hSw; (try dsimp only at hSw); have ecxb_0 := hSw.cell cxb_0 id; have ecxb_1 := hSw.cell cxb_1 id; have ecxb_2 := hSw.cell cxb_2 id; have ecxb_3 := hSw.cell cxb_3 id; have ecyb_0 := hSw.cell cyb_0 id; have ecyb_1 := hSw.cell cyb_1 id; have ecyb_2 := hSw.cell cyb_2 id; have ecyb_3 := hSw.cell cyb_3 id; have z1 := Z1.out; have z2 := Z2.out; go_simp <;> with_reducible rfl)
    try simp only [Act.put, List.setIfInBounds_toArray, List.set_cons_zero, List.set_cons_succ]
    refine wpAnyH_done (by kernel_rfl) ?_ _
    have HXE := Lib.hid (((((HX_wd.out.trans HX_w3.out).trans HX_w6.out).trans HX_w10.out).trans HX_w12.out))
    go_wp2_with fail
    go_ret
    exact ⟨rfl, HXB.out.trans HXE.out⟩
  refine AllReadyH.cons (o := { dst := some 30, op := Go.Op.convert 23 9 (Go.Operand.tmp 29), type := 9, pos := "more.go:15", after := #[{ on := 6, ground := Go.Ground.data }, { on := 1, ground := Go.Ground.guard }], guard := some (1, true) }) rfl (fun K hK => ?_) ?_
  ·
    have hcv := (HO6.out).rb.str (Pr := Try.prog) 23 9 5 Try.underlying23 Try.underlying5 Try.underlying9
    go_simp
    clear hcv
    have hx : Ex (fun _ => False) w6 w6 := Ex.refl _ _
    clear hx
    have hS : Ex (fun _ => False) wb w6 := ((HX_wd.out.trans HX_w3.out).trans HX_w6.out)
    refine hK.out _ _ hS (fun _ => ?_)
    refine wpAnyH_ready (rs := [4, 10]) (by kernel_rfl) (by simp) ?_
    refine AllReadyH.cons (o := { dst := some 27, op := Go.Op.convert 23 9 (Go.Operand.tmp 26), type := 9, pos := "more.go:15", after := #[{ on := 3, ground := Go.Ground.data }, { on := 1, ground := Go.Ground.guard }], guard := some (1, true) }) rfl (fun K hK => ?_) ?_
    ·
      have hcv := ((OB.keep HO3.out HX_w6.out (fun _ _ _ _ => id))).rb.str (Pr := Try.prog) 23 9 5 Try.underlying23 Try.underlying5 Try.underlying9
      go_simp
      clear hcv
      have hx : Ex (fun _ => False) w6 w6 := Ex.refl _ _
      clear hx
      have hS : Ex (fun _ => False) wb w6 := ((HX_wd.out.trans HX_w3.out).trans HX_w6.out)
      refine hK.out _ _ hS (fun _ => ?_)
      refine wpAnyH_take (i := 8) (oi := { dst := some 31, op := Go.Op.binOp Go.BinOp.eql 9 (Go.Operand.tmp 27) (Go.Operand.tmp 30) 9, type := 4, pos := "more.go:15", after := #[{ on := 4, ground := Go.Ground.data }, { on := 7, ground := Go.Ground.data }, { on := 1, ground := Go.Ground.guard }], guard := some (1, true) }) (v := ?v37) rfl (by kernel_rfl) (by kernel_rfl) (by kernel_rfl) (fun _ _ _ h => h) (Or.inl ⟨by rfl, ?hy37⟩) (by assumption) ?rest37
      case hy37 => (intro w hSw; (try dsimp only at hSw); have ecxb_0 := hSw.cell cxb_0 id; have ecxb_1 := hSw.cell cxb_1 id; have ecxb_2 := hSw.cell cxb_2 id; have ecxb_3 := hSw.cell cxb_3 id; have ecyb_0 := hSw.cell cyb_0 id; have ecyb_1 := hSw.cell cyb_1 id; have ecyb_2 := hSw.cell cyb_2 id; have ecyb_3 := hSw.cell cyb_3 id; have z1 := Z1.out; have z2 := Z2.out; go_simp <;> with_reducible rfl)
      try simp only [Act.put, List.setIfInBounds_toArray, List.set_cons_zero, List.set_cons_succ]
      refine wpAnyH_ready (rs := [10]) (by kernel_rfl) (by simp) ?_
      refine AllReadyH.cons (o := { dst := some 33, op := Go.Op.call { callee := Go.Callee.value (Go.Operand.func 8), args := #[Go.Operand.tmp 32], argTypes := #[25] }, type := 29, pos := "more.go:15", after := #[{ on := 9, ground := Go.Ground.data }, { on := 6, ground := Go.Ground.chain }, { on := 1, ground := Go.Ground.guard }], guard := some (1, true) }) rfl (fun K hK => ?_) AllReadyH.nil
      go_simp
      refine (of7_any _ (⟨xty, xco, xrest, xl⟩ : Ms) Ax cx _ OKX.out (RB.keep HX.out ((HX_wd.out.trans HX_w3.out).trans HX_w6.out) (fun _ _ _ => id))).mono ?_
      rintro e w10 ⟨rfl, hx⟩
      have HX_w10 := Lib.hid hx
      clear hx
      have hS : Ex (fun _ => False) wb w10 := (((HX_wd.out.trans HX_w3.out).trans HX_w6.out).trans HX_w10.out)
      refine hK.out _ _ hS (fun _ => ?_)
      refine wpAnyH_ready (rs := [12]) (by kernel_rfl) (by simp) ?_
      refine AllReadyH.cons (o := { dst := some 35, op := Go.Op.call { callee := Go.Callee.value (Go.Operand.func 8), args := #[Go.Operand.tmp 34], argTypes := #[25] }, type := 29, pos := "more.go:15", after := #[{ on := 11, ground := Go.Ground.data }, { on := 10, ground := Go.Ground.chain }, { on := 1, ground := Go.Ground.guard }], guard := some (1, true) }) rfl (fun K hK => ?_) AllReadyH.nil
      go_simp
      refine (of7_any _ (⟨yty, yco, yrest, yl⟩ : Ms) Ay cy _ OKY.out (RB.keep HY.out (((HX_wd.out.trans HX_w3.out).trans HX_w6.out).trans HX_w10.out) (fun _ _ _ => id))).mono ?_
      rintro e w12 ⟨rfl, hx⟩
      have HX_w12 := Lib.hid hx
      clear hx
      have hS : Ex (fun _ => False) wb w12 := ((((HX_wd.out.trans HX_w3.out).trans HX_w6.out).trans HX_w10.out).trans HX_w12.out)
      refine hK.out _ _ hS (fun _ => ?_)
      refine wpAnyH_take (i := 13) (oi := { dst := some 36, op := Go.Op.binOp Go.BinOp.eql 29 (Go.Operand.tmp 33) (Go.Operand.tmp 35) 29, type := 4, pos := "more.go:15", after := #[{ on := 10, ground := Go.Ground.data }, { on := 12, ground := Go.Ground.data }, { on := 1, ground := Go.Ground.guard }], guard := some (1, true) }) (v := ?v38) rfl (by kernel_rfl) (by kernel_rfl) (by kernel_rfl) (fun _ _ _ h => h) (Or.inl ⟨by rfl, ?hy38⟩) (by assumption) ?rest38
      case hy38 => (intro w hSw; (try dsimp only at hSw); have ecxb_0 := hSw.cell cxb_0 id; have ecxb_1 := hSw.cell cxb_1 id; have ecxb_2 := hSw.cell cxb_2 id; have ecxb_3 := hSw.cell cxb_3 id; have ecyb_0 := hSw.cell cyb_0 id; have ecyb_1 := hSw.cell cyb_1 id; have ecyb_2 := hSw.cell cyb_2 id; have ecyb_3 := hSw.cell cyb_3 id; have z1 := Z1.out; have z2 := Z2.out; go_simp <;> with_reducible rfl)
      try simp only [Act.put, List.setIfInBounds_toArray, List.set_cons_zero, List.set_cons_succ]
      refine wpAnyH_take (i := 14) (oi := { dst := some 37, op := Go.Op.binOp Go.BinOp.eql 4 (Go.Operand.tmp 31) (Go.Operand.tmp 36) 4, type := 4, pos := "more.go:15", after := #[{ on := 8, ground := Go.Ground.data }, { on := 13, ground := Go.Ground.data }, { on := 1, ground := Go.Ground.guard }], guard := some (1, true) }) (v := ?v39) rfl (by kernel_rfl) (by kernel_rfl) (by kernel_rfl) (fun _ _ _ h => h) (Or.inl ⟨by rfl, ?hy39⟩) (by assumption) ?rest39
      case hy39 => (intro w hSw; (try dsimp only at hSw); have ecxb_0 := hSw.cell cxb_0 id; have ecxb_1 := hSw.cell cxb_1 id; have ecxb_2 := hSw.cell cxb_2 id; have ecxb_3 := hSw.cell cxb_3 id; have ecyb_0 := hSw.cell cyb_0 id; have ecyb_1 := hSw.cell cyb_1 id; have ecyb_2 := hSw.cell cyb_2 id; have ecyb_3 := hSw.cell cyb_3 id; have z1 := Z1.out; have z2 := Z2.out; go_simp <;> with_reducible rfl)
      try simp only [Act.put, List.setIfInBounds_toArray, List.set_cons_zero, List.set_cons_succ]
      refine wpAnyH_take (i := 15) (oi := { dst := some 38, op := Go.Op.pick (Go.Operand.tmp 24) (Go.Operand.tmp 37) (Go.Operand.const (Go.Value.bool false)), type := 4, pos := "more.go:15", after := #[{ on := 1, ground := Go.Ground.data }, { on := 14, ground := Go.Ground.data }], guard := none }) (v := ?v40) rfl (by kernel_rfl) (by kernel_rfl) (by kernel_rfl) (fun _ _ _ h => h) (Or.inl ⟨by rfl, ?hy40⟩) (by assumption) ?rest40
      case hy40 => (intro w hSw; (try dsimp only at hSw); have ecxb_0 := hSw.cell cxb_0 id; have ecxb_1 := hSw.cell cxb_1 id; have ecxb_2 := hSw.cell cxb_2 id; have ecxb_3 := hSw.cell cxb_3 id; have ecyb_0 := hSw.cell cyb_0 id; have ecyb_1 := hSw.cell cyb_1 id; have ecyb_2 := hSw.cell cyb_2 id; have ecyb_3 := hSw.cell cyb_3 id; have z1 := Z1.out; have z2 := Z2.out; go_simp <;> with_reducible rfl)
      try simp only [Act.put, List.setIfInBounds_toArray, List.set_cons_zero, List.set_cons_succ]
      refine wpAnyH_take (i := 16) (oi := { dst := some 4, op := Go.Op.assign (Go.Operand.tmp 38), type := 4, pos := "more.go:15", after := #[{ on := 15, ground := Go.Ground.data }, { on := 12, ground := Go.Ground.chain }, { on := 0, ground := Go.Ground.phase }, { on := 1, ground := Go.Ground.phase }, { on := 2, ground := Go.Ground.phase }, { on := 3, ground := Go.Ground.phase }, { on := 4, ground := Go.Ground.phase }, { on := 5, ground := Go.Ground.phase }, { on := 6, ground := Go.Ground.phase }, { on := 7, ground := Go.Ground.phase }, { on := 8, ground := Go.Ground.phase }, { on := 9, ground := Go.Ground.phase }, { on := 10, ground := Go.Ground.phase }, { on := 11, ground := Go.Ground.phase }, { on := 12, ground := Go.Ground.phase }, { on := 13, ground := Go.Ground.phase }, { on := 14, ground := Go.Ground.phase }, { on := 15, ground := Go.Ground.phase }], guard := none }) (v := ?v41) rfl (by kernel_rfl) (by kernel_rfl) (by kernel_rfl) (fun _ _ _ h => h) (Or.inl ⟨by rfl, ?hy41⟩) (by assumption) ?rest41
      case hy41 => (intro w hSw; (try dsimp only at hSw); have ecxb_0 := hSw.cell cxb_0 id; have ecxb_1 := hSw.cell cxb_1 id; have ecxb_2 := hSw.cell cxb_2 id; have ecxb_3 := hSw.cell cxb_3 id; have ecyb_0 := hSw.cell cyb_0 id; have ecyb_1 := hSw.cell cyb_1 id; have ecyb_2 := hSw.cell cyb_2 id; have ecyb_3 := hSw.cell cyb_3 id; have z1 := Z1.out; have z2 := Z2.out; go_simp <;> with_reducible rfl)
      try simp only [Act.put, List.setIfInBounds_toArray, List.set_cons_zero, List.set_cons_succ]
      refine wpAnyH_done (by kernel_rfl) ?_ _
      have HXE := Lib.hid (((((HX_wd.out.trans HX_w3.out).trans HX_w6.out).trans HX_w10.out).trans HX_w12.out))
      go_wp2_with fail
      go_ret
      exact ⟨rfl, HXB.out.trans HXE.out⟩
    refine AllReadyH.cons (o := { dst := some 33, op := Go.Op.call { callee := Go.Callee.value (Go.Operand.func 8), args := #[Go.Operand.tmp 32], argTypes := #[25] }, type := 29, pos := "more.go:15", after := #[{ on := 9, ground := Go.Ground.data }, { on := 6, ground := Go.Ground.chain }, { on := 1, ground := Go.Ground.guard }], guard := some (1, true) }) rfl (fun K hK => ?_) AllReadyH.nil
    go_simp
    refine (of7_any _ (⟨xty, xco, xrest, xl⟩ : Ms) Ax cx _ OKX.out (RB.keep HX.out ((HX_wd.out.trans HX_w3.out).trans HX_w6.out) (fun _ _ _ => id))).mono ?_
    rintro e w10 ⟨rfl, hx⟩
    have HX_w10 := Lib.hid hx
    clear hx
    have hS : Ex (fun _ => False) wb w10 := (((HX_wd.out.trans HX_w3.out).trans HX_w6.out).trans HX_w10.out)
    refine hK.out _ _ hS (fun _ => ?_)
    refine wpAnyH_ready (rs := [4, 12]) (by kernel_rfl) (by simp) ?_
    refine AllReadyH.cons (o := { dst := some 27, op := Go.Op.convert 23 9 (Go.Operand.tmp 26), type := 9, pos := "more.go:15", after := #[{ on := 3, ground := Go.Ground.data }, { on := 1, ground := Go.Ground.guard }], guard := some (1, true) }) rfl (fun K hK => ?_) ?_
    ·
      have hcv := ((OB.keep HO3.out (HX_w6.out.trans HX_w10.out) (fun _ _ _ _ => id))).rb.str (Pr := Try.prog) 23 9 5 Try.underlying23 Try.underlying5 Try.underlying9
      go_simp
      clear hcv
      have hx : Ex (fun _ => False) w10 w10 := Ex.refl _ _
      clear hx
      have hS : Ex (fun _ => False) wb w10 := (((HX_wd.out.trans HX_w3.out).trans HX_w6.out).trans HX_w10.out)
      refine hK.out _ _ hS (fun _ => ?_)
      refine wpAnyH_take (i := 8) (oi := { dst := some 31, op := Go.Op.binOp Go.BinOp.eql 9 (Go.Operand.tmp 27) (Go.Operand.tmp 30) 9, type := 4, pos := "more.go:15", after := #[{ on := 4, ground := Go.Ground.data }, { on := 7, ground := Go.Ground.data }, { on := 1, ground := Go.Ground.guard }], guard := some (1, true) }) (v := ?v42) rfl (by kernel_rfl) (by kernel_rfl) (by kernel_rfl) (fun _ _ _ h => h) (Or.inl ⟨by rfl, ?hy42⟩) (by assumption) ?rest42
      case hy42 => (intro w hSw; (try dsimp only at hSw); have ecxb_0 := hSw.cell cxb_0 id; have ecxb_1 := hSw.cell cxb_1 id; have ecxb_2 := hSw.cell cxb_2 id; have ecxb_3 := hSw.cell cxb_3 id; have ecyb_0 := hSw.cell cyb_0 id; have ecyb_1 := hSw.cell cyb_1 id; have ecyb_2 := hSw.cell cyb_2 id; have ecyb_3 := hSw.cell cyb_3 id; have z1 := Z1.out; have z2 := Z2.out; go_simp <;> with_reducible rfl)
      try simp only [Act.put, List.setIfInBounds_toArray, List.set_cons_zero, List.set_cons_succ]
      refine wpAnyH_ready (rs := [12]) (by kernel_rfl) (by simp) ?_
      refine AllReadyH.cons (o := { dst := some 35, op := Go.Op.call { callee := Go.Callee.value (Go.Operand.func 8), args := #[Go.Operand.tmp 34], argTypes := #[25] }, type := 29, pos := "more.go:15", after := #[{ on := 11, ground := Go.Ground.data }, { on := 10, ground := Go.Ground.chain }, { on := 1, ground := Go.Ground.guard }], guard := some (1, true) }) rfl (fun K hK => ?_) AllReadyH.nil
      go_simp
      refine (of7_any _ (⟨yty, yco, yrest, yl⟩ : Ms) Ay cy _ OKY.out (RB.keep HY.out (((HX_wd.out.trans HX_w3.out).trans HX_w6.out).trans HX_w10.out) (fun _ _ _ => id))).mono ?_
      rintro e w12 ⟨rfl, hx⟩
      have HX_w12 := Lib.hid hx
      clear hx
      have hS : Ex (fun _ => False) wb w12 := ((((HX_wd.out.trans HX_w3.out).trans HX_w6.out).trans HX_w10.out).trans HX_w12.out)
      refine hK.out _ _ hS (fun _ => ?_)
      refine wpAnyH_take (i := 13) (oi := { dst := some 36, op := Go.Op.binOp Go.BinOp.eql 29 (Go.Operand.tmp 33) (Go.Operand.tmp 35) 29, type := 4, pos := "more.go:15", after := #[{ on := 10, ground := Go.Ground.data }, { on := 12, ground := Go.Ground.data }, { on := 1, ground := Go.Ground.guard }], guard := some (1, true) }) (v := ?v43) rfl (by kernel_rfl) (by kernel_rfl) (by kernel_rfl) (fun _ _ _ h => h) (Or.inl ⟨by rfl, ?hy43⟩) (by assumption) ?rest43
      case hy43 => (intro w hSw; (try dsimp only at hSw); have ecxb_0 := hSw.cell cxb_0 id; have ecxb_1 := hSw.cell cxb_1 id; have ecxb_2 := hSw.cell cxb_2 id; have ecxb_3 := hSw.cell cxb_3 id; have ecyb_0 := hSw.cell cyb_0 id; have ecyb_1 := hSw.cell cyb_1 id; have ecyb_2 := hSw.cell cyb_2 id; have ecyb_3 := hSw.cell cyb_3 id; have z1 := Z1.out; have z2 := Z2.out; go_simp <;> with_reducible rfl)
      try simp only [Act.put, List.setIfInBounds_toArray, List.set_cons_zero, List.set_cons_succ]
      refine wpAnyH_take (i := 14) (oi := { dst := some 37, op := Go.Op.binOp Go.BinOp.eql 4 (Go.Operand.tmp 31) (Go.Operand.tmp 36) 4, type := 4, pos := "more.go:15", after := #[{ on := 8, ground := Go.Ground.data }, { on := 13, ground := Go.Ground.data }, { on := 1, ground := Go.Ground.guard }], guard := some (1, true) }) (v := ?v44) rfl (by kernel_rfl) (by kernel_rfl) (by kernel_rfl) (fun _ _ _ h => h) (Or.inl ⟨by rfl, ?hy44⟩) (by assumption) ?rest44
      case hy44 => (intro w hSw; (try dsimp only at hSw); have ecxb_0 := hSw.cell cxb_0 id; have ecxb_1 := hSw.cell cxb_1 id; have ecxb_2 := hSw.cell cxb_2 id; have ecxb_3 := hSw.cell cxb_3 id; have ecyb_0 := hSw.cell cyb_0 id; have ecyb_1 := hSw.cell cyb_1 id; have ecyb_2 := hSw.cell cyb_2 id; have ecyb_3 := hSw.cell cyb_3 id; have z1 := Z1.out; have z2 := Z2.out; go_simp <;> with_reducible rfl)
      try simp only [Act.put, List.setIfInBounds_toArray, List.set_cons_zero, List.set_cons_succ]
      refine wpAnyH_take (i := 15) (oi := { dst := some 38, op := Go.Op.pick (Go.Operand.tmp 24) (Go.Operand.tmp 37) (Go.Operand.const (Go.Value.bool false)), type := 4, pos := "more.go:15", after := #[{ on := 1, ground := Go.Ground.data }, { on := 14, ground := Go.Ground.data }], guard := none }) (v := ?v45) rfl (by kernel_rfl) (by kernel_rfl) (by kernel_rfl) (fun _ _ _ h => h) (Or.inl ⟨by rfl, ?hy45⟩) (by assumption) ?rest45
      case hy45 => (intro w hSw; (try dsimp only at hSw); have ecxb_0 := hSw.cell cxb_0 id; have ecxb_1 := hSw.cell cxb_1 id; have ecxb_2 := hSw.cell cxb_2 id; have ecxb_3 := hSw.cell cxb_3 id; have ecyb_0 := hSw.cell cyb_0 id; have ecyb_1 := hSw.cell cyb_1 id; have ecyb_2 := hSw.cell cyb_2 id; have ecyb_3 := hSw.cell cyb_3 id; have z1 := Z1.out; have z2 := Z2.out; go_simp <;> with_reducible rfl)
      try simp only [Act.put, List.setIfInBounds_toArray, List.set_cons_zero, List.set_cons_succ]
      refine wpAnyH_take (i := 16) (oi := { dst := some 4, op := Go.Op.assign (Go.Operand.tmp 38), type := 4, pos := "more.go:15", after := #[{ on := 15, ground := Go.Ground.data }, { on := 12, ground := Go.Ground.chain }, { on := 0, ground := Go.Ground.phase }, { on := 1, ground := Go.Ground.phase }, { on := 2, ground := Go.Ground.phase }, { on := 3, ground := Go.Ground.phase }, { on := 4, ground := Go.Ground.phase }, { on := 5, ground := Go.Ground.phase }, { on := 6, ground := Go.Ground.phase }, { on := 7, ground := Go.Ground.phase }, { on := 8, ground := Go.Ground.phase }, { on := 9, ground := Go.Ground.phase }, { on := 10, ground := Go.Ground.phase }, { on := 11, ground := Go.Ground.phase }, { on := 12, ground := Go.Ground.phase }, { on := 13, ground := Go.Ground.phase }, { on := 14, ground := Go.Ground.phase }, { on := 15, ground := Go.Ground.phase }], guard := none }) (v := ?v46) rfl (by kernel_rfl) (by kernel_rfl) (by kernel_rfl) (fun _ _ _ h => h) (Or.inl ⟨by rfl, ?hy46⟩) (by assumption) ?rest46
      case hy46 => (intro w hSw; (try dsimp only at hSw); have ecxb_0 := hSw.cell cxb_0 id; have ecxb_1 := hSw.cell cxb_1 id; have ecxb_2 := hSw.cell cxb_2 id; have ecxb_3 := hSw.cell cxb_3 id; have ecyb_0 := hSw.cell cyb_0 id; have ecyb_1 := hSw.cell cyb_1 id; have ecyb_2 := hSw.cell cyb_2 id; have ecyb_3 := hSw.cell cyb_3 id; have z1 := Z1.out; have z2 := Z2.out; go_simp <;> with_reducible rfl)
      try simp only [Act.put, List.setIfInBounds_toArray, List.set_cons_zero, List.set_cons_succ]
      refine wpAnyH_done (by kernel_rfl) ?_ _
      have HXE := Lib.hid (((((HX_wd.out.trans HX_w3.out).trans HX_w6.out).trans HX_w10.out).trans HX_w12.out))
      go_wp2_with fail
      go_ret
      exact ⟨rfl, HXB.out.trans HXE.out⟩
    refine AllReadyH.cons (o := { dst := some 35, op := Go.Op.call { callee := Go.Callee.value (Go.Operand.func 8), args := #[Go.Operand.tmp 34], argTypes := #[25] }, type := 29, pos := "more.go:15", after := #[{ on := 11, ground := Go.Ground.data }, { on := 10, ground := Go.Ground.chain }, { on := 1, ground := Go.Ground.guard }], guard := some (1, true) }) rfl (fun K hK => ?_) AllReadyH.nil
    go_simp
    refine (of7_any _ (⟨yty, yco, yrest, yl⟩ : Ms) Ay cy _ OKY.out (RB.keep HY.out (((HX_wd.out.trans HX_w3.out).trans HX_w6.out).trans HX_w10.out) (fun _ _ _ => id))).mono ?_
    rintro e w12 ⟨rfl, hx⟩
    have HX_w12 := Lib.hid hx
    clear hx
    have hS : Ex (fun _ => False) wb w12 := ((((HX_wd.out.trans HX_w3.out).trans HX_w6.out).trans HX_w10.out).trans HX_w12.out)
    refine hK.out _ _ hS (fun _ => ?_)
    refine wpAnyH_take (i := 13) (oi := { dst := some 36, op := Go.Op.binOp Go.BinOp.eql 29 (Go.Operand.tmp 33) (Go.Operand.tmp 35) 29, type := 4, pos := "more.go:15", after := #[{ on := 10, ground := Go.Ground.data }, { on := 12, ground := Go.Ground.data }, { on := 1, ground := Go.Ground.guard }], guard := some (1, true) }) (v := ?v47) rfl (by kernel_rfl) (by kernel_rfl) (by kernel_rfl) (fun _ _ _ h => h) (Or.inl ⟨by rfl, ?hy47⟩) (by assumption) ?rest47
    case hy47 => (intro w hSw; (try dsimp only at hSw); have ecxb_0 := hSw.cell cxb_0 id; have ecxb_1 := hSw.cell cxb_1 id; have ecxb_2 := hSw.cell cxb_2 id; have ecxb_3 := hSw.cell cxb_3 id; have ecyb_0 := hSw.cell cyb_0 id; have ecyb_1 := hSw.cell cyb_1 id; have ecyb_2 := hSw.cell cyb_2 id; have ecyb_3 := hSw.cell cyb_3 id; have z1 := Z1.out; have z2 := Z2.out; go_simp <;> with_reducible rfl)
    try simp only [Act.put, List.setIfInBounds_toArray, List.set_cons_zero, List.set_cons_succ]
    refine wpAnyH_ready (rs := [4]) (by kernel_rfl) (by simp) ?_
    refine AllReadyH.cons (o := { dst := some 27, op := Go.Op.convert 23 9 (Go.Operand.tmp 26), type := 9, pos := "more.go:15", after := #[{ on := 3, ground := Go.Ground.data }, { on := 1, ground := Go.Ground.guard }], guard := some (1, true) }) rfl (fun K hK => ?_) AllReadyH.nil
    have hcv := ((OB.keep HO3.out ((HX_w6.out.trans HX_w10.out).trans HX_w12.out) (fun _ _ _ _ => id))).rb.str (Pr := Try.prog) 23 9 5 Try.underlying23 Try.underlying5 Try.underlying9
    go_simp
    clear hcv
    have hx : Ex (fun _ => False) w12 w12 := Ex.refl _ _
    clear hx
    have hS : Ex (fun _ => False) wb w12 := ((((HX_wd.out.trans HX_w3.out).trans HX_w6.out).trans HX_w10.out).trans HX_w12.out)
    refine hK.out _ _ hS (fun _ => ?_)
    refine wpAnyH_take (i := 8) (oi := { dst := some 31, op := Go.Op.binOp Go.BinOp.eql 9 (Go.Operand.tmp 27) (Go.Operand.tmp 30) 9, type := 4, pos := "more.go:15", after := #[{ on := 4, ground := Go.Ground.data }, { on := 7, ground := Go.Ground.data }, { on := 1, ground := Go.Ground.guard }], guard := some (1, true) }) (v := ?v48) rfl (by kernel_rfl) (by kernel_rfl) (by kernel_rfl) (fun _ _ _ h => h) (Or.inl ⟨by rfl, ?hy48⟩) (by assumption) ?rest48
    case hy48 => (intro w hSw; (try dsimp only at hSw); have ecxb_0 := hSw.cell cxb_0 id; have ecxb_1 := hSw.cell cxb_1 id; have ecxb_2 := hSw.cell cxb_2 id; have ecxb_3 := hSw.cell cxb_3 id; have ecyb_0 := hSw.cell cyb_0 id; have ecyb_1 := hSw.cell cyb_1 id; have ecyb_2 := hSw.cell cyb_2 id; have ecyb_3 := hSw.cell cyb_3 id; have z1 := Z1.out; have z2 := Z2.out; go_simp <;> with_reducible rfl)
    try simp only [Act.put, List.setIfInBounds_toArray, List.set_cons_zero, List.set_cons_succ]
    refine wpAnyH_take (i := 14) (oi := { dst := some 37, op := Go.Op.binOp Go.BinOp.eql 4 (Go.Operand.tmp 31) (Go.Operand.tmp 36) 4, type := 4, pos := "more.go:15", after := #[{ on := 8, ground := Go.Ground.data }, { on := 13, ground := Go.Ground.data }, { on := 1, ground := Go.Ground.guard }], guard := some (1, true) }) (v := ?v49) rfl (by kernel_rfl) (by kernel_rfl) (by kernel_rfl) (fun _ _ _ h => h) (Or.inl ⟨by rfl, ?hy49⟩) (by assumption) ?rest49
    case hy49 => (intro w hSw; (try dsimp only at hSw); have ecxb_0 := hSw.cell cxb_0 id; have ecxb_1 := hSw.cell cxb_1 id; have ecxb_2 := hSw.cell cxb_2 id; have ecxb_3 := hSw.cell cxb_3 id; have ecyb_0 := hSw.cell cyb_0 id; have ecyb_1 := hSw.cell cyb_1 id; have ecyb_2 := hSw.cell cyb_2 id; have ecyb_3 := hSw.cell cyb_3 id; have z1 := Z1.out; have z2 := Z2.out; go_simp <;> with_reducible rfl)
    try simp only [Act.put, List.setIfInBounds_toArray, List.set_cons_zero, List.set_cons_succ]
    refine wpAnyH_take (i := 15) (oi := { dst := some 38, op := Go.Op.pick (Go.Operand.tmp 24) (Go.Operand.tmp 37) (Go.Operand.const (Go.Value.bool false)), type := 4, pos := "more.go:15", after := #[{ on := 1, ground := Go.Ground.data }, { on := 14, ground := Go.Ground.data }], guard := none }) (v := ?v50) rfl (by kernel_rfl) (by kernel_rfl) (by kernel_rfl) (fun _ _ _ h => h) (Or.inl ⟨by rfl, ?hy50⟩) (by assumption) ?rest50
    case hy50 => (intro w hSw; (try dsimp only at hSw); have ecxb_0 := hSw.cell cxb_0 id; have ecxb_1 := hSw.cell cxb_1 id; have ecxb_2 := hSw.cell cxb_2 id; have ecxb_3 := hSw.cell cxb_3 id; have ecyb_0 := hSw.cell cyb_0 id; have ecyb_1 := hSw.cell cyb_1 id; have ecyb_2 := hSw.cell cyb_2 id; have ecyb_3 := hSw.cell cyb_3 id; have z1 := Z1.out; have z2 := Z2.out; go_simp <;> with_reducible rfl)
    try simp only [Act.put, List.setIfInBounds_toArray, List.set_cons_zero, List.set_cons_succ]
    refine wpAnyH_take (i := 16) (oi := { dst := some 4, op := Go.Op.assign (Go.Operand.tmp 38), type := 4, pos := "more.go:15", after := #[{ on := 15, ground := Go.Ground.data }, { on := 12, ground := Go.Ground.chain }, { on := 0, ground := Go.Ground.phase }, { on := 1, ground := Go.Ground.phase }, { on := 2, ground := Go.Ground.phase }, { on := 3, ground := Go.Ground.phase }, { on := 4, ground := Go.Ground.phase }, { on := 5, ground := Go.Ground.phase }, { on := 6, ground := Go.Ground.phase }, { on := 7, ground := Go.Ground.phase }, { on := 8, ground := Go.Ground.phase }, { on := 9, ground := Go.Ground.phase }, { on := 10, ground := Go.Ground.phase }, { on := 11, ground := Go.Ground.phase }, { on := 12, ground := Go.Ground.phase }, { on := 13, ground := Go.Ground.phase }, { on := 14, ground := Go.Ground.phase }, { on := 15, ground := Go.Ground.phase }], guard := none }) (v := ?v51) rfl (by kernel_rfl) (by kernel_rfl) (by kernel_rfl) (fun _ _ _ h => h) (Or.inl ⟨by rfl, ?hy51⟩) (by assumption) ?rest51
    case hy51 => (intro w hSw; (try dsimp only at hSw); have ecxb_0 := hSw.cell cxb_0 id; have ecxb_1 := hSw.cell cxb_1 id; have ecxb_2 := hSw.cell cxb_2 id; have ecxb_3 := hSw.cell cxb_3 id; have ecyb_0 := hSw.cell cyb_0 id; have ecyb_1 := hSw.cell cyb_1 id; have ecyb_2 := hSw.cell cyb_2 id; have ecyb_3 := hSw.cell cyb_3 id; have z1 := Z1.out; have z2 := Z2.out; go_simp <;> with_reducible rfl)
    try simp only [Act.put, List.setIfInBounds_toArray, List.set_cons_zero, List.set_cons_succ]
    refine wpAnyH_done (by kernel_rfl) ?_ _
    have HXE := Lib.hid (((((HX_wd.out.trans HX_w3.out).trans HX_w6.out).trans HX_w10.out).trans HX_w12.out))
    go_wp2_with fail
    go_ret
    exact ⟨rfl, HXB.out.trans HXE.out⟩
  refine AllReadyH.cons (o := { dst := some 33, op := Go.Op.call { callee := Go.Callee.value (Go.Operand.func 8), args := #[Go.Operand.tmp 32], argTypes := #[25] }, type := 29, pos := "more.go:15", after := #[{ on := 9, ground := Go.Ground.data }, { on := 6, ground := Go.Ground.chain }, { on := 1, ground := Go.Ground.guard }], guard := some (1, true) }) rfl (fun K hK => ?_) AllReadyH.nil
  go_simp
  refine (of7_any _ (⟨xty, xco, xrest, xl⟩ : Ms) Ax cx _ OKX.out (RB.keep HX.out ((HX_wd.out.trans HX_w3.out).trans HX_w6.out) (fun _ _ _ => id))).mono ?_
  rintro e w10 ⟨rfl, hx⟩
  have HX_w10 := Lib.hid hx
  clear hx
  have hS : Ex (fun _ => False) wb w10 := (((HX_wd.out.trans HX_w3.out).trans HX_w6.out).trans HX_w10.out)
  refine hK.out _ _ hS (fun _ => ?_)
  refine wpAnyH_ready (rs := [4, 7, 12]) (by kernel_rfl) (by simp) ?_
  refine AllReadyH.cons (o := { dst := some 27, op := Go.Op.convert 23 9 (Go.Operand.tmp 26), type := 9, pos := "more.go:15", after := #[{ on := 3, ground := Go.Ground.data }, { on := 1, ground := Go.Ground.guard }], guard := some (1, true) }) rfl (fun K hK => ?_) ?_
  ·
    have hcv := ((OB.keep HO3.out (HX_w6.out.trans HX_w10.out) (fun _ _ _ _ => id))).rb.str (Pr := Try.prog) 23 9 5 Try.underlying23 Try.underlying5 Try.underlying9
    go_simp
    clear hcv
    have hx : Ex (fun _ => False) w10 w10 := Ex.refl _ _
    clear hx
    have hS : Ex (fun _ => False) wb w10 := (((HX_wd.out.trans HX_w3.out).trans HX_w6.out).trans HX_w10.out)
    refine hK.out _ _ hS (fun _ => ?_)
    refine wpAnyH_ready (rs := [7, 12]) (by kernel_rfl) (by simp) ?_
    refine AllReadyH.cons (o := { dst := some 30, op := Go.Op.convert 23 9 (Go.Operand.tmp 29), type := 9, pos := "more.go:15", after := #[{ on := 6, ground := Go.Ground.data }, { on := 1, ground := Go.Ground.guard }], guard := some (1, true) }) rfl (fun K hK => ?_) ?_
    ·
      have hcv := ((OB.keep HO6.out HX_w10.out (fun _ _ _ _ => id))).rb.str (Pr := Try.prog) 23 9 5 Try.underlying23 Try.underlying5 Try.underlying9
      go_simp
      clear hcv
      have hx : Ex (fun _ => False) w10 w10 := Ex.refl _ _
      clear hx
      have hS : Ex (fun _ => False) wb w10 := (((HX_wd.out.trans HX_w3.out).trans HX_w6.out).trans HX_w10.out)
      refine hK.out _ _ hS (fun _ => ?_)
      refine wpAnyH_take (i := 8) (oi := { dst := some 31, op := Go.Op.binOp Go.BinOp.eql 9 (Go.Operand.tmp 27) (Go.Operand.tmp 30) 9, type := 4, pos := "more.go:15", after := #[{ on := 4, ground := Go.Ground.data }, { on := 7, ground := Go.Ground.data }, { on := 1, ground := Go.Ground.guard }], guard := some (1, true) }) (v := ?v52) rfl (by kernel_rfl) (by kernel_rfl) (by kernel_rfl) (fun _ _ _ h => h) (Or.inl ⟨by rfl, ?hy52⟩) (by assumption) ?rest52
      case hy52 => (intro w hSw; (try dsimp only at hSw); have ecxb_0 := hSw.cell cxb_0 id; have ecxb_1 := hSw.cell cxb_1 id; have ecxb_2 := hSw.cell cxb_2 id; have ecxb_3 := hSw.cell cxb_3 id; have ecyb_0 := hSw.cell cyb_0 id; have ecyb_1 := hSw.cell cyb_1 id; have ecyb_2 := hSw.cell cyb_2 id; have ecyb_3 := hSw.cell cyb_3 id; have z1 := Z1.out; have z2 := Z2.out; go_simp <;> with_reducible rfl)
      try simp only [Act.put, List.setIfInBounds_toArray, List.set_cons_zero, List.set_cons_succ]
      refine wpAnyH_ready (rs := [12]) (by kernel_rfl) (by simp) ?_
      refine AllReadyH.cons (o := { dst := some 35, op := Go.Op.call { callee := Go.Callee.value (Go.Operand.func 8), args := #[Go.Operand.tmp 34], argTypes := #[25] }, type := 29, pos := "more.go:15", after := #[{ on := 11, ground := Go.Ground.data }, { on := 10, ground := Go.Ground.chain }, { on := 1, ground := Go.Ground.guard }], guard := some (1, true) }) rfl (fun K hK => ?_) AllReadyH.nil
      go_simp
      refine (of7_any _ (⟨yty, yco, yrest, yl⟩ : Ms) Ay cy _ OKY.out (RB.keep HY.out (((HX_wd.out.trans HX_w3.out).trans HX_w6.out).trans HX_w10.out) (fun _ _ _ => id))).mono ?_
      rintro e w12 ⟨rfl, hx⟩
      have HX_w12 := Lib.hid hx
      clear hx
      have hS : Ex (fun _ => False) wb w12 := ((((HX_wd.out.trans HX_w3.out).trans HX_w6.out).trans HX_w10.out).trans HX_w12.out)
      refine hK.out _ _ hS (fun _ => ?_)
      refine wpAnyH_take (i := 13) (oi := { dst := some 36, op := Go.Op.binOp Go.BinOp.eql 29 (Go.Operand.tmp 33) (Go.Operand.tmp 35) 29, type := 4, pos := "more.go:15", after := #[{ on := 10, ground := Go.Ground.data }, { on := 12, ground := Go.Ground.data }, { on := 1, ground := Go.Ground.guard }], guard := some (1, true) }) (v := ?v53) rfl (by kernel_rfl) (by kernel_rfl) (by kernel_rfl) (fun _ _ _ h => h) (Or.inl ⟨by rfl, ?hy53⟩) (by assumption) ?rest53
      case hy53 => (intro w hSw; (try dsimp only at hSw); have ecxb_0 := hSw.cell cxb_0 id; have ecxb_1 := hSw.cell cxb_1 id; have ecxb_2 := hSw.cell cxb_2 id; have ecxb_3 := hSw.cell cxb_3 id; have ecyb_0 := hSw.cell cyb_0 id; have ecyb_1 := hSw.cell cyb_1 id; have ecyb_2 := hSw.cell cyb_2 id; have ecyb_3 := hSw.cell cyb_3 id; have z1 := Z1.out; have z2 := Z2.out; go_simp <;> with_reducible rfl)
      try simp only [Act.put, List.setIfInBounds_toArray, List.set_cons_zero, List.set_cons_succ]
      refine wpAnyH_take (i := 14) (oi := { dst := some 37, op := Go.Op.binOp Go.BinOp.eql 4 (Go.Operand.tmp 31) (Go.Operand.tmp 36) 4, type := 4, pos := "more.go:15", after := #[{ on := 8, ground := Go.Ground.data }, { on := 13, ground := Go.Ground.data }, { on := 1, ground := Go.Ground.guard }], guard := some (1, true) }) (v := ?v54) rfl (by kernel_rfl) (by kernel_rfl) (by kernel_rfl) (fun _ _ _ h => h) (Or.inl ⟨by rfl, ?hy54⟩) (by assumption) ?rest54
      case hy54 => (intro w hSw; (try dsimp only at hSw); have ecxb_0 := hSw.cell cxb_0 id; have ecxb_1 := hSw.cell cxb_1 id; have ecxb_2 := hSw.cell cxb_2 id; have ecxb_3 := hSw.cell cxb_3 id; have ecyb_0 := hSw.cell cyb_0 id; have ecyb_1 := hSw.cell cyb_1 id; have ecyb_2 := hSw.cell cyb_2 id; have ecyb_3 := hSw.cell cyb_3 id; have z1 := Z1.out; have z2 := Z2.out; go_simp <;> with_reducible rfl)
      try simp only [Act.put, List.setIfInBounds_toArray, List.set_cons_zero, List.set_cons_succ]
      refine wpAnyH_take (i := 15) (oi := { dst := some 38, op := Go.Op.pick (Go.Operand.tmp 24) (Go.Operand.tmp 37) (Go.Operand.const (Go.Value.bool false)), type := 4, pos := "more.go:15", after := #[{ on := 1, ground := Go.Ground.data }, { on := 14, ground := Go.Ground.data }], guard := none }) (v := ?v55) rfl (by kernel_rfl) (by kernel_rfl) (by kernel_rfl) (fun _ _ _ h => h) (Or.inl ⟨by rfl, ?hy55⟩) (by assumption) ?rest55
      case hy55 => (intro w hSw; (try dsimp only at hSw); have ecxb_0 := hSw.cell cxb_0 id; have ecxb_1 := hSw.cell cxb_1 id; have ecxb_2 := hSw.cell cxb_2 id; have ecxb_3 := hSw.cell cxb_3 id; have ecyb_0 := hSw.cell cyb_0 id; have ecyb_1 := hSw.cell cyb_1 id; have ecyb_2 := hSw.cell cyb_2 id; have ecyb_3 := hSw.cell cyb_3 id; have z1 := Z1.out; have z2 := Z2.out; go_simp <;> with_reducible rfl)
      try simp only [Act.put, List.setIfInBounds_toArray, List.set_cons_zero, List.set_cons_succ]
      refine wpAnyH_take (i := 16) (oi := { dst := some 4, op := Go.Op.assign (Go.Operand.tmp 38), type := 4, pos := "more.go:15", after := #[{ on := 15, ground := Go.Ground.data }, { on := 12, ground := Go.Ground.chain }, { on := 0, ground := Go.Ground.phase }, { on := 1, ground := Go.Ground.phase }, { on := 2, ground := Go.Ground.phase }, { on := 3, ground := Go.Ground.phase }, { on := 4, ground := Go.Ground.phase }, { on := 5, ground := Go.Ground.phase }, { on := 6, ground := Go.Ground.phase }, { on := 7, ground := Go.Ground.phase }, { on := 8, ground := Go.Ground.phase }, { on := 9, ground := Go.Ground.phase }, { on := 10, ground := Go.Ground.phase }, { on := 11, ground := Go.Ground.phase }, { on := 12, ground := Go.Ground.phase }, { on := 13, ground := Go.Ground.phase }, { on := 14, ground := Go.Ground.phase }, { on := 15, ground := Go.Ground.phase }], guard := none }) (v := ?v56) rfl (by kernel_rfl) (by kernel_rfl) (by kernel_rfl) (fun _ _ _ h => h) (Or.inl ⟨by rfl, ?hy56⟩) (by assumption) ?rest56
      case hy56 => (intro w hSw; (try dsimp only at hSw); have ecxb_0 := hSw.cell cxb_0 id; have ecxb_1 := hSw.cell cxb_1 id; have ecxb_2 := hSw.cell cxb_2 id; have ecxb_3 := hSw.cell cxb_3 id; have ecyb_0 := hSw.cell cyb_0 id; have ecyb_1 := hSw.cell cyb_1 id; have ecyb_2 := hSw.cell cyb_2 id; have ecyb_3 := hSw.cell cyb_3 id; have z1 := Z1.out; have z2 := Z2.out; go_simp <;> with_reducible rfl)
      try simp only [Act.put, List.setIfInBounds_toArray, List.set_cons_zero, List.set_cons_succ]
      refine wpAnyH_done (by kernel_rfl) ?_ _
      have HXE := Lib.hid (((((HX_wd.out.trans HX_w3.out).trans HX_w6.out).trans HX_w10.out).trans HX_w12.out))
      go_wp2_with fail
      go_ret
      exact ⟨rfl, HXB.out.trans HXE.out⟩
    refine AllReadyH.cons (o := { dst := some 35, op := Go.Op.call { callee := Go.Callee.value (Go.Operand.func 8), args := #[Go.Operand.tmp 34], argTypes := #[25] }, type := 29, pos := "more.go:15", after := #[{ on := 11, ground := Go.Ground.data }, { on := 10, ground := Go.Ground.chain }, { on := 1, ground := Go.Ground.guard }], guard := some (1, true) }) rfl (fun K hK => ?_) AllReadyH.nil
    go_simp
    refine (of7_any _ (⟨yty, yco, yrest, yl⟩ : Ms) Ay cy _ OKY.out (RB.keep HY.out (((HX_wd.out.trans HX_w3.out).trans HX_w6.out).trans HX_w10.out) (fun _ _ _ => id))).mono ?_
    rintro e w12 ⟨rfl, hx⟩
    have HX_w12 := Lib.hid hx
    clear hx
    have hS : Ex (fun _ => False) wb w12 := ((((HX_wd.out.trans HX_w3.out).trans HX_w6.out).trans HX_w10.out).trans HX_w12.out)
    refine hK.out _ _ hS (fun _ => ?_)
    refine wpAnyH_take (i := 13) (oi := { dst := some 36, op := Go.Op.binOp Go.BinOp.eql 29 (Go.Operand.tmp 33) (Go.Operand.tmp 35) 29, type := 4, pos := "more.go:15", after := #[{ on := 10, ground := Go.Ground.data }, { on := 12, ground := Go.Ground.data }, { on := 1, ground := Go.Ground.guard }], guard := some (1, true) }) (v := ?v57) rfl (by kernel_rfl) (by kernel_rfl) (by kernel_rfl) (fun _ _ _ h => h) (Or.inl ⟨by rfl, ?hy57⟩) (by assumption) ?rest57
    case hy57 => (intro w hSw; (try dsimp only at hSw); have ecxb_0 := hSw.cell cxb_0 id; have ecxb_1 := hSw.cell cxb_1 id; have ecxb_2 := hSw.cell cxb_2 id; have ecxb_3 := hSw.cell cxb_3 id; have ecyb_0 := hSw.cell cyb_0 id; have ecyb_1 := hSw.cell cyb_1 id; have ecyb_2 := hSw.cell cyb_2 id; have ecyb_3 := hSw.cell cyb_3 id; have z1 := Z1.out; have z2 := Z2.out; go_simp <;> with_reducible rfl)
    try simp only [Act.put, List.setIfInBounds_toArray, List.set_cons_zero, List.set_cons_succ]
    refine wpAnyH_ready (rs := [7]) (by kernel_rfl) (by simp) ?_
    refine AllReadyH.cons (o := { dst := some 30, op := Go.Op.convert 23 9 (Go.Operand.tmp 29), type := 9, pos := "more.go:15", after := #[{ on := 6, ground := Go.Ground.data }, { on := 1, ground := Go.Ground.guard }], guard := some (1, true) }) rfl (fun K hK => ?_) AllReadyH.nil
    have hcv := ((OB.keep HO6.out (HX_w10.out.trans HX_w12.out) (fun _ _ _ _ => id))).rb.str (Pr := Try.prog) 23 9 5 Try.underlying23 Try.underlying5 Try.underlying9
    go_simp
    clear hcv
    have hx : Ex (fun _ => False) w12 w12 := Ex.refl _ _
    clear hx
    have hS : Ex (fun _ => False) wb w12 := ((((HX_wd.out.trans HX_w3.out).trans HX_w6.out).trans HX_w10.out).trans HX_w12.out)
    refine hK.out _ _ hS (fun _ => ?_)
    refine wpAnyH_take (i := 8) (oi := { dst := some 31, op := Go.Op.binOp Go.BinOp.eql 9 (Go.Operand.tmp 27) (Go.Operand.tmp 30) 9, type := 4, pos := "more.go:15", after := #[{ on := 4, ground := Go.Ground.data }, { on := 7, ground := Go.Ground.data }, { on := 1, ground := Go.Ground.guard }], guard := some (1, true) }) (v := ?v58) rfl (by kernel_rfl) (by kernel_rfl) (by kernel_rfl) (fun _ _ _ h => h) (Or.inl ⟨by rfl, ?hy58⟩) (by assumption) ?rest58
    case hy58 => (intro w hSw; (try dsimp only at hSw); have ecxb_0 := hSw.cell cxb_0 id; have ecxb_1 := hSw.cell cxb_1 id; have ecxb_2 := hSw.cell cxb_2 id; have ecxb_3 := hSw.cell cxb_3 id; have ecyb_0 := hSw.cell cyb_0 id; have ecyb_1 := hSw.cell cyb_1 id; have ecyb_2 := hSw.cell cyb_2 id; have ecyb_3 := hSw.cell cyb_3 id; have z1 := Z1.out; have z2 := Z2.out; go_simp <;> with_reducible rfl)
    try simp only [Act.put, List.setIfInBounds_toArray, List.set_cons_zero, List.set_cons_succ]
    refine wpAnyH_take (i := 14) (oi := { dst := some 37, op := Go.Op.binOp Go.BinOp.eql 4 (Go.Operand.tmp 31) (Go.Operand.tmp 36) 4, type := 4, pos := "more.go:15", after := #[{ on := 8, ground := Go.Ground.data }, { on := 13, ground := Go.Ground.data }, { on := 1, ground := Go.Ground.guard }], guard := some (1, true) }) (v := ?v59) rfl (by kernel_rfl) (by kernel_rfl) (by kernel_rfl) (fun _ _ _ h => h) (Or.inl ⟨by rfl, ?hy59⟩) (by assumption) ?rest59
    case hy59 => (intro w hSw; (try dsimp only at hSw); have ecxb_0 := hSw.cell cxb_0 id; have ecxb_1 := hSw.cell cxb_1 id; have ecxb_2 := hSw.cell cxb_2 id; have ecxb_3 := hSw.cell cxb_3 id; have ecyb_0 := hSw.cell cyb_0 id; have ecyb_1 := hSw.cell cyb_1 id; have ecyb_2 := hSw.cell cyb_2 id; have ecyb_3 := hSw.cell cyb_3 id; have z1 := Z1.out; have z2 := Z2.out; go_simp <;> with_reducible rfl)
    try simp only [Act.put, List.setIfInBounds_toArray, List.set_cons_zero, List.set_cons_succ]
    refine wpAnyH_take (i := 15) (oi := { dst := some 38, op := Go.Op.pick (Go.Operand.tmp 24) (Go.Operand.tmp 37) (Go.Operand.const (Go.Value.bool false)), type := 4, pos := "more.go:15", after := #[{ on := 1, ground := Go.Ground.data }, { on := 14, ground := Go.Ground.data }], guard := none }) (v := ?v60) rfl (by kernel_rfl) (by kernel_rfl) (by kernel_rfl) (fun _ _ _ h => h) (Or.inl ⟨by rfl, ?hy60⟩) (by assumption) ?rest60
    case hy60 => (intro w hSw; (try dsimp only at hSw); have ecxb_0 := hSw.cell cxb_0 id; have ecxb_1 := hSw.cell cxb_1 id; have ecxb_2 := hSw.cell cxb_2 id; have ecxb_3 := hSw.cell cxb_3 id; have ecyb_0 := hSw.cell cyb_0 id; have ecyb_1 := hSw.cell cyb_1 id; have ecyb_2 := hSw.cell cyb_2 id; have ecyb_3 := hSw.cell cyb_3 id; have z1 := Z1.out; have z2 := Z2.out; go_simp <;> with_reducible rfl)
    try simp only [Act.put, List.setIfInBounds_toArray, List.set_cons_zero, List.set_cons_succ]
    refine wpAnyH_take (i := 16) (oi := { dst := some 4, op := Go.Op.assign (Go.Operand.tmp 38), type := 4, pos := "more.go:15", after := #[{ on := 15, ground := Go.Ground.data }, { on := 12, ground := Go.Ground.chain }, { on := 0, ground := Go.Ground.phase }, { on := 1, ground := Go.Ground.phase }, { on := 2, ground := Go.Ground.phase }, { on := 3, ground := Go.Ground.phase }, { on := 4, ground := Go.Ground.phase }, { on := 5, ground := Go.Ground.phase }, { on := 6, ground := Go.Ground.phase }, { on := 7, ground := Go.Ground.phase }, { on := 8, ground := Go.Ground.phase }, { on := 9, ground := Go.Ground.phase }, { on := 10, ground := Go.Ground.phase }, { on := 11, ground := Go.Ground.phase }, { on := 12, ground := Go.Ground.phase }, { on := 13, ground := Go.Ground.phase }, { on := 14, ground := Go.Ground.phase }, { on := 15, ground := Go.Ground.phase }], guard := none }) (v := ?v61) rfl (by kernel_rfl) (by kernel_rfl) (by kernel_rfl) (fun _ _ _ h => h) (Or.inl ⟨by rfl, ?hy61⟩) (by assumption) ?rest61
    case hy61 => (intro w hSw; (try dsimp only at hSw); have ecxb_0 := hSw.cell cxb_0 id; have ecxb_1 := hSw.cell cxb_1 id; have ecxb_2 := hSw.cell cxb_2 id; have ecxb_3 := hSw.cell cxb_3 id; have ecyb_0 := hSw.cell cyb_0 id; have ecyb_1 := hSw.cell cyb_1 id; have ecyb_2 := hSw.cell cyb_2 id; have ecyb_3 := hSw.cell cyb_3 id; have z1 := Z1.out; have z2 := Z2.out; go_simp <;> with_reducible rfl)
    try simp only [Act.put, List.setIfInBounds_toArray, List.set_cons_zero, List.set_cons_succ]
    refine wpAnyH_done (by kernel_rfl) ?_ _
    have HXE := Lib.hid (((((HX_wd.out.trans HX_w3.out).trans HX_w6.out).trans HX_w10.out).trans HX_w12.out))
    go_wp2_with fail
    go_ret
    exact ⟨rfl, HXB.out.trans HXE.out⟩
  refine AllReadyH.cons (o := { dst := some 30, op := Go.Op.convert 23 9 (Go.Operand.tmp 29), type := 9, pos := "more.go:15", after := #[{ on := 6, ground := Go.Ground.data }, { on := 1, ground := Go.Ground.guard }], guard := some (1, true) }) rfl (fun K hK => ?_) ?_
  ·
    have hcv := ((OB.keep HO6.out HX_w10.out (fun _ _ _ _ => id))).rb.str (Pr := Try.prog) 23 9 5 Try.underlying23 Try.underlying5 Try.underlying9
    go_simp
    clear hcv
    have hx : Ex (fun _ => False) w10 w10 := Ex.refl _ _
    clear hx
    have hS : Ex (fun _ => False) wb w10 := (((HX_wd.out.trans HX_w3.out).trans HX_w6.out).trans HX_w10.out)
    refine hK.out _ _ hS (fun _ => ?_)
    refine wpAnyH_ready (rs := [4, 12]) (by kernel_rfl) (by simp) ?_
    refine AllReadyH.cons (o := { dst := some 27, op := Go.Op.convert 23 9 (Go.Operand.tmp 26), type := 9, pos := "more.go:15", after := #[{ on := 3, ground := Go.Ground.data }, { on := 1, ground := Go.Ground.guard }], guard := some (1, true) }) rfl (fun K hK => ?_) ?_
    ·
      have hcv := ((OB.keep HO3.out (HX_w6.out.trans HX_w10.out) (fun _ _ _ _ => id))).rb.str (Pr := Try.prog) 23 9 5 Try.underlying23 Try.underlying5 Try.underlying9
      go_simp
      clear hcv
      have hx : Ex (fun _ => False) w10 w10 := Ex.refl _ _
      clear hx
      have hS : Ex (fun _ => False) wb w10 := (((HX_wd.out.trans HX_w3.out).trans HX_w6.out).trans HX_w10.out)
      refine hK.out _ _ hS (fun _ => ?_)
      refine wpAnyH_take (i := 8) (oi := { dst := some 31, op := Go.Op.binOp Go.BinOp.eql 9 (Go.Operand.tmp 27) (Go.Operand.tmp 30) 9, type := 4, pos := "more.go:15", after := #[{ on := 4, ground := Go.Ground.data }, { on := 7, ground := Go.Ground.data }, { on := 1, ground := Go.Ground.guard }], guard := some (1, true) }) (v := ?v62) rfl (by kernel_rfl) (by kernel_rfl) (by kernel_rfl) (fun _ _ _ h => h) (Or.inl ⟨by rfl, ?hy62⟩) (by assumption) ?rest62
      case hy62 => (intro w hSw; (try dsimp only at hSw); have ecxb_0 := hSw.cell cxb_0 id; have ecxb_1 := hSw.cell cxb_1 id; have ecxb_2 := hSw.cell cxb_2 id; have ecxb_3 := hSw.cell cxb_3 id; have ecyb_0 := hSw.cell cyb_0 id; have ecyb_1 := hSw.cell cyb_1 id; have ecyb_2 := hSw.cell cyb_2 id; have ecyb_3 := hSw.cell cyb_3 id; have z1 := Z1.out; have z2 := Z2.out; go_simp <;> with_reducible rfl)
      try simp only [Act.put, List.setIfInBounds_toArray, List.set_cons_zero, List.set_cons_succ]
      refine wpAnyH_ready (rs := [12]) (by kernel_rfl) (by simp) ?_
      refine AllReadyH.cons (o := { dst := some 35, op := Go.Op.call { callee := Go.Callee.value (Go.Operand.func 8), args := #[Go.Operand.tmp 34], argTypes := #[25] }, type := 29, pos := "more.go:15", after := #[{ on := 11, ground := Go.Ground.data }, { on := 10, ground := Go.Ground.chain }, { on := 1, ground := Go.Ground.guard }], guard := some (1, true) }) rfl (fun K hK => ?_) AllReadyH.nil
      go_simp
      refine (of7_any _ (⟨yty, yco, yrest, yl⟩ : Ms) Ay cy _ OKY.out (RB.keep HY.out (((HX_wd.out.trans HX_w3.out).trans HX_w6.out).trans HX_w10.out) (fun _ _ _ => id))).mono ?_
      rintro e w12 ⟨rfl, hx⟩
      have HX_w12 := Lib.hid hx
      clear hx
      have hS : Ex (fun _ => False) wb w12 := ((((HX_wd.out.trans HX_w3.out).trans HX_w6.out).trans HX_w10.out).trans HX_w12.out)
      refine hK.out _ _ hS (fun _ => ?_)
      refine wpAnyH_take (i := 13) (oi := { dst := some 36, op := Go.Op.binOp Go.BinOp.eql 29 (Go.Operand.tmp 33) (Go.Operand.tmp 35) 29, type := 4, pos := "more.go:15", after := #[{ on := 10, ground := Go.Ground.data }, { on := 12, ground := Go.Ground.data }, { on := 1, ground := Go.Ground.guard }], guard := some (1, true) }) (v := ?v63) rfl (by kernel_rfl) (by kernel_rfl) (by kernel_rfl) (fun _ _ _ h => h) (Or.inl ⟨by rfl, ?hy63⟩) (by assumption) ?rest63
      case hy63 => (intro w hSw; (try dsimp only at hSw); have ecxb_0 := hSw.cell cxb_0 id; have ecxb_1 := hSw.cell cxb_1 id; have ecxb_2 := hSw.cell cxb_2 id; have ecxb_3 := hSw.cell cxb_3 id; have ecyb_0 := hSw.cell cyb_0 id; have ecyb_1 := hSw.cell cyb_1 id; have ecyb_2 := hSw.cell cyb_2 id; have ecyb_3 := hSw.cell cyb_3 id; have z1 := Z1.out; have z2 := Z2.out; go_simp <;> with_reducible rfl)
      try simp only [Act.put, List.setIfInBounds_toArray, List.set_cons_zero, List.set_cons_succ]
      refine wpAnyH_take (i := 14) (oi := { dst := some 37, op := Go.Op.binOp Go.BinOp.eql 4 (Go.Operand.tmp 31) (Go.Operand.tmp 36) 4, type := 4, pos := "more.go:15", after := #[{ on := 8, ground := Go.Ground.data }, { on := 13, ground := Go.Ground.data }, { on := 1, ground := Go.Ground.guard }], guard := some (1, true) }) (v := ?v64) rfl (by kernel_rfl) (by kernel_rfl) (by kernel_rfl) (fun _ _ _ h => h) (Or.inl ⟨by rfl, ?hy64⟩) (by assumption) ?rest64
      case hy64 => (intro w hSw; (try dsimp only at hSw); have ecxb_0 := hSw.cell cxb_0 id; have ecxb_1 := hSw.cell cxb_1 id; have ecxb_2 := hSw.cell cxb_2 id; have ecxb_3 := hSw.cell cxb_3 id; have ecyb_0 := hSw.cell cyb_0 id; have ecyb_1 := hSw.cell cyb_1 id; have ecyb_2 := hSw.cell cyb_2 id; have ecyb_3 := hSw.cell cyb_3 id; have z1 := Z1.out; have z2 := Z2.out; go_simp <;> with_reducible rfl)
      try simp only [Act.put, List.setIfInBounds_toArray, List.set_cons_zero, List.set_cons_succ]
      refine wpAnyH_take (i := 15) (oi := { dst := some 38, op := Go.Op.pick (Go.Operand.tmp 24) (Go.Operand.tmp 37) (Go.Operand.const (Go.Value.bool false)), type := 4, pos := "more.go:15", after := #[{ on := 1, ground := Go.Ground.data }, { on := 14, ground := Go.Ground.data }], guard := none }) (v := ?v65) rfl (by kernel_rfl) (by kernel_rfl) (by kernel_rfl) (fun _ _ _ h => h) (Or.inl ⟨by rfl, ?hy65⟩) (by assumption) ?rest65
      case hy65 => (intro w hSw; (try dsimp only at hSw); have ecxb_0 := hSw.cell cxb_0 id; have ecxb_1 := hSw.cell cxb_1 id; have ecxb_2 := hSw.cell cxb_2 id; have ecxb_3 := hSw.cell cxb_3 id; have ecyb_0 := hSw.cell cyb_0 id; have ecyb_1 := hSw.cell cyb_1 id; have ecyb_2 := hSw.cell cyb_2 id; have ecyb_3 := hSw.cell cyb_3 id; have z1 := Z1.out; have z2 := Z2.out; go_simp <;> with_reducible rfl)
      try simp only [Act.put, List.setIfInBounds_toArray, List.set_cons_zero, List.set_cons_succ]
      refine wpAnyH_take (i := 16) (oi := { dst := some 4, op := Go.Op.assign (Go.Operand.tmp 38), type := 4, pos := "more.go:15", after := #[{ on := 15, ground := Go.Ground.data }, { on := 12, ground := Go.Ground.chain }, { on := 0, ground := Go.Ground.phase }, { on := 1, ground := Go.Ground.phase }, { on := 2, ground := Go.Ground.phase }, { on := 3, ground := Go.Ground.phase }, { on := 4, ground := Go.Ground.phase }, { on := 5, ground := Go.Ground.phase }, { on := 6, ground := Go.Ground.phase }, { on := 7, ground := Go.Ground.phase }, { on := 8, ground := Go.Ground.phase }, { on := 9, ground := Go.Ground.phase }, { on := 10, ground := Go.Ground.phase }, { on := 11, ground := Go.Ground.phase }, { on := 12, ground := Go.Ground.phase }, { on := 13, ground := Go.Ground.phase }, { on := 14, ground := Go.Ground.phase }, { on := 15, ground := Go.Ground.phase }], guard := none }) (v := ?v66) rfl (by kernel_rfl) (by kernel_rfl) (by kernel_rfl) (fun _ _ _ h => h) (Or.inl ⟨by rfl, ?hy66⟩) (by assumption) ?rest66
      case hy66 => (intro w hSw; (try dsimp only at hSw); have ecxb_0 := hSw.cell cxb_0 id; have ecxb_1 := hSw.cell cxb_1 id; have ecxb_2 := hSw.cell cxb_2 id; have ecxb_3 := hSw.cell cxb_3 id; have ecyb_0 := hSw.cell cyb_0 id; have ecyb_1 := hSw.cell cyb_1 id; have ecyb_2 := hSw.cell cyb_2 id; have ecyb_3 := hSw.cell cyb_3 id; have z1 := Z1.out; have z2 := Z2.out; go_simp <;> with_reducible rfl)
      try simp only [Act.put, List.setIfInBounds_toArray, List.set_cons_zero, List.set_cons_succ]
      refine wpAnyH_done (by kernel_rfl) ?_ _
      have HXE := Lib.hid (((((HX_wd.out.trans HX_w3.out).trans HX_w6.out).trans HX_w10.out).trans HX_w12.out))
      go_wp2_with fail
      go_ret
      exact ⟨rfl, HXB.out.trans HXE.out⟩
    refine AllReadyH.cons (o := { dst := some 35, op := Go.Op.call { callee := Go.Callee.value (Go.Operand.func 8), args := #[Go.Operand.tmp 34], argTypes := #[25] }, type := 29, pos := "more.go:15", after := #[{ on := 11, ground := Go.Ground.data }, { on := 10, ground := Go.Ground.chain }, { on := 1, ground := Go.Ground.guard }], guard := some (1, true) }) rfl (fun K hK => ?_) AllReadyH.nil
    go_simp
    refine (of7_any _ (⟨yty, yco, yrest, yl⟩ : Ms) Ay cy _ OKY.out (RB.keep HY.out (((HX_wd.out.trans HX_w3.out).trans HX_w6.out).trans HX_w10.out) (fun _ _ _ => id))).mono ?_
    rintro e w12 ⟨rfl, hx⟩
    have HX_w12 := Lib.hid hx
    clear hx
    have hS : Ex (fun _ => False) wb w12 := ((((HX_wd.out.trans HX_w3.out).trans HX_w6.out).trans HX_w10.out).trans HX_w12.out)
    refine hK.out _ _ hS (fun _ => ?_)
    refine wpAnyH_take (i := 13) (oi := { dst := some 36, op := Go.Op.binOp Go.BinOp.eql 29 (Go.Operand.tmp 33) (Go.Operand.tmp 35) 29, type := 4, pos := "more.go:15", after := #[{ on := 10, ground := Go.Ground.data }, { on := 12, ground := Go.Ground.data }, { on := 1, ground := Go.Ground.guard }], guard := some (1, true) }) (v := ?v67) rfl (by kernel_rfl) (by kernel_rfl) (by kernel_rfl) (fun _ _ _ h => h) (Or.inl ⟨by rfl, ?hy67⟩) (by assumption) ?rest67
    case hy67 => (intro w hSw; (try dsimp only at hSw); have ecxb_0 := hSw.cell cxb_0 id; have ecxb_1 := hSw.cell cxb_1 id; have ecxb_2 := hSw.cell cxb_2 id; have ecxb_3 := hSw.cell cxb_3 id; have ecyb_0 := hSw.cell cyb_0 id; have ecyb_1 := hSw.cell cyb_1 id; have ecyb_2 := hSw.cell cyb_2 id; have ecyb_3 := hSw.cell cyb_3 id; have z1 := Z1.out; have z2 := Z2.out; go_simp <;> with_reducible rfl)
    try simp only [Act.put, List.setIfInBounds_toArray, List.set_cons_zero, List.set_cons_succ]
    refine wpAnyH_ready (rs := [4]) (by kernel_rfl) (by simp) ?_
    refine AllReadyH.cons (o := { dst := some 27, op := Go.Op.convert 23 9 (Go.Operand.tmp 26), type := 9, pos := "more.go:15", after := #[{ on := 3, ground := Go.Ground.data }, { on := 1, ground := Go.Ground.guard }], guard := some (1, true) }) rfl (fun K hK => ?_) AllReadyH.nil
    have hcv := ((OB.keep HO3.out ((HX_w6.out.trans HX_w10.out).trans HX_w12.out) (fun _ _ _ _ => id))).rb.str (Pr := Try.prog) 23 9 5 Try.underlying23 Try.underlying5 Try.underlying9
    go_simp
    clear hcv
    have hx : Ex (fun _ => False) w12 w12 := Ex.refl _ _
    clear hx
    have hS : Ex (fun _ => False) wb w12 := ((((HX_wd.out.trans HX_w3.out).trans HX_w6.out).trans HX_w10.out).trans HX_w12.out)
    refine hK.out _ _ hS (fun _ => ?_)
    refine wpAnyH_take (i := 8) (oi := { dst := some 31, op := Go.Op.binOp Go.BinOp.eql 9 (Go.Operand.tmp 27) (Go.Operand.tmp 30) 9, type := 4, pos := "more.go:15", after := #[{ on := 4, ground := Go.Ground.data }, { on := 7, ground := Go.Ground.data }, { on := 1, ground := Go.Ground.guard }], guard := some (1, true) }) (v := ?v68) rfl (by kernel_rfl) (by kernel_rfl) (by kernel_rfl) (fun _ _ _ h => h) (Or.inl ⟨by rfl, ?hy68⟩) (by assumption) ?rest68
    case hy68 => (intro w hSw; (try dsimp only at hSw); have ecxb_0 := hSw.cell cxb_0 id; have ecxb_1 := hSw.cell cxb_1 id; have ecxb_2 := hSw.cell cxb_2 id; have ecxb_3 := hSw.cell cxb_3 id; have ecyb_0 := hSw.cell cyb_0 id; have ecyb_1 := hSw.cell cyb_1 id; have ecyb_2 := hSw.cell cyb_2 id; have ecyb_3 := hSw.cell cyb_3 id; have z1 := Z1.out; have z2 := Z2.out; go_simp <;> with_reducible rfl)
    try simp only [Act.put, List.setIfInBounds_toArray, List.set_cons_zero, List.set_cons_succ]
    refine wpAnyH_take (i := 14) (oi := { dst := some 37, op := Go.Op.binOp Go.BinOp.eql 4 (Go.Operand.tmp 31) (Go.Operand.tmp 36) 4, type := 4, pos := "more.go:15", after := #[{ on := 8, ground := Go.Ground.data }, { on := 13, ground := Go.Ground.data }, { on := 1, ground := Go.Ground.guard }], guard := some (1, true) }) (v := ?v69) rfl (by kernel_rfl) (by kernel_rfl) (by kernel_rfl) (fun _ _ _ h => h) (Or.inl ⟨by rfl, ?hy69⟩) (by assumption) ?rest69
    case hy69 => (intro w hSw; (try dsimp only at hSw); have ecxb_0 := hSw.cell cxb_0 id; have ecxb_1 := hSw.cell cxb_1 id; have ecxb_2 := hSw.cell cxb_2 id; have ecxb_3 := hSw.cell cxb_3 id; have ecyb_0 := hSw.cell cyb_0 id; have ecyb_1 := hSw.cell cyb_1 id; have ecyb_2 := hSw.cell cyb_2 id; have ecyb_3 := hSw.cell cyb_3 id; have z1 := Z1.out; have z2 := Z2.out; go_simp <;> with_reducible rfl)
    try simp only [Act.put, List.setIfInBounds_toArray, List.set_cons_zero, List.set_cons_succ]
    refine wpAnyH_take (i := 15) (oi := { dst := some 38, op := Go.Op.pick (Go.Operand.tmp 24) (Go.Operand.tmp 37) (Go.Operand.const (Go.Value.bool false)), type := 4, pos := "more.go:15", after := #[{ on := 1, ground := Go.Ground.data }, { on := 14, ground := Go.Ground.data }], guard := none }) (v := ?v70) rfl (by kernel_rfl) (by kernel_rfl) (by kernel_rfl) (fun _ _ _ h => h) (Or.inl ⟨by rfl, ?hy70⟩) (by assumption) ?rest70
    case hy70 => (intro w hSw; (try dsimp only at hSw); have ecxb_0 := hSw.cell cxb_0 id; have ecxb_1 := hSw.cell cxb_1 id; have ecxb_2 := hSw.cell cxb_2 id; have ecxb_3 := hSw.cell cxb_3 id; have ecyb_0 := hSw.cell cyb_0 id; have ecyb_1 := hSw.cell cyb_1 id; have ecyb_2 := hSw.cell cyb_2 id; have ecyb_3 := hSw.cell cyb_3 id; have z1 := Z1.out; have z2 := Z2.out; go_simp <;> with_reducible rfl)
    try simp only [Act.put, List.setIfInBounds_toArray, List.set_cons_zero, List.set_cons_succ]
    refine wpAnyH_take (i := 16) (oi := { dst := some 4, op := Go.Op.assign (Go.Operand.tmp 38), type := 4, pos := "more.go:15", after := #[{ on := 15, ground := Go.Ground.data }, { on := 12, ground := Go.Ground.chain }, { on := 0, ground := Go.Ground.phase }, { on := 1, ground := Go.Ground.phase }, { on := 2, ground := Go.Ground.phase }, { on := 3, ground := Go.Ground.phase }, { on := 4, ground := Go.Ground.phase }, { on := 5, ground := Go.Ground.phase }, { on := 6, ground := Go.Ground.phase }, { on := 7, ground := Go.Ground.phase }, { on := 8, ground := Go.Ground.phase }, { on := 9, ground := Go.Ground.phase }, { on := 10, ground := Go.Ground.phase }, { on := 11, ground := Go.Ground.phase }, { on := 12, ground := Go.Ground.phase }, { on := 13, ground := Go.Ground.phase }, { on := 14, ground := Go.Ground.phase }, { on := 15, ground := Go.Ground.phase }], guard := none }) (v := ?v71) rfl (by kernel_rfl) (by kernel_rfl) (by kernel_rfl) (fun _ _ _ h => h) (Or.inl ⟨by rfl, ?hy71⟩) (by assumption) ?rest71
    case hy71 => (intro w hSw; (try dsimp only at hSw); have ecxb_0 := hSw.cell cxb_0 id; have ecxb_1 := hSw.cell cxb_1 id; have ecxb_2 := hSw.cell cxb_2 id; have ecxb_3 := hSw.cell cxb_3 id; have ecyb_0 := hSw.cell cyb_0 id; have ecyb_1 := hSw.cell cyb_1 id; have ecyb_2 := hSw.cell cyb_2 id; have ecyb_3 := hSw.cell cyb_3 id; have z1 := Z1.out; have z2 := Z2.out; go_simp <;> with_reducible rfl)
    try simp only [Act.put, List.setIfInBounds_toArray, List.set_cons_zero, List.set_cons_succ]
    refine wpAnyH_done (by kernel_rfl) ?_ _
    have HXE := Lib.hid (((((HX_wd.out.trans HX_w3.out).trans HX_w6.out).trans HX_w10.out).trans HX_w12.out))
    go_wp2_with fail
    go_ret
    exact ⟨rfl, HXB.out.trans HXE.out⟩
  refine AllReadyH.cons (o := { dst := some 35, op := Go.Op.call { callee := Go.Callee.value (Go.Operand.func 8), args := #[Go.Operand.tmp 34], argTypes := #[25] }, type := 29, pos := "more.go:15", after := #[{ on := 11, ground := Go.Ground.data }, { on := 10, ground := Go.Ground.chain }, { on := 1, ground := Go.Ground.guard }], guard := some (1, true) }) rfl (fun K hK => ?_) AllReadyH.nil
  go_simp
  refine (of7_any _ (⟨yty, yco, yrest, yl⟩ : Ms) Ay cy _ OKY.out (RB.keep HY.out (((HX_wd.out.trans HX_w3.out).trans HX_w6.out).trans HX_w10.out) (fun _ _ _ => id))).mono ?_
  rintro e w12 ⟨rfl, hx⟩
  have HX_w12 := Lib.hid hx
  clear hx
  have hS : Ex (fun _ => False) wb w12 := ((((HX_wd.out.trans HX_w3.out).trans HX_w6.out).trans HX_w10.out).trans HX_w12.out)
  refine hK.out _ _ hS (fun _ => ?_)
  refine wpAnyH_take (i := 13) (oi := { dst := some 36, op := Go.Op.binOp Go.BinOp.eql 29 (Go.Operand.tmp 33) (Go.Operand.tmp 35) 29, type := 4, pos := "more.go:15", after := #[{ on := 10, ground := Go.Ground.data }, { on := 12, ground := Go.Ground.data }, { on := 1, ground := Go.Ground.guard }], guard := some (1, true) }) (v := ?v72) rfl (by kernel_rfl) (by kernel_rfl) (by kernel_rfl) (fun _ _ _ h => h) (Or.inl ⟨by rfl, ?hy72⟩) (by assumption) ?rest72
  case hy72 => (intro w hSw; (try dsimp only at hSw); have ecxb_0 := hSw.cell cxb_0 id; have ecxb_1 := hSw.cell cxb_1 id; have ecxb_2 := hSw.cell cxb_2 id; have ecxb_3 := hSw.cell cxb_3 id; have ecyb_0 := hSw.cell cyb_0 id; have ecyb_1 := hSw.cell cyb_1 id; have ecyb_2 := hSw.cell cyb_2 id; have ecyb_3 := hSw.cell cyb_3 id; have z1 := Z1.out; have z2 := Z2.out; go_simp <;> with_reducible rfl)
  try simp only [Act.put, List.setIfInBounds_toArray, List.set_cons_zero, List.set_cons_succ]
  refine wpAnyH_ready (rs := [4, 7]) (by kernel_rfl) (by simp) ?_
  refine AllReadyH.cons (o := { dst := some 27, op := Go.Op.convert 23 9 (Go.Operand.tmp 26), type := 9, pos := "more.go:15", after := #[{ on := 3, ground := Go.Ground.data }, { on := 1, ground := Go.Ground.guard }], guard := some (1, true) }) rfl (fun K hK => ?_) ?_
  ·
    have hcv := ((OB.keep HO3.out ((HX_w6.out.trans HX_w10.out).trans HX_w12.out) (fun _ _ _ _ => id))).rb.str (Pr := Try.prog) 23 9 5 Try.underlying23 Try.underlying5 Try.underlying9
    go_simp
    clear hcv
    have hx : Ex (fun _ => False) w12 w12 := Ex.refl _ _
    clear hx
    have hS : Ex (fun _ => False) wb w12 := ((((HX_wd.out.trans HX_w3.out).trans HX_w6.out).trans HX_w10.out).trans HX_w12.out)
    refine hK.out _ _ hS (fun _ => ?_)
    refine wpAnyH_ready (rs := [7]) (by kernel_rfl) (by simp) ?_
    refine AllReadyH.cons (o := { dst := some 30, op := Go.Op.convert 23 9 (Go.Operand.tmp 29), type := 9, pos := "more.go:15", after := #[{ on := 6, ground := Go.Ground.data }, { on := 1, ground := Go.Ground.guard }], guard := some (1, true) }) rfl (fun K hK => ?_) AllReadyH.nil
    have hcv := ((OB.keep HO6.out (HX_w10.out.trans HX_w12.out) (fun _ _ _ _ => id))).rb.str (Pr := Try.prog) 23 9 5 Try.underlying23 Try.underlying5 Try.underlying9
    go_simp
    clear hcv
    have hx : Ex (fun _ => False) w12 w12 := Ex.refl _ _
    clear hx
    have hS : Ex (fun _ => False) wb w12 := ((((HX_wd.out.trans HX_w3.out).trans HX_w6.out).trans HX_w10.out).trans HX_w12.out)
    refine hK.out _ _ hS (fun _ => ?_)
    refine wpAnyH_take (i := 8) (oi := { dst := some 31, op := Go.Op.binOp Go.BinOp.eql 9 (Go.Operand.tmp 27) (Go.Operand.tmp 30) 9, type := 4, pos := "more.go:15", after := #[{ on := 4, ground := Go.Ground.data }, { on := 7, ground := Go.Ground.data }, { on := 1, ground := Go.Ground.guard }], guard := some (1, true) }) (v := ?v73) rfl (by kernel_rfl) (by kernel_rfl) (by kernel_rfl) (fun _ _ _ h => h) (Or.inl ⟨by rfl, ?hy73⟩) (by assumption) ?rest73
    case hy73 => (intro w hSw; (try dsimp only at hSw); have ecxb_0 := hSw.cell cxb_0 id; have ecxb_1 := hSw.cell cxb_1 id; have ecxb_2 := hSw.cell cxb_2 id; have ecxb_3 := hSw.cell cxb_3 id; have ecyb_0 := hSw.cell cyb_0 id; have ecyb_1 := hSw.cell cyb_1 id; have ecyb_2 := hSw.cell cyb_2 id; have ecyb_3 := hSw.cell cyb_3 id; have z1 := Z1.out; have z2 := Z2.out; go_simp <;> with_reducible rfl)
    try simp only [Act.put, List.setIfInBounds_toArray, List.set_cons_zero, List.set_cons_succ]
    refine wpAnyH_take (i := 14) (oi := { dst := some 37, op := Go.Op.binOp Go.BinOp.eql 4 (Go.Operand.tmp 31) (Go.Operand.tmp 36) 4, type := 4, pos := "more.go:15", after := #[{ on := 8, ground := Go.Ground.data }, { on := 13, ground := Go.Ground.data }, { on := 1, ground := Go.Ground.guard }], guard := some (1, true) }) (v := ?v74) rfl (by kernel_rfl) (by kernel_rfl) (by kernel_rfl) (fun _ _ _ h => h) (Or.inl ⟨by rfl, ?hy74⟩) (by assumption) ?rest74
    case hy74 => (intro w hSw; (try dsimp only at hSw); have ecxb_0 := hSw.cell cxb_0 id; have ecxb_1 := hSw.cell cxb_1 id; have ecxb_2 := hSw.cell cxb_2 id; have ecxb_3 := hSw.cell cxb_3 id; have ecyb_0 := hSw.cell cyb_0 id; have ecyb_1 := hSw.cell cyb_1 id; have ecyb_2 := hSw.cell cyb_2 id; have ecyb_3 := hSw.cell cyb_3 id; have z1 := Z1.out; have z2 := Z2.out; go_simp <;> with_reducible rfl)
    try simp only [Act.put, List.setIfInBounds_toArray, List.set_cons_zero, List.set_cons_succ]
    refine wpAnyH_take (i := 15) (oi := { dst := some 38, op := Go.Op.pick (Go.Operand.tmp 24) (Go.Operand.tmp 37) (Go.Operand.const (Go.Value.bool false)), type := 4, pos := "more.go:15", after := #[{ on := 1, ground := Go.Ground.data }, { on := 14, ground := Go.Ground.data }], guard := none }) (v := ?v75) rfl (by kernel_rfl) (by kernel_rfl) (by kernel_rfl) (fun _ _ _ h => h) (Or.inl ⟨by rfl, ?hy75⟩) (by assumption) ?rest75
    case hy75 => (intro w hSw; (try dsimp only at hSw); have ecxb_0 := hSw.cell cxb_0 id; have ecxb_1 := hSw.cell cxb_1 id; have ecxb_2 := hSw.cell cxb_2 id; have ecxb_3 := hSw.cell cxb_3 id; have ecyb_0 := hSw.cell cyb_0 id; have ecyb_1 := hSw.cell cyb_1 id; have ecyb_2 := hSw.cell cyb_2 id; have ecyb_3 := hSw.cell cyb_3 id; have z1 := Z1.out; have z2 := Z2.out; go_simp <;> with_reducible rfl)
    try simp only [Act.put, List.setIfInBounds_toArray, List.set_cons_zero, List.set_cons_succ]
    refine wpAnyH_take (i := 16) (oi := { dst := some 4, op := Go.Op.assign (Go.Operand.tmp 38), type := 4, pos := "more.go:15", after := #[{ on := 15, ground := Go.Ground.data }, { on := 12, ground := Go.Ground.chain }, { on := 0, ground := Go.Ground.phase }, { on := 1, ground := Go.Ground.phase }, { on := 2, ground := Go.Ground.phase }, { on := 3, ground := Go.Ground.phase }, { on := 4, ground := Go.Ground.phase }, { on := 5, ground := Go.Ground.phase }, { on := 6, ground := Go.Ground.phase }, { on := 7, ground := Go.Ground.phase }, { on := 8, ground := Go.Ground.phase }, { on := 9, ground := Go.Ground.phase }, { on := 10, ground := Go.Ground.phase }, { on := 11, ground := Go.Ground.phase }, { on := 12, ground := Go.Ground.phase }, { on := 13, ground := Go.Ground.phase }, { on := 14, ground := Go.Ground.phase }, { on := 15, ground := Go.Ground.phase }], guard := none }) (v := ?v76) rfl (by kernel_rfl) (by kernel_rfl) (by kernel_rfl) (fun _ _ _ h => h) (Or.inl ⟨by rfl, ?hy76⟩) (by assumption) ?rest76
    case hy76 => (intro w hSw; (try dsimp only at hSw); have ecxb_0 := hSw.cell cxb_0 id; have ecxb_1 := hSw.cell cxb_1 id; have ecxb_2 := hSw.cell cxb_2 id; have ecxb_3 := hSw.cell cxb_3 id; have ecyb_0 := hSw.cell cyb_0 id; have ecyb_1 := hSw.cell cyb_1 id; have ecyb_2 := hSw.cell cyb_2 id; have ecyb_3 := hSw.cell cyb_3 id; have z1 := Z1.out; have z2 := Z2.out; go_simp <;> with_reducible rfl)
    try simp only [Act.put, List.setIfInBounds_toArray, List.set_cons_zero, List.set_cons_succ]
    refine wpAnyH_done (by kernel_rfl) ?_ _
    have HXE := Lib.hid (((((HX_wd.out.trans HX_w3.out).trans HX_w6.out).trans HX_w10.out).trans HX_w12.out))
    go_wp2_with fail
    go_ret
    exact ⟨rfl, HXB.out.trans HXE.out⟩
  refine AllReadyH.cons (o := { dst := some 30, op := Go.Op.convert 23 9 (Go.Operand.tmp 29), type := 9, pos := "more.go:15", after := #[{ on := 6, ground := Go.Ground.data }, { on := 1, ground := Go.Ground.guard }], guard := some (1, true) }) rfl (fun K hK => ?_) AllReadyH.nil
  have hcv := ((OB.keep HO6.out (HX_w10.out.trans HX_w12.out) (fun _ _ _ _ => id))).rb.str (Pr := Try.prog) 23 9 5 Try.underlying23 Try.underlying5 Try.underlying9
  go_simp
  clear hcv
  have hx : Ex (fun _ => False) w12 w12 := Ex.refl _ _
  clear hx
  have hS : Ex (fun _ => False) wb w12 := ((((HX_wd.out.trans HX_w3.out).trans HX_w6.out).trans HX_w10.out).trans HX_w12.out)
  refine hK.out _ _ hS (fun _ => ?_)
  refine wpAnyH_ready (rs := [4]) (by kernel_rfl) (by simp) ?_
  refine AllReadyH.cons (o := { dst := some 27, op := Go.Op.convert 23 9 (Go.Operand.tmp 26), type := 9, pos := "more.go:15", after := #[{ on := 3, ground := Go.Ground.data }, { on := 1, ground := Go.Ground.guard }], guard := some (1, true) }) rfl (fun K hK => ?_) AllReadyH.nil
  have hcv := ((OB.keep HO3.out ((HX_w6.out.trans HX_w10.out).trans HX_w12.out) (fun _ _ _ _ => id))).rb.str (Pr := Try.prog) 23 9 5 Try.underlying23 Try.underlying5 Try.underlying9
  go_simp
  clear hcv
  have hx : Ex (fun _ => False) w12 w12 := Ex.refl _ _
  clear hx
  have hS : Ex (fun _ => False) wb w12 := ((((HX_wd.out.trans HX_w3.out).trans HX_w6.out).trans HX_w10.out).trans HX_w12.out)
  refine hK.out _ _ hS (fun _ => ?_)
  refine wpAnyH_take (i := 8) (oi := { dst := some 31, op := Go.Op.binOp Go.BinOp.eql 9 (Go.Operand.tmp 27) (Go.Operand.tmp 30) 9, type := 4, pos := "more.go:15", after := #[{ on := 4, ground := Go.Ground.data }, { on := 7, ground := Go.Ground.data }, { on := 1, ground := Go.Ground.guard }], guard := some (1, true) }) (v := ?v77) rfl (by kernel_rfl) (by kernel_rfl) (by kernel_rfl) (fun _ _ _ h => h) (Or.inl ⟨by rfl, ?hy77⟩) (by assumption) ?rest77
  case hy77 => (intro w hSw; (try dsimp only at hSw); have ecxb_0 := hSw.cell cxb_0 id; have ecxb_1 := hSw.cell cxb_1 id; have ecxb_2 := hSw.cell cxb_2 id; have ecxb_3 := hSw.cell cxb_3 id; have ecyb_0 := hSw.cell cyb_0 id; have ecyb_1 := hSw.cell cyb_1 id; have ecyb_2 := hSw.cell cyb_2 id; have ecyb_3 := hSw.cell cyb_3 id; have z1 := Z1.out; have z2 := Z2.out; go_simp <;> with_reducible rfl)
  try simp only [Act.put, List.setIfInBounds_toArray, List.set_cons_zero, List.set_cons_succ]
  refine wpAnyH_take (i := 14) (oi := { dst := some 37, op := Go.Op.binOp Go.BinOp.eql 4 (Go.Operand.tmp 31) (Go.Operand.tmp 36) 4, type := 4, pos := "more.go:15", after := #[{ on := 8, ground := Go.Ground.data }, { on := 13, ground := Go.Ground.data }, { on := 1, ground := Go.Ground.guard }], guard := some (1, true) }) (v := ?v78) rfl (by kernel_rfl) (by kernel_rfl) (by kernel_rfl) (fun _ _ _ h => h) (Or.inl ⟨by rfl, ?hy78⟩) (by assumption) ?rest78
  case hy78 => (intro w hSw; (try dsimp only at hSw); have ecxb_0 := hSw.cell cxb_0 id; have ecxb_1 := hSw.cell cxb_1 id; have ecxb_2 := hSw.cell cxb_2 id; have ecxb_3 := hSw.cell cxb_3 id; have ecyb_0 := hSw.cell cyb_0 id; have ecyb_1 := hSw.cell cyb_1 id; have ecyb_2 := hSw.cell cyb_2 id; have ecyb_3 := hSw.cell cyb_3 id; have z1 := Z1.out; have z2 := Z2.out; go_simp <;> with_reducible rfl)
  try simp only [Act.put, List.setIfInBounds_toArray, List.set_cons_zero, List.set_cons_succ]
  refine wpAnyH_take (i := 15) (oi := { dst := some 38, op := Go.Op.pick (Go.Operand.tmp 24) (Go.Operand.tmp 37) (Go.Operand.const (Go.Value.bool false)), type := 4, pos := "more.go:15", after := #[{ on := 1, ground := Go.Ground.data }, { on := 14, ground := Go.Ground.data }], guard := none }) (v := ?v79) rfl (by kernel_rfl) (by kernel_rfl) (by kernel_rfl) (fun _ _ _ h => h) (Or.inl ⟨by rfl, ?hy79⟩) (by assumption) ?rest79
  case hy79 => (intro w hSw; (try dsimp only at hSw); have ecxb_0 := hSw.cell cxb_0 id; have ecxb_1 := hSw.cell cxb_1 id; have ecxb_2 := hSw.cell cxb_2 id; have ecxb_3 := hSw.cell cxb_3 id; have ecyb_0 := hSw.cell cyb_0 id; have ecyb_1 := hSw.cell cyb_1 id; have ecyb_2 := hSw.cell cyb_2 id; have ecyb_3 := hSw.cell cyb_3 id; have z1 := Z1.out; have z2 := Z2.out; go_simp <;> with_reducible rfl)
  try simp only [Act.put, List.setIfInBounds_toArray, List.set_cons_zero, List.set_cons_succ]
  refine wpAnyH_take (i := 16) (oi := { dst := some 4, op := Go.Op.assign (Go.Operand.tmp 38), type := 4, pos := "more.go:15", after := #[{ on := 15, ground := Go.Ground.data }, { on := 12, ground := Go.Ground.chain }, { on := 0, ground := Go.Ground.phase }, { on := 1, ground := Go.Ground.phase }, { on := 2, ground := Go.Ground.phase }, { on := 3, ground := Go.Ground.phase }, { on := 4, ground := Go.Ground.phase }, { on := 5, ground := Go.Ground.phase }, { on := 6, ground := Go.Ground.phase }, { on := 7, ground := Go.Ground.phase }, { on := 8, ground := Go.Ground.phase }, { on := 9, ground := Go.Ground.phase }, { on := 10, ground := Go.Ground.phase }, { on := 11, ground := Go.Ground.phase }, { on := 12, ground := Go.Ground.phase }, { on := 13, ground := Go.Ground.phase }, { on := 14, ground := Go.Ground.phase }, { on := 15, ground := Go.Ground.phase }], guard := none }) (v := ?v80) rfl (by kernel_rfl) (by kernel_rfl) (by kernel_rfl) (fun _ _ _ h => h) (Or.inl ⟨by rfl, ?hy80⟩) (by assumption) ?rest80
  case hy80 => (intro w hSw; (try dsimp only at hSw); have ecxb_0 := hSw.cell cxb_0 id; have ecxb_1 := hSw.cell cxb_1 id; have ecxb_2 := hSw.cell cxb_2 id; have ecxb_3 := hSw.cell cxb_3 id; have ecyb_0 := hSw.cell cyb_0 id; have ecyb_1 := hSw.cell cyb_1 id; have ecyb_2 := hSw.cell cyb_2 id; have ecyb_3 := hSw.cell cyb_3 id; have z1 := Z1.out; have z2 := Z2.out; go_simp <;> with_reducible rfl)
  try simp only [Act.put, List.setIfInBounds_toArray, List.set_cons_zero, List.set_cons_succ]
  refine wpAnyH_done (by kernel_rfl) ?_ _
  have HXE := Lib.hid (((((HX_wd.out.trans HX_w3.out).trans HX_w6.out).trans HX_w10.out).trans HX_w12.out))
  go_wp2_with fail
  go_ret
  exact ⟨rfl, HXB.out.trans HXE.out⟩
end Go.Proofs.Ytbmjkcocnmfpaaa
