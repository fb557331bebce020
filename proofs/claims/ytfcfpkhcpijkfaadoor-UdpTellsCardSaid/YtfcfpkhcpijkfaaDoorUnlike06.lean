/-
  The walk of UdpUnlike. By an AI agent.
-/
import Derived.Test.YtfcfpkhcpijkfaaDoorShown06
import Derived.Test.YtfcfpkhcpijkfaaDoorStr
namespace Go.Proofs.YtfcfpkhcpijkfaaDoor
open Go.RowKit

theorem ud_cut (b : List UInt8) : ∃ l1 : List UInt8, (if 3000 < (b.length : Int) then (3000 : Int) else (b.length : Int)) = (l1.length : Int) ∧ l1.length ≤ b.length ∧ l1.length ≤ 3000 ∧ l1 = b.take 3000 := by
  refine ⟨b.take 3000, ?_, by simp; omega, by simp; omega, rfl⟩
  rw [List.length_take]; split <;> omega
set_option maxRecDepth 100000 in
set_option maxHeartbeats 16000000 in
theorem unlike06_any (m n : Dg) (Ax Ay : Option Addr) (cx cy : Nat) (s t : Int) (w : World) (okm : m.ok) (okn : n.ok) (hm : RB w (fun _ => True) (.slice Ax m.b.length cx) m.b) (hn : RB w (fun _ => True) (.slice Ay n.b.length cy) n.b) (hs : 0 ≤ s ∧ s < 4294967296) (ht : 0 ≤ t ∧ t < 4294967296) (hg : ET w) :
    Calls Tryd.prog 5 #[dgv m (.slice Ax m.b.length cx), dgv n (.slice Ay n.b.length cy), .int .u32 s, .int .u32 t] w fun e w' => e = .returned (.bool true) ∧ Ex (fun _ => False) w w' := by
  obtain ⟨xsrc, xdst, xpl, xb⟩ := m
  obtain ⟨ysrc, ydst, ypl, yb⟩ := n
  simp only at hm hn
  have hmc : xb.length ≤ cx := by obtain ⟨_, _, _, e, h, _⟩ := hm; injection e with _ _ e3; rw [e3]; exact h
  have hnc : yb.length ≤ cy := by obtain ⟨_, _, _, e, h, _⟩ := hn; injection e with _ _ e3; rw [e3]; exact h
  obtain ⟨xl, hk, hk1, hk2, hxl⟩ := ud_cut xb
  obtain ⟨yl, gk, gk1, gk2, hyl⟩ := ud_cut yb
  have hki : (xl.length : Int) ≤ (xb.length : Int) := by omega
  have gki : (yl.length : Int) ≤ (yb.length : Int) := by omega
  have hkc : xl.length ≤ cx := by omega
  have gkc : yl.length ≤ cy := by omega
  have hm1 := hm.take 3000
  have hn1 := hn.take 3000
  rw [← hxl] at hm1
  rw [← hyl] at hn1
  have okx : (⟨xsrc, xdst, xpl, xl⟩ : Dg).ok := okm
  have oky : (⟨ysrc, ydst, ypl, yl⟩ : Dg).ok := okn
  have HM := Lib.hid hm1
  have HN := Lib.hid hn1
  have OKX := Lib.hid okx
  have OKY := Lib.hid oky
  have HS := Lib.hid hs
  have HT := Lib.hid ht
  have HG := Lib.hid hg
  have hin := db_inj okx oky s t (by show xl.length ≤ _; omega) (by show yl.length ≤ _; omega)
  have HIN := Lib.hid hin
  clear hm hn hm1 hn1 okm okn okx oky hxl hyl hmc hnc hin hs ht hg
  show Calls Tryd.prog 5 #[.agg #[.int .u16 xsrc, .int .u16 xdst, .bool xpl, .slice Ax xb.length cx], .agg #[.int .u16 ysrc, .int .u16 ydst, .bool ypl, .slice Ay yb.length cy], .int .u32 s, .int .u32 t] w _
  go_enter Tryd.func5, Tryd.ntmps5
  go_upto_region 1 with fail
  have hx : Ex (fun _ => False) w (w.alloc (.cells #[.int .u16 xsrc, .int .u16 xdst, .bool xpl, .slice Ax xb.length cx] 25)) := (Ex.refl _ w).alloc _
  have hb : (w.alloc (.cells #[.int .u16 xsrc, .int .u16 xdst, .bool xpl, .slice Ax xb.length cx] 25)).heap[w.heap.size]? = some (.cells #[.int .u16 xsrc, .int .u16 xdst, .bool xpl, .slice Ax xb.length cx] 25) := heap_alloc_new w _
  have hs1 : (w.alloc (.cells #[.int .u16 xsrc, .int .u16 xdst, .bool xpl, .slice Ax xb.length cx] 25)).heap.size = w.heap.size + 1 := by simp
  obtain ⟨xb_, hxb_⟩ : ∃ xb_, xb_ = w.heap.size := ⟨_, rfl⟩
  have hb_xb_ : w.heap.size ≤ xb_ := by omega
  rw [← hxb_] at hb hs1 
  try simp only [← hxb_]
  generalize w.alloc (.cells #[.int .u16 xsrc, .int .u16 xdst, .bool xpl, .slice Ax xb.length cx] 25) = w1 at hx hb  hs1 ⊢
  try simp only [← hs1]
  clear hs1
  clear hxb_
  have HX_w1 := Lib.hid hx
  clear hx
  have B_xb_ := Lib.hid hb
  clear hb
  have hx : Ex (fun _ => False) w1 (w1.alloc (.cells #[.int .u16 ysrc, .int .u16 ydst, .bool ypl, .slice Ay yb.length cy] 25)) := (Ex.refl _ w1).alloc _
  have hb : (w1.alloc (.cells #[.int .u16 ysrc, .int .u16 ydst, .bool ypl, .slice Ay yb.length cy] 25)).heap[w1.heap.size]? = some (.cells #[.int .u16 ysrc, .int .u16 ydst, .bool ypl, .slice Ay yb.length cy] 25) := heap_alloc_new w1 _
  obtain ⟨yb_, hyb_⟩ : ∃ yb_, yb_ = w1.heap.size := ⟨_, rfl⟩
  have hb_yb_ : w1.heap.size ≤ yb_ := by omega
  rw [← hyb_] at hb
  try simp only [← hyb_]
  generalize w1.alloc (.cells #[.int .u16 ysrc, .int .u16 ydst, .bool ypl, .slice Ay yb.length cy] 25) = w2 at hx hb ⊢
  clear hyb_
  have HX_w2 := Lib.hid hx
  clear hx
  have B_yb_ := Lib.hid hb
  clear hb
  have hx2 := row_lt B_xb_.out
  have ne_xb__yb_ : xb_ ≠ yb_ := by omega
  go_wp2_with fail
  refine (shown6_any w2 (HG.out.keep (HX_w1.out.trans HX_w2.out) id)).mono ?_
  rintro e w3 ⟨rfl, hx⟩
  have HX_w3 := Lib.hid hx
  clear hx
  have cxb_3 := row_cell (k := 3) (v := .slice Ax xb.length cx) (((HX_w2.out.trans HX_w3.out).block xb_ (row_lt B_xb_.out) id).trans B_xb_.out) rfl
  have fxb_3 := row_frozen (((HX_w2.out.trans HX_w3.out).block xb_ (row_lt B_xb_.out) id).trans B_xb_.out) 3
  go_upto_region 3 with fail
  replace B_xb_ := Lib.hid (((HX_w2.out.trans HX_w3.out).block xb_ (row_lt B_xb_.out) id).trans B_xb_.out)
  have hb : (w3.setCell ⟨xb_, 3, none⟩ (.slice Ax xl.length cx)).heap[xb_]? = some (.cells #[.int .u16 xsrc, .int .u16 xdst, .bool xpl, .slice Ax xl.length cx] 25) := (row_set B_xb_.out 3 (.slice Ax xl.length cx))
  have hx : Ex (fun j => j = xb_) w3 (w3.setCell ⟨xb_, 3, none⟩ (.slice Ax xl.length cx)) := ((Ex.refl (fun j => j = xb_) w3).setCell (p := ⟨xb_, 3, none⟩) (.inl rfl) (.slice Ax xl.length cx))
  clear cxb_3 fxb_3 hk
  generalize (w3.setCell ⟨xb_, 3, none⟩ (.slice Ax xl.length cx)) = w4 at hx hb ⊢
  clear B_xb_
  have HX_w4 := Lib.hid hx
  clear hx
  have B_xb_ := Lib.hid hb
  clear hb
  replace B_yb_ := Lib.hid ((HX_w4.out.block yb_ (row_lt ((HX_w3.out.block yb_ (row_lt B_yb_.out) id).trans B_yb_.out)) ne_xb__yb_.symm).trans ((HX_w3.out.block yb_ (row_lt B_yb_.out) id).trans B_yb_.out))
  have cyb_3 := row_cell (k := 3) (v := .slice Ay yb.length cy) B_yb_.out rfl
  have fyb_3 := row_frozen B_yb_.out 3
  go_upto_region 4 with fail
  have hb : (w4.setCell ⟨yb_, 3, none⟩ (.slice Ay yl.length cy)).heap[yb_]? = some (.cells #[.int .u16 ysrc, .int .u16 ydst, .bool ypl, .slice Ay yl.length cy] 25) := (row_set B_yb_.out 3 (.slice Ay yl.length cy))
  have hx : Ex (fun j => j = yb_) w4 (w4.setCell ⟨yb_, 3, none⟩ (.slice Ay yl.length cy)) := ((Ex.refl (fun j => j = yb_) w4).setCell (p := ⟨yb_, 3, none⟩) (.inl rfl) (.slice Ay yl.length cy))
  clear cyb_3 fyb_3 gk
  generalize (w4.setCell ⟨yb_, 3, none⟩ (.slice Ay yl.length cy)) = w5 at hx hb ⊢
  clear B_yb_
  have HX_w5 := Lib.hid hx
  clear hx
  have B_yb_ := Lib.hid hb
  clear hb
  clear hki gki hkc gkc hk1 gk1
  replace B_xb_ := Lib.hid ((HX_w5.out.block xb_ (row_lt B_xb_.out) ne_xb__yb_).trans B_xb_.out)
  have cxb_0 := row_cell (k := 0) (v := .int .u16 xsrc) B_xb_.out rfl
  have cxb_1 := row_cell (k := 1) (v := .int .u16 xdst) B_xb_.out rfl
  have cxb_2 := row_cell (k := 2) (v := .bool xpl) B_xb_.out rfl
  have cxb_3 := row_cell (k := 3) (v := .slice Ax xl.length cx) B_xb_.out rfl
  go_wp2_with fail
  refine (dBytes_ok _ (⟨xsrc, xdst, xpl, xl⟩ : Dg) s t Ax cx _ OKX.out HS.out HT.out (RB.keep HM.out ((((HX_w1.out.trans HX_w2.out).trans HX_w3.out).andThen HX_w4.out (fun i hi e => by have := hb_xb_; omega)).andThen HX_w5.out (fun i hi e => by have := HX_w1.out.size; have := hb_yb_; omega)) (fun _ _ _ => id)) (by show xl.length ≤ _; omega)).mono ?_
  rintro e w6 ⟨A6, c6, rfl, ho, hx⟩
  have ho' : OB w6 w5.heap.size (.slice (some A6) (8 + xl.length) c6) (db (⟨xsrc, xdst, xpl, xl⟩ : Dg) s t) := ho
  have e8 : 8 + (⟨xsrc, xdst, xpl, xl⟩ : Dg).b.length = 8 + xl.length := rfl
  rw [e8]
  clear e8 ho cxb_0 cxb_1 cxb_2 cxb_3
  have HX_w6 := Lib.hid hx
  clear hx
  have HO6 := Lib.hid ho'
  clear ho'
  replace B_yb_ := Lib.hid ((HX_w6.out.block yb_ (row_lt B_yb_.out) id).trans B_yb_.out)
  have cyb_0 := row_cell (k := 0) (v := .int .u16 ysrc) B_yb_.out rfl
  have cyb_1 := row_cell (k := 1) (v := .int .u16 ydst) B_yb_.out rfl
  have cyb_2 := row_cell (k := 2) (v := .bool ypl) B_yb_.out rfl
  have cyb_3 := row_cell (k := 3) (v := .slice Ay yl.length cy) B_yb_.out rfl
  go_wp2_with fail
  refine (dBytes_ok _ (⟨ysrc, ydst, ypl, yl⟩ : Dg) s t Ay cy _ OKY.out HS.out HT.out (RB.keep HN.out (((((HX_w1.out.trans HX_w2.out).trans HX_w3.out).andThen HX_w4.out (fun i hi e => by have := hb_xb_; omega)).andThen HX_w5.out (fun i hi e => by have := HX_w1.out.size; have := hb_yb_; omega)).trans HX_w6.out) (fun _ _ _ => id)) (by show yl.length ≤ _; omega)).mono ?_
  rintro e w7 ⟨A7, c7, rfl, ho, hx⟩
  have ho' : OB w7 w6.heap.size (.slice (some A7) (8 + yl.length) c7) (db (⟨ysrc, ydst, ypl, yl⟩ : Dg) s t) := ho
  have e8 : 8 + (⟨ysrc, ydst, ypl, yl⟩ : Dg).b.length = 8 + yl.length := rfl
  rw [e8]
  clear e8 ho cyb_0 cyb_1 cyb_2 cyb_3
  have HX_w7 := Lib.hid hx
  clear hx
  have HO7 := Lib.hid ho'
  clear ho'
  go_upto_region 6 with fail
  replace HO6 := Lib.hid (OB.keep HO6.out HX_w7.out (fun _ _ _ _ => id))
  replace B_xb_ := Lib.hid (((HX_w6.out.trans HX_w7.out).block xb_ (row_lt B_xb_.out) id).trans B_xb_.out)
  replace B_yb_ := Lib.hid ((HX_w7.out.block yb_ (row_lt B_yb_.out) id).trans B_yb_.out)
  replace HM := Lib.hid (RB.keep HM.out ((((((HX_w1.out.trans HX_w2.out).trans HX_w3.out).andThen HX_w4.out (fun i hi e => by have := hb_xb_; omega)).andThen HX_w5.out (fun i hi e => by have := HX_w1.out.size; have := hb_yb_; omega)).trans HX_w6.out).trans HX_w7.out) (fun _ _ _ => id))
  replace HN := Lib.hid (RB.keep HN.out ((((((HX_w1.out.trans HX_w2.out).trans HX_w3.out).andThen HX_w4.out (fun i hi e => by have := hb_xb_; omega)).andThen HX_w5.out (fun i hi e => by have := HX_w1.out.size; have := hb_yb_; omega)).trans HX_w6.out).trans HX_w7.out) (fun _ _ _ => id))
  have cxb_0 := row_cell (k := 0) (v := .int .u16 xsrc) B_xb_.out rfl
  have cxb_1 := row_cell (k := 1) (v := .int .u16 xdst) B_xb_.out rfl
  have cxb_2 := row_cell (k := 2) (v := .bool xpl) B_xb_.out rfl
  have cxb_3 := row_cell (k := 3) (v := .slice Ax xl.length cx) B_xb_.out rfl
  have cyb_0 := row_cell (k := 0) (v := .int .u16 ysrc) B_yb_.out rfl
  have cyb_1 := row_cell (k := 1) (v := .int .u16 ydst) B_yb_.out rfl
  have cyb_2 := row_cell (k := 2) (v := .bool ypl) B_yb_.out rfl
  have cyb_3 := row_cell (k := 3) (v := .slice Ay yl.length cy) B_yb_.out rfl
  obtain ⟨bb, hbb⟩ : ∃ b, Dg.eqB (⟨xsrc, xdst, xpl, xl⟩ : Dg) (⟨ysrc, ydst, ypl, yl⟩ : Dg) = b := ⟨_, rfl⟩
  have hs : ((bs (db (⟨xsrc, xdst, xpl, xl⟩ : Dg) s t)).toList == (bs (db (⟨ysrc, ydst, ypl, yl⟩ : Dg) s t)).toList) = bb := by
    rw [str_beq, ← hbb]
    by_cases h : (⟨xsrc, xdst, xpl, xl⟩ : Dg) = (⟨ysrc, ydst, ypl, yl⟩ : Dg)
    · rw [(Dg.eqB_iff _ _).2 h, decide_eq_true_eq]; exact HIN.out.2 h
    · have e : Dg.eqB (⟨xsrc, xdst, xpl, xl⟩ : Dg) (⟨ysrc, ydst, ypl, yl⟩ : Dg) = false := by rw [Bool.eq_false_iff]; exact fun h' => h ((Dg.eqB_iff _ _).1 h')
      rw [e, decide_eq_false_iff_not]; exact fun h' => h (HIN.out.1 h')
  obtain ⟨M1, hM1⟩ : ∃ M1, M1 = db (⟨xsrc, xdst, xpl, xl⟩ : Dg) s t := ⟨_, rfl⟩
  obtain ⟨M2, hM2⟩ : ∃ M2, M2 = db (⟨ysrc, ydst, ypl, yl⟩ : Dg) s t := ⟨_, rfl⟩
  rw [← hM1] at HO6 hs
  rw [← hM2] at HO7 hs
  have z1 : ∀ w, (binOp .eql 34 (rdv (⟨xsrc, xdst, xpl, xl⟩ : Dg)) (rdv (⟨ysrc, ydst, ypl, yl⟩ : Dg))).run Tryd.prog w = .ok (.bool bb) w := fun w => by rw [rdv_eq, hbb]
  have z2 : ∀ w, (eqGuard .eql 34 (.tmp 61) (.tmp 63) (rdv (⟨xsrc, xdst, xpl, xl⟩ : Dg)) (rdv (⟨ysrc, ydst, ypl, yl⟩ : Dg))).run Tryd.prog w = .ok () w := fun w => rdv_guard .eql (.tmp 61) (.tmp 63) _ _ w
  have hb2 : (bb == bb) = true := by simp
  have Z1 := Lib.hid z1
  have Z2 := Lib.hid z2
  have hS0 : Ex (fun _ => False) w7 w7.drew := (Ex.refl _ w7).drew
  clear z1 z2 hbb hM1 hM2
  refine wp_region_held_drew (S := fun W => Ex (fun _ => False) w7 W) (by kernel_rfl) hS0 (fun _ => ?_)
  refine wpAnyH_take (i := 0) (oi := { dst := some 45, op := Go.Op.move (Go.Operand.tmp 9), type := 4, pos := "more.go:15", after := #[], guard := none }) (v := ?v1) rfl (by kernel_rfl) (by kernel_rfl) (by kernel_rfl) (fun _ _ _ h => h) (Or.inl ⟨by rfl, ?hy1⟩) (by assumption) ?rest1
  case hy1 => (intro w hSw; (try dsimp only at hSw); have ecxb_0 := hSw.cell cxb_0 id; have ecxb_1 := hSw.cell cxb_1 id; have ecxb_2 := hSw.cell cxb_2 id; have ecxb_3 := hSw.cell cxb_3 id; have ecyb_0 := hSw.cell cyb_0 id; have ecyb_1 := hSw.cell cyb_1 id; have ecyb_2 := hSw.cell cyb_2 id; have ecyb_3 := hSw.cell cyb_3 id; have z1 := Z1.out; have z2 := Z2.out; go_simp <;> with_reducible rfl)
  try simp only [Act.put, List.setIfInBounds_toArray, List.set_cons_zero, List.set_cons_succ]
  refine wpAnyH_take (i := 1) (oi := { dst := some 46, op := Go.Op.move (Go.Operand.tmp 45), type := 4, pos := "more.go:15", after := #[{ on := 0, ground := Go.Ground.data }], guard := none }) (v := ?v2) rfl (by kernel_rfl) (by kernel_rfl) (by kernel_rfl) (fun _ _ _ h => h) (Or.inl ⟨by rfl, ?hy2⟩) (by assumption) ?rest2
  case hy2 => (intro w hSw; (try dsimp only at hSw); have ecxb_0 := hSw.cell cxb_0 id; have ecxb_1 := hSw.cell cxb_1 id; have ecxb_2 := hSw.cell cxb_2 id; have ecxb_3 := hSw.cell cxb_3 id; have ecyb_0 := hSw.cell cyb_0 id; have ecyb_1 := hSw.cell cyb_1 id; have ecyb_2 := hSw.cell cyb_2 id; have ecyb_3 := hSw.cell cyb_3 id; have z1 := Z1.out; have z2 := Z2.out; go_simp <;> with_reducible rfl)
  try simp only [Act.put, List.setIfInBounds_toArray, List.set_cons_zero, List.set_cons_succ]
  refine wpAnyH_take (i := 2) (oi := { dst := some 47, op := Go.Op.move (Go.Operand.tmp 11), type := 29, pos := "more.go:15", after := #[{ on := 1, ground := Go.Ground.guard }], guard := some (1, true) }) (v := ?v3) rfl (by kernel_rfl) (by kernel_rfl) (by kernel_rfl) (fun _ _ _ h => h) (Or.inl ⟨by rfl, ?hy3⟩) (by assumption) ?rest3
  case hy3 => (intro w hSw; (try dsimp only at hSw); have ecxb_0 := hSw.cell cxb_0 id; have ecxb_1 := hSw.cell cxb_1 id; have ecxb_2 := hSw.cell cxb_2 id; have ecxb_3 := hSw.cell cxb_3 id; have ecyb_0 := hSw.cell cyb_0 id; have ecyb_1 := hSw.cell cyb_1 id; have ecyb_2 := hSw.cell cyb_2 id; have ecyb_3 := hSw.cell cyb_3 id; have z1 := Z1.out; have z2 := Z2.out; go_simp <;> with_reducible rfl)
  try simp only [Act.put, List.setIfInBounds_toArray, List.set_cons_zero, List.set_cons_succ]
  refine wpAnyH_take (i := 3) (oi := { dst := some 48, op := Go.Op.binOp Go.BinOp.eql 29 (Go.Operand.tmp 47) (Go.Operand.const Go.Value.nilIface) 29, type := 4, pos := "more.go:15", after := #[{ on := 2, ground := Go.Ground.data }, { on := 1, ground := Go.Ground.guard }], guard := some (1, true) }) (v := ?v4) rfl (by kernel_rfl) (by kernel_rfl) (by kernel_rfl) (fun _ _ _ h => h) (Or.inl ⟨by rfl, ?hy4⟩) (by assumption) ?rest4
  case hy4 => (intro w hSw; (try dsimp only at hSw); have ecxb_0 := hSw.cell cxb_0 id; have ecxb_1 := hSw.cell cxb_1 id; have ecxb_2 := hSw.cell cxb_2 id; have ecxb_3 := hSw.cell cxb_3 id; have ecyb_0 := hSw.cell cyb_0 id; have ecyb_1 := hSw.cell cyb_1 id; have ecyb_2 := hSw.cell cyb_2 id; have ecyb_3 := hSw.cell cyb_3 id; have z1 := Z1.out; have z2 := Z2.out; go_simp <;> with_reducible rfl)
  try simp only [Act.put, List.setIfInBounds_toArray, List.set_cons_zero, List.set_cons_succ]
  refine wpAnyH_take (i := 4) (oi := { dst := some 49, op := Go.Op.pick (Go.Operand.tmp 46) (Go.Operand.tmp 48) (Go.Operand.const (Go.Value.bool false)), type := 4, pos := "more.go:15", after := #[{ on := 1, ground := Go.Ground.data }, { on := 3, ground := Go.Ground.data }], guard := none }) (v := ?v5) rfl (by kernel_rfl) (by kernel_rfl) (by kernel_rfl) (fun _ _ _ h => h) (Or.inl ⟨by rfl, ?hy5⟩) (by assumption) ?rest5
  case hy5 => (intro w hSw; (try dsimp only at hSw); have ecxb_0 := hSw.cell cxb_0 id; have ecxb_1 := hSw.cell cxb_1 id; have ecxb_2 := hSw.cell cxb_2 id; have ecxb_3 := hSw.cell cxb_3 id; have ecyb_0 := hSw.cell cyb_0 id; have ecyb_1 := hSw.cell cyb_1 id; have ecyb_2 := hSw.cell cyb_2 id; have ecyb_3 := hSw.cell cyb_3 id; have z1 := Z1.out; have z2 := Z2.out; go_simp <;> with_reducible rfl)
  try simp only [Act.put, List.setIfInBounds_toArray, List.set_cons_zero, List.set_cons_succ]
  refine wpAnyH_take (i := 5) (oi := { dst := some 50, op := Go.Op.move (Go.Operand.tmp 49), type := 4, pos := "more.go:15", after := #[{ on := 4, ground := Go.Ground.data }, { on := 1, ground := Go.Ground.chain }], guard := none }) (v := ?v6) rfl (by kernel_rfl) (by kernel_rfl) (by kernel_rfl) (fun _ _ _ h => h) (Or.inl ⟨by rfl, ?hy6⟩) (by assumption) ?rest6
  case hy6 => (intro w hSw; (try dsimp only at hSw); have ecxb_0 := hSw.cell cxb_0 id; have ecxb_1 := hSw.cell cxb_1 id; have ecxb_2 := hSw.cell cxb_2 id; have ecxb_3 := hSw.cell cxb_3 id; have ecyb_0 := hSw.cell cyb_0 id; have ecyb_1 := hSw.cell cyb_1 id; have ecyb_2 := hSw.cell cyb_2 id; have ecyb_3 := hSw.cell cyb_3 id; have z1 := Z1.out; have z2 := Z2.out; go_simp <;> with_reducible rfl)
  try simp only [Act.put, List.setIfInBounds_toArray, List.set_cons_zero, List.set_cons_succ]
  refine wpAnyH_take (i := 6) (oi := { dst := some 51, op := Go.Op.move (Go.Operand.tmp 13), type := 29, pos := "more.go:15", after := #[{ on := 5, ground := Go.Ground.guard }], guard := some (5, true) }) (v := ?v7) rfl (by kernel_rfl) (by kernel_rfl) (by kernel_rfl) (fun _ _ _ h => h) (Or.inl ⟨by rfl, ?hy7⟩) (by assumption) ?rest7
  case hy7 => (intro w hSw; (try dsimp only at hSw); have ecxb_0 := hSw.cell cxb_0 id; have ecxb_1 := hSw.cell cxb_1 id; have ecxb_2 := hSw.cell cxb_2 id; have ecxb_3 := hSw.cell cxb_3 id; have ecyb_0 := hSw.cell cyb_0 id; have ecyb_1 := hSw.cell cyb_1 id; have ecyb_2 := hSw.cell cyb_2 id; have ecyb_3 := hSw.cell cyb_3 id; have z1 := Z1.out; have z2 := Z2.out; go_simp <;> with_reducible rfl)
  try simp only [Act.put, List.setIfInBounds_toArray, List.set_cons_zero, List.set_cons_succ]
  refine wpAnyH_take (i := 7) (oi := { dst := some 52, op := Go.Op.binOp Go.BinOp.eql 29 (Go.Operand.tmp 51) (Go.Operand.const Go.Value.nilIface) 29, type := 4, pos := "more.go:15", after := #[{ on := 6, ground := Go.Ground.data }, { on := 5, ground := Go.Ground.guard }], guard := some (5, true) }) (v := ?v8) rfl (by kernel_rfl) (by kernel_rfl) (by kernel_rfl) (fun _ _ _ h => h) (Or.inl ⟨by rfl, ?hy8⟩) (by assumption) ?rest8
  case hy8 => (intro w hSw; (try dsimp only at hSw); have ecxb_0 := hSw.cell cxb_0 id; have ecxb_1 := hSw.cell cxb_1 id; have ecxb_2 := hSw.cell cxb_2 id; have ecxb_3 := hSw.cell cxb_3 id; have ecyb_0 := hSw.cell cyb_0 id; have ecyb_1 := hSw.cell cyb_1 id; have ecyb_2 := hSw.cell cyb_2 id; have ecyb_3 := hSw.cell cyb_3 id; have z1 := Z1.out; have z2 := Z2.out; go_simp <;> with_reducible rfl)
  try simp only [Act.put, List.setIfInBounds_toArray, List.set_cons_zero, List.set_cons_succ]
  refine wpAnyH_take (i := 8) (oi := { dst := some 53, op := Go.Op.pick (Go.Operand.tmp 50) (Go.Operand.tmp 52) (Go.Operand.const (Go.Value.bool false)), type := 4, pos := "more.go:15", after := #[{ on := 5, ground := Go.Ground.data }, { on := 7, ground := Go.Ground.data }], guard := none }) (v := ?v9) rfl (by kernel_rfl) (by kernel_rfl) (by kernel_rfl) (fun _ _ _ h => h) (Or.inl ⟨by rfl, ?hy9⟩) (by assumption) ?rest9
  case hy9 => (intro w hSw; (try dsimp only at hSw); have ecxb_0 := hSw.cell cxb_0 id; have ecxb_1 := hSw.cell cxb_1 id; have ecxb_2 := hSw.cell cxb_2 id; have ecxb_3 := hSw.cell cxb_3 id; have ecyb_0 := hSw.cell cyb_0 id; have ecyb_1 := hSw.cell cyb_1 id; have ecyb_2 := hSw.cell cyb_2 id; have ecyb_3 := hSw.cell cyb_3 id; have z1 := Z1.out; have z2 := Z2.out; go_simp <;> with_reducible rfl)
  try simp only [Act.put, List.setIfInBounds_toArray, List.set_cons_zero, List.set_cons_succ]
  refine wpAnyH_take (i := 9) (oi := { dst := some 54, op := Go.Op.move (Go.Operand.tmp 53), type := 4, pos := "more.go:15", after := #[{ on := 8, ground := Go.Ground.data }, { on := 5, ground := Go.Ground.chain }], guard := none }) (v := ?v10) rfl (by kernel_rfl) (by kernel_rfl) (by kernel_rfl) (fun _ _ _ h => h) (Or.inl ⟨by rfl, ?hy10⟩) (by assumption) ?rest10
  case hy10 => (intro w hSw; (try dsimp only at hSw); have ecxb_0 := hSw.cell cxb_0 id; have ecxb_1 := hSw.cell cxb_1 id; have ecxb_2 := hSw.cell cxb_2 id; have ecxb_3 := hSw.cell cxb_3 id; have ecyb_0 := hSw.cell cyb_0 id; have ecyb_1 := hSw.cell cyb_1 id; have ecyb_2 := hSw.cell cyb_2 id; have ecyb_3 := hSw.cell cyb_3 id; have z1 := Z1.out; have z2 := Z2.out; go_simp <;> with_reducible rfl)
  try simp only [Act.put, List.setIfInBounds_toArray, List.set_cons_zero, List.set_cons_succ]
  refine wpAnyH_take (i := 10) (oi := { dst := some 55, op := Go.Op.move (Go.Operand.tmp 10), type := 22, pos := "more.go:15", after := #[{ on := 9, ground := Go.Ground.guard }], guard := some (9, true) }) (v := ?v11) rfl (by kernel_rfl) (by kernel_rfl) (by kernel_rfl) (fun _ _ _ h => h) (Or.inl ⟨by rfl, ?hy11⟩) (by assumption) ?rest11
  case hy11 => (intro w hSw; (try dsimp only at hSw); have ecxb_0 := hSw.cell cxb_0 id; have ecxb_1 := hSw.cell cxb_1 id; have ecxb_2 := hSw.cell cxb_2 id; have ecxb_3 := hSw.cell cxb_3 id; have ecyb_0 := hSw.cell cyb_0 id; have ecyb_1 := hSw.cell cyb_1 id; have ecyb_2 := hSw.cell cyb_2 id; have ecyb_3 := hSw.cell cyb_3 id; have z1 := Z1.out; have z2 := Z2.out; go_simp <;> with_reducible rfl)
  try simp only [Act.put, List.setIfInBounds_toArray, List.set_cons_zero, List.set_cons_succ]
  refine wpAnyH_take (i := 11) (oi := { dst := some 56, op := Go.Op.convert 22 9 (Go.Operand.tmp 55), type := 9, pos := "more.go:15", after := #[{ on := 10, ground := Go.Ground.data }, { on := 9, ground := Go.Ground.guard }], guard := some (9, true) }) (v := ?v12) rfl (by kernel_rfl) (by kernel_rfl) (by kernel_rfl) (fun _ _ _ h => h) (Or.inl ⟨by rfl, ?hy12⟩) (by assumption) ?rest12
  case hy12 => (intro w hSw; (try dsimp only at hSw); have ecxb_0 := hSw.cell cxb_0 id; have ecxb_1 := hSw.cell cxb_1 id; have ecxb_2 := hSw.cell cxb_2 id; have ecxb_3 := hSw.cell cxb_3 id; have ecyb_0 := hSw.cell cyb_0 id; have ecyb_1 := hSw.cell cyb_1 id; have ecyb_2 := hSw.cell cyb_2 id; have ecyb_3 := hSw.cell cyb_3 id; have z1 := Z1.out; have z2 := Z2.out; have eq := (OB.keep HO6.out hSw (fun _ _ _ _ => id)).rb.str (Pr := Tryd.prog) 22 9 5 Tryd.underlying22 Tryd.underlying5 Tryd.underlying9; go_simp <;> with_reducible rfl)
  try simp only [Act.put, List.setIfInBounds_toArray, List.set_cons_zero, List.set_cons_succ]
  refine wpAnyH_take (i := 12) (oi := { dst := some 57, op := Go.Op.move (Go.Operand.tmp 12), type := 22, pos := "more.go:15", after := #[{ on := 9, ground := Go.Ground.guard }], guard := some (9, true) }) (v := ?v13) rfl (by kernel_rfl) (by kernel_rfl) (by kernel_rfl) (fun _ _ _ h => h) (Or.inl ⟨by rfl, ?hy13⟩) (by assumption) ?rest13
  case hy13 => (intro w hSw; (try dsimp only at hSw); have ecxb_0 := hSw.cell cxb_0 id; have ecxb_1 := hSw.cell cxb_1 id; have ecxb_2 := hSw.cell cxb_2 id; have ecxb_3 := hSw.cell cxb_3 id; have ecyb_0 := hSw.cell cyb_0 id; have ecyb_1 := hSw.cell cyb_1 id; have ecyb_2 := hSw.cell cyb_2 id; have ecyb_3 := hSw.cell cyb_3 id; have z1 := Z1.out; have z2 := Z2.out; go_simp <;> with_reducible rfl)
  try simp only [Act.put, List.setIfInBounds_toArray, List.set_cons_zero, List.set_cons_succ]
  refine wpAnyH_take (i := 13) (oi := { dst := some 58, op := Go.Op.convert 22 9 (Go.Operand.tmp 57), type := 9, pos := "more.go:15", after := #[{ on := 12, ground := Go.Ground.data }, { on := 9, ground := Go.Ground.guard }], guard := some (9, true) }) (v := ?v14) rfl (by kernel_rfl) (by kernel_rfl) (by kernel_rfl) (fun _ _ _ h => h) (Or.inl ⟨by rfl, ?hy14⟩) (by assumption) ?rest14
  case hy14 => (intro w hSw; (try dsimp only at hSw); have ecxb_0 := hSw.cell cxb_0 id; have ecxb_1 := hSw.cell cxb_1 id; have ecxb_2 := hSw.cell cxb_2 id; have ecxb_3 := hSw.cell cxb_3 id; have ecyb_0 := hSw.cell cyb_0 id; have ecyb_1 := hSw.cell cyb_1 id; have ecyb_2 := hSw.cell cyb_2 id; have ecyb_3 := hSw.cell cyb_3 id; have z1 := Z1.out; have z2 := Z2.out; have eq := (OB.keep HO7.out hSw (fun _ _ _ _ => id)).rb.str (Pr := Tryd.prog) 22 9 5 Tryd.underlying22 Tryd.underlying5 Tryd.underlying9; go_simp <;> with_reducible rfl)
  try simp only [Act.put, List.setIfInBounds_toArray, List.set_cons_zero, List.set_cons_succ]
  refine wpAnyH_take (i := 14) (oi := { dst := some 59, op := Go.Op.binOp Go.BinOp.eql 9 (Go.Operand.tmp 56) (Go.Operand.tmp 58) 9, type := 4, pos := "more.go:15", after := #[{ on := 11, ground := Go.Ground.data }, { on := 13, ground := Go.Ground.data }, { on := 9, ground := Go.Ground.guard }], guard := some (9, true) }) (v := ?v15) rfl (by kernel_rfl) (by kernel_rfl) (by kernel_rfl) (fun _ _ _ h => h) (Or.inl ⟨by rfl, ?hy15⟩) (by assumption) ?rest15
  case hy15 => (intro w hSw; (try dsimp only at hSw); have ecxb_0 := hSw.cell cxb_0 id; have ecxb_1 := hSw.cell cxb_1 id; have ecxb_2 := hSw.cell cxb_2 id; have ecxb_3 := hSw.cell cxb_3 id; have ecyb_0 := hSw.cell cyb_0 id; have ecyb_1 := hSw.cell cyb_1 id; have ecyb_2 := hSw.cell cyb_2 id; have ecyb_3 := hSw.cell cyb_3 id; have z1 := Z1.out; have z2 := Z2.out; go_simp <;> with_reducible rfl)
  try simp only [Act.put, List.setIfInBounds_toArray, List.set_cons_zero, List.set_cons_succ]
  refine wpAnyH_take (i := 15) (oi := { dst := some 60, op := Go.Op.load 25 (Go.Operand.tmp 4), type := 25, pos := "more.go:15", after := #[{ on := 9, ground := Go.Ground.guard }], guard := some (9, true) }) (v := ?v16) rfl (by kernel_rfl) (by kernel_rfl) (by kernel_rfl) (fun _ _ _ h => h) (Or.inl ⟨by rfl, ?hy16⟩) (by assumption) ?rest16
  case hy16 => (intro w hSw; (try dsimp only at hSw); have ecxb_0 := hSw.cell cxb_0 id; have ecxb_1 := hSw.cell cxb_1 id; have ecxb_2 := hSw.cell cxb_2 id; have ecxb_3 := hSw.cell cxb_3 id; have ecyb_0 := hSw.cell cyb_0 id; have ecyb_1 := hSw.cell cyb_1 id; have ecyb_2 := hSw.cell cyb_2 id; have ecyb_3 := hSw.cell cyb_3 id; have z1 := Z1.out; have z2 := Z2.out; go_simp <;> with_reducible rfl)
  try simp only [Act.put, List.setIfInBounds_toArray, List.set_cons_zero, List.set_cons_succ]
  refine wpAnyH_take (i := 17) (oi := { dst := some 62, op := Go.Op.load 25 (Go.Operand.tmp 5), type := 25, pos := "more.go:15", after := #[{ on := 9, ground := Go.Ground.guard }], guard := some (9, true) }) (v := ?v17) rfl (by kernel_rfl) (by kernel_rfl) (by kernel_rfl) (fun _ _ _ h => h) (Or.inl ⟨by rfl, ?hy17⟩) (by assumption) ?rest17
  case hy17 => (intro w hSw; (try dsimp only at hSw); have ecxb_0 := hSw.cell cxb_0 id; have ecxb_1 := hSw.cell cxb_1 id; have ecxb_2 := hSw.cell cxb_2 id; have ecxb_3 := hSw.cell cxb_3 id; have ecyb_0 := hSw.cell cyb_0 id; have ecyb_1 := hSw.cell cyb_1 id; have ecyb_2 := hSw.cell cyb_2 id; have ecyb_3 := hSw.cell cyb_3 id; have z1 := Z1.out; have z2 := Z2.out; go_simp <;> with_reducible rfl)
  try simp only [Act.put, List.setIfInBounds_toArray, List.set_cons_zero, List.set_cons_succ]
  refine wpAnyH_ready (rs := [16]) (by kernel_rfl) (by simp) ?_
  refine AllReadyH.cons (o := { dst := some 61, op := Go.Op.call { callee := Go.Callee.value (Go.Operand.func 19), args := #[Go.Operand.tmp 60], argTypes := #[25] }, type := 34, pos := "more.go:15", after := #[{ on := 15, ground := Go.Ground.data }, { on := 9, ground := Go.Ground.chain }, { on := 9, ground := Go.Ground.guard }], guard := some (9, true) }) rfl (fun K hK => ?_) AllReadyH.nil
  go_simp
  refine (of6_any _ (⟨xsrc, xdst, xpl, xl⟩ : Dg) Ax cx _ OKX.out (HM.out.keep hS0 (fun _ _ _ => id))).mono ?_
  rintro e w8 ⟨rfl, hx⟩
  have hS1 := hS0.trans hx
  clear hx
  refine hK.out _ _ hS1 (fun _ => ?_)
  refine wpAnyH_ready (rs := [18]) (by kernel_rfl) (by simp) ?_
  refine AllReadyH.cons (o := { dst := some 63, op := Go.Op.call { callee := Go.Callee.value (Go.Operand.func 19), args := #[Go.Operand.tmp 62], argTypes := #[25] }, type := 34, pos := "more.go:15", after := #[{ on := 17, ground := Go.Ground.data }, { on := 16, ground := Go.Ground.chain }, { on := 9, ground := Go.Ground.guard }], guard := some (9, true) }) rfl (fun K hK => ?_) AllReadyH.nil
  go_simp
  refine (of6_any _ (⟨ysrc, ydst, ypl, yl⟩ : Dg) Ay cy _ OKY.out (HN.out.keep hS1 (fun _ _ _ => id))).mono ?_
  rintro e w9 ⟨rfl, hx⟩
  have hS2 := hS1.trans hx
  clear hx
  refine hK.out _ _ hS2 (fun _ => ?_)
  refine wpAnyH_take (i := 19) (oi := { dst := some 64, op := Go.Op.binOp Go.BinOp.eql 34 (Go.Operand.tmp 61) (Go.Operand.tmp 63) 34, type := 4, pos := "more.go:15", after := #[{ on := 16, ground := Go.Ground.data }, { on := 18, ground := Go.Ground.data }, { on := 9, ground := Go.Ground.guard }], guard := some (9, true) }) (v := ?v18) rfl (by kernel_rfl) (by kernel_rfl) (by kernel_rfl) (fun _ _ _ h => h) (Or.inl ⟨by rfl, ?hy18⟩) (by assumption) ?rest18
  case hy18 => (intro w hSw; (try dsimp only at hSw); have ecxb_0 := hSw.cell cxb_0 id; have ecxb_1 := hSw.cell cxb_1 id; have ecxb_2 := hSw.cell cxb_2 id; have ecxb_3 := hSw.cell cxb_3 id; have ecyb_0 := hSw.cell cyb_0 id; have ecyb_1 := hSw.cell cyb_1 id; have ecyb_2 := hSw.cell cyb_2 id; have ecyb_3 := hSw.cell cyb_3 id; have z1 := Z1.out; have z2 := Z2.out; go_simp <;> with_reducible rfl)
  try simp only [Act.put, List.setIfInBounds_toArray, List.set_cons_zero, List.set_cons_succ]
  refine wpAnyH_take (i := 20) (oi := { dst := some 65, op := Go.Op.binOp Go.BinOp.eql 4 (Go.Operand.tmp 59) (Go.Operand.tmp 64) 4, type := 4, pos := "more.go:15", after := #[{ on := 14, ground := Go.Ground.data }, { on := 19, ground := Go.Ground.data }, { on := 9, ground := Go.Ground.guard }], guard := some (9, true) }) (v := ?v19) rfl (by kernel_rfl) (by kernel_rfl) (by kernel_rfl) (fun _ _ _ h => h) (Or.inl ⟨by rfl, ?hy19⟩) (by assumption) ?rest19
  case hy19 => (intro w hSw; (try dsimp only at hSw); have ecxb_0 := hSw.cell cxb_0 id; have ecxb_1 := hSw.cell cxb_1 id; have ecxb_2 := hSw.cell cxb_2 id; have ecxb_3 := hSw.cell cxb_3 id; have ecyb_0 := hSw.cell cyb_0 id; have ecyb_1 := hSw.cell cyb_1 id; have ecyb_2 := hSw.cell cyb_2 id; have ecyb_3 := hSw.cell cyb_3 id; have z1 := Z1.out; have z2 := Z2.out; go_simp <;> with_reducible rfl)
  try simp only [Act.put, List.setIfInBounds_toArray, List.set_cons_zero, List.set_cons_succ]
  refine wpAnyH_take (i := 21) (oi := { dst := some 66, op := Go.Op.pick (Go.Operand.tmp 54) (Go.Operand.tmp 65) (Go.Operand.const (Go.Value.bool false)), type := 4, pos := "more.go:15", after := #[{ on := 9, ground := Go.Ground.data }, { on := 20, ground := Go.Ground.data }], guard := none }) (v := ?v20) rfl (by kernel_rfl) (by kernel_rfl) (by kernel_rfl) (fun _ _ _ h => h) (Or.inl ⟨by rfl, ?hy20⟩) (by assumption) ?rest20
  case hy20 => (intro w hSw; (try dsimp only at hSw); have ecxb_0 := hSw.cell cxb_0 id; have ecxb_1 := hSw.cell cxb_1 id; have ecxb_2 := hSw.cell cxb_2 id; have ecxb_3 := hSw.cell cxb_3 id; have ecyb_0 := hSw.cell cyb_0 id; have ecyb_1 := hSw.cell cyb_1 id; have ecyb_2 := hSw.cell cyb_2 id; have ecyb_3 := hSw.cell cyb_3 id; have z1 := Z1.out; have z2 := Z2.out; go_simp <;> with_reducible rfl)
  try simp only [Act.put, List.setIfInBounds_toArray, List.set_cons_zero, List.set_cons_succ]
  refine wpAnyH_take (i := 22) (oi := { dst := some 8, op := Go.Op.assign (Go.Operand.tmp 66), type := 4, pos := "more.go:15", after := #[{ on := 21, ground := Go.Ground.data }, { on := 18, ground := Go.Ground.chain }, { on := 0, ground := Go.Ground.phase }, { on := 1, ground := Go.Ground.phase }, { on := 2, ground := Go.Ground.phase }, { on := 3, ground := Go.Ground.phase }, { on := 4, ground := Go.Ground.phase }, { on := 5, ground := Go.Ground.phase }, { on := 6, ground := Go.Ground.phase }, { on := 7, ground := Go.Ground.phase }, { on := 8, ground := Go.Ground.phase }, { on := 9, ground := Go.Ground.phase }, { on := 10, ground := Go.Ground.phase }, { on := 11, ground := Go.Ground.phase }, { on := 12, ground := Go.Ground.phase }, { on := 13, ground := Go.Ground.phase }, { on := 14, ground := Go.Ground.phase }, { on := 15, ground := Go.Ground.phase }, { on := 16, ground := Go.Ground.phase }, { on := 17, ground := Go.Ground.phase }, { on := 18, ground := Go.Ground.phase }, { on := 19, ground := Go.Ground.phase }, { on := 20, ground := Go.Ground.phase }, { on := 21, ground := Go.Ground.phase }], guard := none }) (v := ?v21) rfl (by kernel_rfl) (by kernel_rfl) (by kernel_rfl) (fun _ _ _ h => h) (Or.inl ⟨by rfl, ?hy21⟩) (by assumption) ?rest21
  case hy21 => (intro w hSw; (try dsimp only at hSw); have ecxb_0 := hSw.cell cxb_0 id; have ecxb_1 := hSw.cell cxb_1 id; have ecxb_2 := hSw.cell cxb_2 id; have ecxb_3 := hSw.cell cxb_3 id; have ecyb_0 := hSw.cell cyb_0 id; have ecyb_1 := hSw.cell cyb_1 id; have ecyb_2 := hSw.cell cyb_2 id; have ecyb_3 := hSw.cell cyb_3 id; have z1 := Z1.out; have z2 := Z2.out; go_simp <;> with_reducible rfl)
  try simp only [Act.put, List.setIfInBounds_toArray, List.set_cons_zero, List.set_cons_succ]
  refine wpAnyH_done (by kernel_rfl) ?_ _
  have hx := hS2
  clear hS0 hS1 hS2 cxb_0 cxb_1 cxb_2 cxb_3 cyb_0 cyb_1 cyb_2 cyb_3
  have HX_w9 := Lib.hid hx
  clear hx
  go_wp2_with fail
  go_ret
  exact ⟨rfl, (((((((HX_w1.out.trans HX_w2.out).trans HX_w3.out).andThen HX_w4.out (fun i hi e => by have := hb_xb_; omega)).andThen HX_w5.out (fun i hi e => by have := HX_w1.out.size; have := hb_yb_; omega)).trans HX_w6.out).trans HX_w7.out).trans HX_w9.out)⟩
end Go.Proofs.YtfcfpkhcpijkfaaDoor
