/-
  The walk of UdpStrange. By an AI agent.
-/
import Derived.Test.YtfcfpkhcpijkfaaDoorUnlike06
namespace Go.Proofs.YtfcfpkhcpijkfaaDoor
open Go.RowKit

theorem ac_two (a b : UInt8) (T : List UInt8) : ac true (a :: b :: T) = a.toNat * 256 + (b.toNat + ac true T) := rfl
theorem psd_low (t n : Int) : ∃ R : Nat, 0 < R ∧ ∀ s : Int, 0 ≤ s → ac true (psd s t 17 n) = (by8 (s / 65536 / 256)).toNat * 256 + ((by8 (s / 65536)).toNat + ((s % 65536).toNat + R)) := by
  refine ⟨ac true (by8 (t / 16777216) :: by8 (t / 65536) :: by8 (t / 256) :: by8 t :: 0 :: by8 17 :: by8 (n / 256) :: by8 n :: []), ?_, ?_⟩
  · rw [ac_two, ac_two, ac_two]
    have : (by8 17).toNat = 17 := by decide
    omega
  · intro s hs
    have e : psd s t 17 n = by8 (s / 16777216) :: by8 (s / 65536) :: by8 (s / 256) :: by8 s :: by8 (t / 16777216) :: by8 (t / 65536) :: by8 (t / 256) :: by8 t :: 0 :: by8 17 :: by8 (n / 256) :: by8 n :: [] := rfl
    rw [e, ac_two, ac_two]
    generalize ac true _ = R
    have a := by8_toNat (s / 256)
    have b := by8_toNat s
    have c : s / 16777216 = s / 65536 / 256 := by omega
    rw [c]
    generalize (by8 (s / 65536 / 256)).toNat = x
    generalize (by8 (s / 65536)).toNat = y
    omega
/-- who has other lower sixteen bits -/
def other6 (s o : Int) : Int := s - s % 65536 + o
theorem strange_law (d : Dg) (hpl : d.pl = false) (hb : d.b.length ≤ 65507) (s t o : Int) (hs : 0 ≤ s) (ho : 0 ≤ o ∧ o ≤ 65535) :
    uerr (db d s t) (other6 s o) t = if o = s % 65536 ∨ (o = 0 ∧ s % 65536 = 65535) ∨ (o = 65535 ∧ s % 65536 = 0) then none else some ([lay6], 4) := by
  have e : db d s t = d.hd (d.sum s t : Int) := if_neg (by rw [hpl]; simp)
  have hsl := d.sum_le s t
  have hsp := d.sum_pos s t
  have e1 := dsz_hd d (d.sum s t : Int) [] hb
  have e2 := dsm_hd d (d.sum s t : Int) [] (by omega) (by omega)
  have hl := Dg.hd_len d (d.sum s t : Int)
  have ht := hd_take d (d.sum s t : Int) []
  rw [List.append_nil] at e1 e2 ht
  have hk := dsum_ok d s t
  unfold Dg.ps at hk
  obtain ⟨R, hR, hac⟩ := psd_low t (8 + (d.b.length : Int))
  have h1 := hac s hs
  have h2 := hac (other6 s o) (by unfold other6; omega)
  have q1 : other6 s o / 65536 = s / 65536 := by unfold other6; omega
  have q2 : other6 s o % 65536 = o := by unfold other6; omega
  rw [q1, q2] at h2
  rw [su_zero, psd_ac, h1] at hk
  rw [e]
  unfold uerr
  rw [e1, if_neg (by omega), if_neg (by omega), if_neg (by omega), ht, show (((8 + d.b.length : Nat) : Int)) = 8 + (d.b.length : Int) by omega]
  have key : su (psd (other6 s o) t 17 (8 + (d.b.length : Int)) ++ d.hd (d.sum s t : Int)) = 0 ↔ (o = s % 65536 ∨ (o = 0 ∧ s % 65536 = 65535) ∨ (o = 65535 ∧ s % 65536 = 0)) := by
    rw [su_zero, psd_ac, h2]
    generalize ac true (d.hd (d.sum s t : Int)) = X at hk ⊢
    generalize (by8 (s / 65536 / 256)).toNat = x at hk ⊢
    generalize (by8 (s / 65536)).toNat = y at hk ⊢
    omega
  by_cases h : o = s % 65536 ∨ (o = 0 ∧ s % 65536 = 65535) ∨ (o = 65535 ∧ s % 65536 = 0)
  · rw [if_pos h, if_neg (by intro h'; exact h'.2 (key.2 h))]
  · rw [if_neg h, if_pos ⟨by omega, fun h' => h (key.1 h')⟩]
theorem strange_plain (d : Dg) (hpl : d.pl = true) (hb : d.b.length ≤ 65507) (s t s' : Int) : uerr (db d s t) s' t = none := by
  have e : db d s t = d.hd 0 := if_pos hpl
  have e1 := dsz_hd d 0 [] hb
  have e2 := dsm_hd d 0 [] (by omega) (by omega)
  have hl := Dg.hd_len d 0
  rw [List.append_nil] at e1 e2
  rw [e]
  unfold uerr
  rw [e1, if_neg (by omega), if_neg (by omega), if_neg (by omega), if_neg (by intro h'; exact h'.1 (by omega))]
set_option maxRecDepth 100000 in
set_option maxHeartbeats 16000000 in
theorem strange06_any (m : Dg) (A : Option Addr) (c : Nat) (s t o : Int) (w : World) (ok : m.ok) (hm : RB w (fun _ => True) (.slice A m.b.length c) m.b) (hs : 0 ≤ s ∧ s < 4294967296) (ht : 0 ≤ t ∧ t < 4294967296) (ho : 0 ≤ o ∧ o ≤ 65535) (hg : ET w) :
    Calls Tryd.prog 6 #[dgv m (.slice A m.b.length c), .int .u32 s, .int .u32 t, .int .u16 o] w fun e w' => e = .returned (.bool true) ∧ Ex (fun _ => False) w w' := by
  obtain ⟨xsrc, xdst, xpl, xb⟩ := m
  simp only at hm
  have hmc : xb.length ≤ c := by obtain ⟨_, _, _, e, h, _⟩ := hm; injection e with _ _ e3; rw [e3]; exact h
  obtain ⟨xl, hk, hk1, hk2, hxl⟩ := ud_cut xb
  have hki : (xl.length : Int) ≤ (xb.length : Int) := by omega
  have hkc : xl.length ≤ c := by omega
  have hm1 := hm.take 3000
  rw [← hxl] at hm1
  have HM := Lib.hid hm1
  have OK := Lib.hid ok
  have HS := Lib.hid hs
  have HT := Lib.hid ht
  have HO := Lib.hid ho
  have HG := Lib.hid hg
  have hq1 : s.tmod 65536 = s % 65536 := Int.tmod_eq_emod_of_nonneg (by omega)
  have hw1 : IntKind.u16.wrap (s % 65536) = s % 65536 := by rw [IntKind.wrap_u16]; omega
  have hw2 : IntKind.u32.wrap (s - s % 65536) = s - s % 65536 := by rw [IntKind.wrap_u32]; omega
  have hw3 : IntKind.u32.wrap (s - s % 65536 + o) = s - s % 65536 + o := by rw [IntKind.wrap_u32]; omega
  have hw4 : IntKind.u32.wrap o = o := by rw [IntKind.wrap_u32]; omega
  have HQ1 := Lib.hid hq1
  have HW1 := Lib.hid hw1
  have HW2 := Lib.hid hw2
  have HW3 := Lib.hid hw3
  have HW4 := Lib.hid hw4
  clear hm hm1 ok hxl hmc hs ht ho hg hq1 hw1 hw2 hw3 hw4
  show Calls Tryd.prog 6 #[.agg #[.int .u16 xsrc, .int .u16 xdst, .bool xpl, .slice A xb.length c], .int .u32 s, .int .u32 t, .int .u16 o] w _
  go_enter Tryd.func6, Tryd.ntmps6
  go_upto_region 1 with fail
  have hx : Ex (fun _ => False) w (w.alloc (.cells #[.int .u16 xsrc, .int .u16 xdst, .bool xpl, .slice A xb.length c] 25)) := (Ex.refl _ w).alloc _
  have hb : (w.alloc (.cells #[.int .u16 xsrc, .int .u16 xdst, .bool xpl, .slice A xb.length c] 25)).heap[w.heap.size]? = some (.cells #[.int .u16 xsrc, .int .u16 xdst, .bool xpl, .slice A xb.length c] 25) := heap_alloc_new w _
  obtain ⟨xb_, hxb_⟩ : ∃ xb_, xb_ = w.heap.size := ⟨_, rfl⟩
  have hb_xb_ : w.heap.size ≤ xb_ := by omega
  rw [← hxb_] at hb
  try simp only [← hxb_]
  generalize w.alloc (.cells #[.int .u16 xsrc, .int .u16 xdst, .bool xpl, .slice A xb.length c] 25) = w1 at hx hb ⊢
  clear hxb_
  have HX_w1 := Lib.hid hx
  clear hx
  have B_xb_ := Lib.hid hb
  clear hb
  go_wp2_with fail
  refine (shown6_any w1 (HG.out.keep HX_w1.out id)).mono ?_
  rintro e w2 ⟨rfl, hx⟩
  have HX_w2 := Lib.hid hx
  clear hx
  have cxb_3 := row_cell (k := 3) (v := .slice A xb.length c) ((HX_w2.out.block xb_ (row_lt B_xb_.out) id).trans B_xb_.out) rfl
  have fxb_3 := row_frozen ((HX_w2.out.block xb_ (row_lt B_xb_.out) id).trans B_xb_.out) 3
  go_upto_region 3 with fail
  replace B_xb_ := Lib.hid ((HX_w2.out.block xb_ (row_lt B_xb_.out) id).trans B_xb_.out)
  have hb : (w2.setCell ⟨xb_, 3, none⟩ (.slice A xl.length c)).heap[xb_]? = some (.cells #[.int .u16 xsrc, .int .u16 xdst, .bool xpl, .slice A xl.length c] 25) := (row_set B_xb_.out 3 (.slice A xl.length c))
  have hx : Ex (fun j => j = xb_) w2 (w2.setCell ⟨xb_, 3, none⟩ (.slice A xl.length c)) := ((Ex.refl (fun j => j = xb_) w2).setCell (p := ⟨xb_, 3, none⟩) (.inl rfl) (.slice A xl.length c))
  clear cxb_3 fxb_3 hk hki hkc hk1
  generalize (w2.setCell ⟨xb_, 3, none⟩ (.slice A xl.length c)) = w3 at hx hb ⊢
  clear B_xb_
  have HX_w3 := Lib.hid hx
  clear hx
  have B_xb_ := Lib.hid hb
  clear hb
  cases xpl
  case false =>
    have cxb_0 := row_cell (k := 0) (v := .int .u16 xsrc) B_xb_.out rfl
    have cxb_1 := row_cell (k := 1) (v := .int .u16 xdst) B_xb_.out rfl
    have cxb_2 := row_cell (k := 2) (v := .bool false) B_xb_.out rfl
    have cxb_3 := row_cell (k := 3) (v := .slice A xl.length c) B_xb_.out rfl
    have okx : (⟨xsrc, xdst, false, xl⟩ : Dg).ok := OK.out
    have OKX := Lib.hid okx
    clear okx
    go_wp2_with fail
    refine (dBytes_ok _ (⟨xsrc, xdst, false, xl⟩ : Dg) s t A c w3 OKX.out HS.out HT.out (RB.keep HM.out ((HX_w1.out.trans HX_w2.out).andThen HX_w3.out (fun i hi e => by have := hb_xb_; omega)) (fun _ _ _ => id)) (by show xl.length ≤ _; omega)).mono ?_
    rintro e w4 ⟨A4, c4, rfl, ho, hx⟩
    have ho' : OB w4 w3.heap.size (.slice (some A4) (8 + xl.length) c4) (db (⟨xsrc, xdst, false, xl⟩ : Dg) s t) := ho
    have e8 : 8 + (⟨xsrc, xdst, false, xl⟩ : Dg).b.length = 8 + xl.length := rfl
    rw [e8]
    have hbk := (db_back OKX.out s t (by show xl.length ≤ _; omega) []).2.2
    rw [List.append_nil] at hbk
    have hml := db_len (⟨xsrc, xdst, false, xl⟩ : Dg) s t
    have hml : (db (⟨xsrc, xdst, false, xl⟩ : Dg) s t).length = 8 + xl.length := hml
    have hsl := strange_law (⟨xsrc, xdst, false, xl⟩ : Dg) rfl (by show xl.length ≤ _; omega) s t o HS.out.1 HO.out
    obtain ⟨M, hM⟩ : ∃ M, M = db (⟨xsrc, xdst, false, xl⟩ : Dg) s t := ⟨_, rfl⟩
    rw [← hM] at ho' hbk hsl hml
    have HBK := Lib.hid hbk
    have HSL := Lib.hid hsl
    have HML := Lib.hid hml
    have ho6 : 0 ≤ other6 s o ∧ other6 s o < 4294967296 := by have := HS.out; have := HO.out; unfold other6; omega
    have HO6 := Lib.hid ho6
    clear e8 ho hbk hsl hml hM ho6 cxb_0 cxb_1 cxb_2 cxb_3
    have HX_w4 := Lib.hid hx
    clear hx
    have HO4 := Lib.hid ho'
    clear ho'
    by_cases p1 : o = s % 65536
    ·
      have hal : (o = s % 65536 ∨ (o = 0 ∧ s % 65536 = 65535) ∨ (o = 65535 ∧ s % 65536 = 0)) := by omega
      have her : uerr M (other6 s o) t = none := by rw [HSL.out, if_pos hal]
      have HER := Lib.hid her
      clear her
      have f_o_lo : (o == s % 65536) = true := by rw [beq_iff_eq]; omega
      clear hal
      clear p1
      have hq1 := HQ1.out
      have hw1 := HW1.out
      have hw2 := HW2.out
      have hw3 := HW3.out
      have hw4 := HW4.out
      have hrb := HO4.out.rb
      go_wp2_with fail
      refine (uparse_yes _ (some A4) (8 + xl.length) c4 M (other6 s o) t w4 hrb (fun h => by cases h) (by rw [HML.out]; omega) HO6.out HT.out HER.out).mono ?_
      rintro e w5 ⟨A5, rfl, hb5, hx⟩
      rw [HBK.out] at hb5 ⊢
      have hb5' : RB w5 (fun j => w4.heap.size ≤ j) (.slice A5 xl.length xl.length) xl := hb5
      have hv : dgv (⟨xsrc, xdst, false, xl⟩ : Dg) (.slice A5 (⟨xsrc, xdst, false, xl⟩ : Dg).b.length (⟨xsrc, xdst, false, xl⟩ : Dg).b.length) = .agg #[.int .u16 xsrc, .int .u16 xdst, .bool false, .slice A5 xl.length xl.length] := rfl
      rw [hv]
      clear hv hb5 hq1 hw1 hw2 hw3 hw4 hrb
      have HX_w5 := Lib.hid hx
      clear hx
      have HB5 := Lib.hid hb5'
      clear hb5'
      go_upto_region 6 with fail
      have hx : Ex (fun _ => False) w5 (w5.alloc (.cells #[.int .u16 xsrc, .int .u16 xdst, .bool false, .slice A5 xl.length xl.length] 25)) := (Ex.refl _ w5).alloc _
      have hb : (w5.alloc (.cells #[.int .u16 xsrc, .int .u16 xdst, .bool false, .slice A5 xl.length xl.length] 25)).heap[w5.heap.size]? = some (.cells #[.int .u16 xsrc, .int .u16 xdst, .bool false, .slice A5 xl.length xl.length] 25) := heap_alloc_new w5 _
      obtain ⟨qb, hqb⟩ : ∃ qb, qb = w5.heap.size := ⟨_, rfl⟩
      have hb_qb : w5.heap.size ≤ qb := by omega
      rw [← hqb] at hb
      try simp only [← hqb]
      generalize w5.alloc (.cells #[.int .u16 xsrc, .int .u16 xdst, .bool false, .slice A5 xl.length xl.length] 25) = w6 at hx hb ⊢
      clear hqb
      have HX_w6 := Lib.hid hx
      clear hx
      have B_qb := Lib.hid hb
      clear hb
      replace B_xb_ := Lib.hid ((((HX_w4.out.trans HX_w5.out).trans HX_w6.out).block xb_ (row_lt B_xb_.out) id).trans B_xb_.out)
      have cxb_2 := row_cell (k := 2) (v := .bool false) B_xb_.out rfl
      skip
      go_upto_region 8 with fail
      replace HM := Lib.hid (RB.keep HM.out (((((HX_w1.out.trans HX_w2.out).andThen HX_w3.out (fun i hi e => by have := hb_xb_; omega)).trans HX_w4.out).trans HX_w5.out).trans HX_w6.out) (fun _ _ _ => id))
      have cxb_0 := row_cell (k := 0) (v := .int .u16 xsrc) B_xb_.out rfl
      have cxb_1 := row_cell (k := 1) (v := .int .u16 xdst) B_xb_.out rfl
      have cxb_3 := row_cell (k := 3) (v := .slice A xl.length c) B_xb_.out rfl
      have cqb0 := row_cell (k := 0) (v := .int .u16 xsrc) B_qb.out rfl
      have cqb1 := row_cell (k := 1) (v := .int .u16 xdst) B_qb.out rfl
      have cqb2 := row_cell (k := 2) (v := .bool false) B_qb.out rfl
      have cqb3 := row_cell (k := 3) (v := .slice A5 xl.length xl.length) B_qb.out rfl
      have z1 : ∀ w, (binOp .eql 34 (rdv (⟨xsrc, xdst, false, xl⟩ : Dg)) (rdv (⟨xsrc, xdst, false, xl⟩ : Dg))).run Tryd.prog w = .ok (.bool true) w := fun w => by rw [rdv_eq, Dg.eqB_self]
      have z2 : ∀ w, (eqGuard .eql 34 (.tmp 83) (.tmp 85) (rdv (⟨xsrc, xdst, false, xl⟩ : Dg)) (rdv (⟨xsrc, xdst, false, xl⟩ : Dg))).run Tryd.prog w = .ok () w := fun w => rdv_guard .eql (.tmp 83) (.tmp 85) _ _ w
      have Z1 := Lib.hid z1
      have Z2 := Lib.hid z2
      have hb6 : RB w6 (fun j => w4.heap.size ≤ j) (.slice A5 xl.length xl.length) xl := HB5.out.keep HX_w6.out (fun _ _ _ => id)
      have HB6 := Lib.hid hb6
      have hS0 : Ex (fun _ => False) w6 w6.drew := (Ex.refl _ w6).drew
      clear z1 z2 hb6
      refine wp_region_held_drew (S := fun W => Ex (fun _ => False) w6 W) (by kernel_rfl) hS0 (fun _ => ?_)
      refine wpAnyH_take (i := 0) (oi := { dst := some 72, op := Go.Op.move (Go.Operand.tmp 9), type := 4, pos := "more.go:27", after := #[], guard := none }) (v := ?v1) rfl (by kernel_rfl) (by kernel_rfl) (by kernel_rfl) (fun _ _ _ h => h) (Or.inl ⟨by rfl, ?hy1⟩) (by assumption) ?rest1
      case hy1 => (intro w hSw; (try dsimp only at hSw); have ecxb_0 := hSw.cell cxb_0 id; have ecxb_1 := hSw.cell cxb_1 id; have ecxb_3 := hSw.cell cxb_3 id; have ecxb_2 := hSw.cell cxb_2 id; have ecqb0 := hSw.cell cqb0 id; have ecqb1 := hSw.cell cqb1 id; have ecqb2 := hSw.cell cqb2 id; have ecqb3 := hSw.cell cqb3 id; have z1 := Z1.out; have z2 := Z2.out; go_simp <;> with_reducible rfl)
      try simp only [Act.put, List.setIfInBounds_toArray, List.set_cons_zero, List.set_cons_succ]
      refine wpAnyH_take (i := 1) (oi := { dst := some 73, op := Go.Op.move (Go.Operand.tmp 72), type := 4, pos := "more.go:27", after := #[{ on := 0, ground := Go.Ground.data }], guard := none }) (v := ?v2) rfl (by kernel_rfl) (by kernel_rfl) (by kernel_rfl) (fun _ _ _ h => h) (Or.inl ⟨by rfl, ?hy2⟩) (by assumption) ?rest2
      case hy2 => (intro w hSw; (try dsimp only at hSw); have ecxb_0 := hSw.cell cxb_0 id; have ecxb_1 := hSw.cell cxb_1 id; have ecxb_3 := hSw.cell cxb_3 id; have ecxb_2 := hSw.cell cxb_2 id; have ecqb0 := hSw.cell cqb0 id; have ecqb1 := hSw.cell cqb1 id; have ecqb2 := hSw.cell cqb2 id; have ecqb3 := hSw.cell cqb3 id; have z1 := Z1.out; have z2 := Z2.out; go_simp <;> with_reducible rfl)
      try simp only [Act.put, List.setIfInBounds_toArray, List.set_cons_zero, List.set_cons_succ]
      refine wpAnyH_take (i := 2) (oi := { dst := some 74, op := Go.Op.move (Go.Operand.tmp 11), type := 29, pos := "more.go:27", after := #[{ on := 1, ground := Go.Ground.guard }], guard := some (1, true) }) (v := ?v3) rfl (by kernel_rfl) (by kernel_rfl) (by kernel_rfl) (fun _ _ _ h => h) (Or.inl ⟨by rfl, ?hy3⟩) (by assumption) ?rest3
      case hy3 => (intro w hSw; (try dsimp only at hSw); have ecxb_0 := hSw.cell cxb_0 id; have ecxb_1 := hSw.cell cxb_1 id; have ecxb_3 := hSw.cell cxb_3 id; have ecxb_2 := hSw.cell cxb_2 id; have ecqb0 := hSw.cell cqb0 id; have ecqb1 := hSw.cell cqb1 id; have ecqb2 := hSw.cell cqb2 id; have ecqb3 := hSw.cell cqb3 id; have z1 := Z1.out; have z2 := Z2.out; go_simp <;> with_reducible rfl)
      try simp only [Act.put, List.setIfInBounds_toArray, List.set_cons_zero, List.set_cons_succ]
      refine wpAnyH_take (i := 3) (oi := { dst := some 75, op := Go.Op.binOp Go.BinOp.eql 29 (Go.Operand.tmp 74) (Go.Operand.const Go.Value.nilIface) 29, type := 4, pos := "more.go:27", after := #[{ on := 2, ground := Go.Ground.data }, { on := 1, ground := Go.Ground.guard }], guard := some (1, true) }) (v := ?v4) rfl (by kernel_rfl) (by kernel_rfl) (by kernel_rfl) (fun _ _ _ h => h) (Or.inl ⟨by rfl, ?hy4⟩) (by assumption) ?rest4
      case hy4 => (intro w hSw; (try dsimp only at hSw); have ecxb_0 := hSw.cell cxb_0 id; have ecxb_1 := hSw.cell cxb_1 id; have ecxb_3 := hSw.cell cxb_3 id; have ecxb_2 := hSw.cell cxb_2 id; have ecqb0 := hSw.cell cqb0 id; have ecqb1 := hSw.cell cqb1 id; have ecqb2 := hSw.cell cqb2 id; have ecqb3 := hSw.cell cqb3 id; have z1 := Z1.out; have z2 := Z2.out; go_simp <;> with_reducible rfl)
      try simp only [Act.put, List.setIfInBounds_toArray, List.set_cons_zero, List.set_cons_succ]
      refine wpAnyH_take (i := 4) (oi := { dst := some 76, op := Go.Op.pick (Go.Operand.tmp 73) (Go.Operand.tmp 75) (Go.Operand.const (Go.Value.bool false)), type := 4, pos := "more.go:27", after := #[{ on := 1, ground := Go.Ground.data }, { on := 3, ground := Go.Ground.data }], guard := none }) (v := ?v5) rfl (by kernel_rfl) (by kernel_rfl) (by kernel_rfl) (fun _ _ _ h => h) (Or.inl ⟨by rfl, ?hy5⟩) (by assumption) ?rest5
      case hy5 => (intro w hSw; (try dsimp only at hSw); have ecxb_0 := hSw.cell cxb_0 id; have ecxb_1 := hSw.cell cxb_1 id; have ecxb_3 := hSw.cell cxb_3 id; have ecxb_2 := hSw.cell cxb_2 id; have ecqb0 := hSw.cell cqb0 id; have ecqb1 := hSw.cell cqb1 id; have ecqb2 := hSw.cell cqb2 id; have ecqb3 := hSw.cell cqb3 id; have z1 := Z1.out; have z2 := Z2.out; go_simp <;> with_reducible rfl)
      try simp only [Act.put, List.setIfInBounds_toArray, List.set_cons_zero, List.set_cons_succ]
      refine wpAnyH_take (i := 5) (oi := { dst := some 77, op := Go.Op.move (Go.Operand.tmp 76), type := 4, pos := "more.go:27", after := #[{ on := 4, ground := Go.Ground.data }, { on := 1, ground := Go.Ground.chain }], guard := none }) (v := ?v6) rfl (by kernel_rfl) (by kernel_rfl) (by kernel_rfl) (fun _ _ _ h => h) (Or.inl ⟨by rfl, ?hy6⟩) (by assumption) ?rest6
      case hy6 => (intro w hSw; (try dsimp only at hSw); have ecxb_0 := hSw.cell cxb_0 id; have ecxb_1 := hSw.cell cxb_1 id; have ecxb_3 := hSw.cell cxb_3 id; have ecxb_2 := hSw.cell cxb_2 id; have ecqb0 := hSw.cell cqb0 id; have ecqb1 := hSw.cell cqb1 id; have ecqb2 := hSw.cell cqb2 id; have ecqb3 := hSw.cell cqb3 id; have z1 := Z1.out; have z2 := Z2.out; go_simp <;> with_reducible rfl)
      try simp only [Act.put, List.setIfInBounds_toArray, List.set_cons_zero, List.set_cons_succ]
      refine wpAnyH_take (i := 6) (oi := { dst := some 78, op := Go.Op.move (Go.Operand.tmp 14), type := 29, pos := "more.go:27", after := #[{ on := 5, ground := Go.Ground.guard }], guard := some (5, true) }) (v := ?v7) rfl (by kernel_rfl) (by kernel_rfl) (by kernel_rfl) (fun _ _ _ h => h) (Or.inl ⟨by rfl, ?hy7⟩) (by assumption) ?rest7
      case hy7 => (intro w hSw; (try dsimp only at hSw); have ecxb_0 := hSw.cell cxb_0 id; have ecxb_1 := hSw.cell cxb_1 id; have ecxb_3 := hSw.cell cxb_3 id; have ecxb_2 := hSw.cell cxb_2 id; have ecqb0 := hSw.cell cqb0 id; have ecqb1 := hSw.cell cqb1 id; have ecqb2 := hSw.cell cqb2 id; have ecqb3 := hSw.cell cqb3 id; have z1 := Z1.out; have z2 := Z2.out; go_simp <;> with_reducible rfl)
      try simp only [Act.put, List.setIfInBounds_toArray, List.set_cons_zero, List.set_cons_succ]
      refine wpAnyH_take (i := 7) (oi := { dst := some 79, op := Go.Op.binOp Go.BinOp.eql 29 (Go.Operand.tmp 78) (Go.Operand.const Go.Value.nilIface) 29, type := 4, pos := "more.go:27", after := #[{ on := 6, ground := Go.Ground.data }, { on := 5, ground := Go.Ground.guard }], guard := some (5, true) }) (v := ?v8) rfl (by kernel_rfl) (by kernel_rfl) (by kernel_rfl) (fun _ _ _ h => h) (Or.inl ⟨by rfl, ?hy8⟩) (by assumption) ?rest8
      case hy8 => (intro w hSw; (try dsimp only at hSw); have ecxb_0 := hSw.cell cxb_0 id; have ecxb_1 := hSw.cell cxb_1 id; have ecxb_3 := hSw.cell cxb_3 id; have ecxb_2 := hSw.cell cxb_2 id; have ecqb0 := hSw.cell cqb0 id; have ecqb1 := hSw.cell cqb1 id; have ecqb2 := hSw.cell cqb2 id; have ecqb3 := hSw.cell cqb3 id; have z1 := Z1.out; have z2 := Z2.out; go_simp <;> with_reducible rfl)
      try simp only [Act.put, List.setIfInBounds_toArray, List.set_cons_zero, List.set_cons_succ]
      refine wpAnyH_take (i := 8) (oi := { dst := some 80, op := Go.Op.pick (Go.Operand.tmp 77) (Go.Operand.tmp 79) (Go.Operand.const (Go.Value.bool false)), type := 4, pos := "more.go:27", after := #[{ on := 5, ground := Go.Ground.data }, { on := 7, ground := Go.Ground.data }], guard := none }) (v := ?v9) rfl (by kernel_rfl) (by kernel_rfl) (by kernel_rfl) (fun _ _ _ h => h) (Or.inl ⟨by rfl, ?hy9⟩) (by assumption) ?rest9
      case hy9 => (intro w hSw; (try dsimp only at hSw); have ecxb_0 := hSw.cell cxb_0 id; have ecxb_1 := hSw.cell cxb_1 id; have ecxb_3 := hSw.cell cxb_3 id; have ecxb_2 := hSw.cell cxb_2 id; have ecqb0 := hSw.cell cqb0 id; have ecqb1 := hSw.cell cqb1 id; have ecqb2 := hSw.cell cqb2 id; have ecqb3 := hSw.cell cqb3 id; have z1 := Z1.out; have z2 := Z2.out; go_simp <;> with_reducible rfl)
      try simp only [Act.put, List.setIfInBounds_toArray, List.set_cons_zero, List.set_cons_succ]
      refine wpAnyH_take (i := 9) (oi := { dst := some 81, op := Go.Op.move (Go.Operand.tmp 80), type := 4, pos := "more.go:27", after := #[{ on := 8, ground := Go.Ground.data }, { on := 5, ground := Go.Ground.chain }], guard := none }) (v := ?v10) rfl (by kernel_rfl) (by kernel_rfl) (by kernel_rfl) (fun _ _ _ h => h) (Or.inl ⟨by rfl, ?hy10⟩) (by assumption) ?rest10
      case hy10 => (intro w hSw; (try dsimp only at hSw); have ecxb_0 := hSw.cell cxb_0 id; have ecxb_1 := hSw.cell cxb_1 id; have ecxb_3 := hSw.cell cxb_3 id; have ecxb_2 := hSw.cell cxb_2 id; have ecqb0 := hSw.cell cqb0 id; have ecqb1 := hSw.cell cqb1 id; have ecqb2 := hSw.cell cqb2 id; have ecqb3 := hSw.cell cqb3 id; have z1 := Z1.out; have z2 := Z2.out; go_simp <;> with_reducible rfl)
      try simp only [Act.put, List.setIfInBounds_toArray, List.set_cons_zero, List.set_cons_succ]
      refine wpAnyH_take (i := 10) (oi := { dst := some 82, op := Go.Op.load 25 (Go.Operand.tmp 13), type := 25, pos := "more.go:27", after := #[{ on := 9, ground := Go.Ground.guard }], guard := some (9, true) }) (v := ?v11) rfl (by kernel_rfl) (by kernel_rfl) (by kernel_rfl) (fun _ _ _ h => h) (Or.inl ⟨by rfl, ?hy11⟩) (by assumption) ?rest11
      case hy11 => (intro w hSw; (try dsimp only at hSw); have ecxb_0 := hSw.cell cxb_0 id; have ecxb_1 := hSw.cell cxb_1 id; have ecxb_3 := hSw.cell cxb_3 id; have ecxb_2 := hSw.cell cxb_2 id; have ecqb0 := hSw.cell cqb0 id; have ecqb1 := hSw.cell cqb1 id; have ecqb2 := hSw.cell cqb2 id; have ecqb3 := hSw.cell cqb3 id; have z1 := Z1.out; have z2 := Z2.out; go_simp <;> with_reducible rfl)
      try simp only [Act.put, List.setIfInBounds_toArray, List.set_cons_zero, List.set_cons_succ]
      refine wpAnyH_take (i := 12) (oi := { dst := some 84, op := Go.Op.load 25 (Go.Operand.tmp 4), type := 25, pos := "more.go:27", after := #[{ on := 9, ground := Go.Ground.guard }], guard := some (9, true) }) (v := ?v12) rfl (by kernel_rfl) (by kernel_rfl) (by kernel_rfl) (fun _ _ _ h => h) (Or.inl ⟨by rfl, ?hy12⟩) (by assumption) ?rest12
      case hy12 => (intro w hSw; (try dsimp only at hSw); have ecxb_0 := hSw.cell cxb_0 id; have ecxb_1 := hSw.cell cxb_1 id; have ecxb_3 := hSw.cell cxb_3 id; have ecxb_2 := hSw.cell cxb_2 id; have ecqb0 := hSw.cell cqb0 id; have ecqb1 := hSw.cell cqb1 id; have ecqb2 := hSw.cell cqb2 id; have ecqb3 := hSw.cell cqb3 id; have z1 := Z1.out; have z2 := Z2.out; go_simp <;> with_reducible rfl)
      try simp only [Act.put, List.setIfInBounds_toArray, List.set_cons_zero, List.set_cons_succ]
      refine wpAnyH_ready (rs := [11]) (by kernel_rfl) (by simp) ?_
      refine AllReadyH.cons (o := { dst := some 83, op := Go.Op.call { callee := Go.Callee.value (Go.Operand.func 19), args := #[Go.Operand.tmp 82], argTypes := #[25] }, type := 34, pos := "more.go:27", after := #[{ on := 10, ground := Go.Ground.data }, { on := 9, ground := Go.Ground.chain }, { on := 9, ground := Go.Ground.guard }], guard := some (9, true) }) rfl (fun K hK => ?_) AllReadyH.nil
      go_simp
      refine (of6_any _ (⟨xsrc, xdst, false, xl⟩ : Dg) A5 xl.length _ OKX.out (HB6.out.keep hS0 (fun _ _ _ => id))).mono ?_
      rintro e w8 ⟨rfl, hx⟩
      have hS1 := hS0.trans hx
      clear hx
      refine hK.out _ _ hS1 (fun _ => ?_)
      refine wpAnyH_ready (rs := [13]) (by kernel_rfl) (by simp) ?_
      refine AllReadyH.cons (o := { dst := some 85, op := Go.Op.call { callee := Go.Callee.value (Go.Operand.func 19), args := #[Go.Operand.tmp 84], argTypes := #[25] }, type := 34, pos := "more.go:27", after := #[{ on := 12, ground := Go.Ground.data }, { on := 11, ground := Go.Ground.chain }, { on := 9, ground := Go.Ground.guard }], guard := some (9, true) }) rfl (fun K hK => ?_) AllReadyH.nil
      go_simp
      refine (of6_any _ (⟨xsrc, xdst, false, xl⟩ : Dg) A c _ OKX.out (HM.out.keep hS1 (fun _ _ _ => id))).mono ?_
      rintro e w9 ⟨rfl, hx⟩
      have hS2 := hS1.trans hx
      clear hx
      refine hK.out _ _ hS2 (fun _ => ?_)
      refine wpAnyH_take (i := 14) (oi := { dst := some 86, op := Go.Op.binOp Go.BinOp.eql 34 (Go.Operand.tmp 83) (Go.Operand.tmp 85) 34, type := 4, pos := "more.go:27", after := #[{ on := 11, ground := Go.Ground.data }, { on := 13, ground := Go.Ground.data }, { on := 9, ground := Go.Ground.guard }], guard := some (9, true) }) (v := ?v13) rfl (by kernel_rfl) (by kernel_rfl) (by kernel_rfl) (fun _ _ _ h => h) (Or.inl ⟨by rfl, ?hy13⟩) (by assumption) ?rest13
      case hy13 => (intro w hSw; (try dsimp only at hSw); have ecxb_0 := hSw.cell cxb_0 id; have ecxb_1 := hSw.cell cxb_1 id; have ecxb_3 := hSw.cell cxb_3 id; have ecxb_2 := hSw.cell cxb_2 id; have ecqb0 := hSw.cell cqb0 id; have ecqb1 := hSw.cell cqb1 id; have ecqb2 := hSw.cell cqb2 id; have ecqb3 := hSw.cell cqb3 id; have z1 := Z1.out; have z2 := Z2.out; go_simp <;> with_reducible rfl)
      try simp only [Act.put, List.setIfInBounds_toArray, List.set_cons_zero, List.set_cons_succ]
      refine wpAnyH_take (i := 15) (oi := { dst := some 87, op := Go.Op.pick (Go.Operand.tmp 81) (Go.Operand.tmp 86) (Go.Operand.const (Go.Value.bool false)), type := 4, pos := "more.go:27", after := #[{ on := 9, ground := Go.Ground.data }, { on := 14, ground := Go.Ground.data }], guard := none }) (v := ?v14) rfl (by kernel_rfl) (by kernel_rfl) (by kernel_rfl) (fun _ _ _ h => h) (Or.inl ⟨by rfl, ?hy14⟩) (by assumption) ?rest14
      case hy14 => (intro w hSw; (try dsimp only at hSw); have ecxb_0 := hSw.cell cxb_0 id; have ecxb_1 := hSw.cell cxb_1 id; have ecxb_3 := hSw.cell cxb_3 id; have ecxb_2 := hSw.cell cxb_2 id; have ecqb0 := hSw.cell cqb0 id; have ecqb1 := hSw.cell cqb1 id; have ecqb2 := hSw.cell cqb2 id; have ecqb3 := hSw.cell cqb3 id; have z1 := Z1.out; have z2 := Z2.out; go_simp <;> with_reducible rfl)
      try simp only [Act.put, List.setIfInBounds_toArray, List.set_cons_zero, List.set_cons_succ]
      refine wpAnyH_take (i := 16) (oi := { dst := some 8, op := Go.Op.assign (Go.Operand.tmp 87), type := 4, pos := "more.go:27", after := #[{ on := 15, ground := Go.Ground.data }, { on := 13, ground := Go.Ground.chain }, { on := 0, ground := Go.Ground.phase }, { on := 1, ground := Go.Ground.phase }, { on := 2, ground := Go.Ground.phase }, { on := 3, ground := Go.Ground.phase }, { on := 4, ground := Go.Ground.phase }, { on := 5, ground := Go.Ground.phase }, { on := 6, ground := Go.Ground.phase }, { on := 7, ground := Go.Ground.phase }, { on := 8, ground := Go.Ground.phase }, { on := 9, ground := Go.Ground.phase }, { on := 10, ground := Go.Ground.phase }, { on := 11, ground := Go.Ground.phase }, { on := 12, ground := Go.Ground.phase }, { on := 13, ground := Go.Ground.phase }, { on := 14, ground := Go.Ground.phase }, { on := 15, ground := Go.Ground.phase }], guard := none }) (v := ?v15) rfl (by kernel_rfl) (by kernel_rfl) (by kernel_rfl) (fun _ _ _ h => h) (Or.inl ⟨by rfl, ?hy15⟩) (by assumption) ?rest15
      case hy15 => (intro w hSw; (try dsimp only at hSw); have ecxb_0 := hSw.cell cxb_0 id; have ecxb_1 := hSw.cell cxb_1 id; have ecxb_3 := hSw.cell cxb_3 id; have ecxb_2 := hSw.cell cxb_2 id; have ecqb0 := hSw.cell cqb0 id; have ecqb1 := hSw.cell cqb1 id; have ecqb2 := hSw.cell cqb2 id; have ecqb3 := hSw.cell cqb3 id; have z1 := Z1.out; have z2 := Z2.out; go_simp <;> with_reducible rfl)
      try simp only [Act.put, List.setIfInBounds_toArray, List.set_cons_zero, List.set_cons_succ]
      refine wpAnyH_done (by kernel_rfl) ?_ _
      have hx := hS2
      clear hS0 hS1 hS2 cxb_0 cxb_1 cxb_3 cxb_2 cqb0 cqb1 cqb2 cqb3
      have HX_w9 := Lib.hid hx
      clear hx
      go_wp2_with fail
      go_ret
      exact ⟨rfl, ((((((HX_w1.out.trans HX_w2.out).andThen HX_w3.out (fun i hi e => by have := hb_xb_; omega)).trans HX_w4.out).trans HX_w5.out).trans HX_w6.out).trans HX_w9.out)⟩
    by_cases p2 : o = 0
    ·
      by_cases p3 : s % 65536 = 65535
      ·
        have hal : (o = s % 65536 ∨ (o = 0 ∧ s % 65536 = 65535) ∨ (o = 65535 ∧ s % 65536 = 0)) := by omega
        have her : uerr M (other6 s o) t = none := by rw [HSL.out, if_pos hal]
        have HER := Lib.hid her
        clear her
        have f_o_lo : (o == s % 65536) = false := by rw [beq_eq_false_iff_ne]; omega
        have f_o_0 : (o == 0) = true := by rw [beq_iff_eq]; omega
        have f_s65536_65535 : (s % 65536 == 65535) = true := by rw [beq_iff_eq]; omega
        clear hal
        clear p1 p2 p3
        have hq1 := HQ1.out
        have hw1 := HW1.out
        have hw2 := HW2.out
        have hw3 := HW3.out
        have hw4 := HW4.out
        have hrb := HO4.out.rb
        go_wp2_with fail
        refine (uparse_yes _ (some A4) (8 + xl.length) c4 M (other6 s o) t w4 hrb (fun h => by cases h) (by rw [HML.out]; omega) HO6.out HT.out HER.out).mono ?_
        rintro e w5 ⟨A5, rfl, hb5, hx⟩
        rw [HBK.out] at hb5 ⊢
        have hb5' : RB w5 (fun j => w4.heap.size ≤ j) (.slice A5 xl.length xl.length) xl := hb5
        have hv : dgv (⟨xsrc, xdst, false, xl⟩ : Dg) (.slice A5 (⟨xsrc, xdst, false, xl⟩ : Dg).b.length (⟨xsrc, xdst, false, xl⟩ : Dg).b.length) = .agg #[.int .u16 xsrc, .int .u16 xdst, .bool false, .slice A5 xl.length xl.length] := rfl
        rw [hv]
        clear hv hb5 hq1 hw1 hw2 hw3 hw4 hrb
        have HX_w5 := Lib.hid hx
        clear hx
        have HB5 := Lib.hid hb5'
        clear hb5'
        go_upto_region 6 with fail
        have hx : Ex (fun _ => False) w5 (w5.alloc (.cells #[.int .u16 xsrc, .int .u16 xdst, .bool false, .slice A5 xl.length xl.length] 25)) := (Ex.refl _ w5).alloc _
        have hb : (w5.alloc (.cells #[.int .u16 xsrc, .int .u16 xdst, .bool false, .slice A5 xl.length xl.length] 25)).heap[w5.heap.size]? = some (.cells #[.int .u16 xsrc, .int .u16 xdst, .bool false, .slice A5 xl.length xl.length] 25) := heap_alloc_new w5 _
        obtain ⟨qb, hqb⟩ : ∃ qb, qb = w5.heap.size := ⟨_, rfl⟩
        have hb_qb : w5.heap.size ≤ qb := by omega
        rw [← hqb] at hb
        try simp only [← hqb]
        generalize w5.alloc (.cells #[.int .u16 xsrc, .int .u16 xdst, .bool false, .slice A5 xl.length xl.length] 25) = w6 at hx hb ⊢
        clear hqb
        have HX_w6 := Lib.hid hx
        clear hx
        have B_qb := Lib.hid hb
        clear hb
        replace B_xb_ := Lib.hid ((((HX_w4.out.trans HX_w5.out).trans HX_w6.out).block xb_ (row_lt B_xb_.out) id).trans B_xb_.out)
        have cxb_2 := row_cell (k := 2) (v := .bool false) B_xb_.out rfl
        skip
        go_upto_region 8 with fail
        replace HM := Lib.hid (RB.keep HM.out (((((HX_w1.out.trans HX_w2.out).andThen HX_w3.out (fun i hi e => by have := hb_xb_; omega)).trans HX_w4.out).trans HX_w5.out).trans HX_w6.out) (fun _ _ _ => id))
        have cxb_0 := row_cell (k := 0) (v := .int .u16 xsrc) B_xb_.out rfl
        have cxb_1 := row_cell (k := 1) (v := .int .u16 xdst) B_xb_.out rfl
        have cxb_3 := row_cell (k := 3) (v := .slice A xl.length c) B_xb_.out rfl
        have cqb0 := row_cell (k := 0) (v := .int .u16 xsrc) B_qb.out rfl
        have cqb1 := row_cell (k := 1) (v := .int .u16 xdst) B_qb.out rfl
        have cqb2 := row_cell (k := 2) (v := .bool false) B_qb.out rfl
        have cqb3 := row_cell (k := 3) (v := .slice A5 xl.length xl.length) B_qb.out rfl
        have z1 : ∀ w, (binOp .eql 34 (rdv (⟨xsrc, xdst, false, xl⟩ : Dg)) (rdv (⟨xsrc, xdst, false, xl⟩ : Dg))).run Tryd.prog w = .ok (.bool true) w := fun w => by rw [rdv_eq, Dg.eqB_self]
        have z2 : ∀ w, (eqGuard .eql 34 (.tmp 83) (.tmp 85) (rdv (⟨xsrc, xdst, false, xl⟩ : Dg)) (rdv (⟨xsrc, xdst, false, xl⟩ : Dg))).run Tryd.prog w = .ok () w := fun w => rdv_guard .eql (.tmp 83) (.tmp 85) _ _ w
        have Z1 := Lib.hid z1
        have Z2 := Lib.hid z2
        have hb6 : RB w6 (fun j => w4.heap.size ≤ j) (.slice A5 xl.length xl.length) xl := HB5.out.keep HX_w6.out (fun _ _ _ => id)
        have HB6 := Lib.hid hb6
        have hS0 : Ex (fun _ => False) w6 w6.drew := (Ex.refl _ w6).drew
        clear z1 z2 hb6
        refine wp_region_held_drew (S := fun W => Ex (fun _ => False) w6 W) (by kernel_rfl) hS0 (fun _ => ?_)
        refine wpAnyH_take (i := 0) (oi := { dst := some 72, op := Go.Op.move (Go.Operand.tmp 9), type := 4, pos := "more.go:27", after := #[], guard := none }) (v := ?v16) rfl (by kernel_rfl) (by kernel_rfl) (by kernel_rfl) (fun _ _ _ h => h) (Or.inl ⟨by rfl, ?hy16⟩) (by assumption) ?rest16
        case hy16 => (intro w hSw; (try dsimp only at hSw); have ecxb_0 := hSw.cell cxb_0 id; have ecxb_1 := hSw.cell cxb_1 id; have ecxb_3 := hSw.cell cxb_3 id; have ecxb_2 := hSw.cell cxb_2 id; have ecqb0 := hSw.cell cqb0 id; have ecqb1 := hSw.cell cqb1 id; have ecqb2 := hSw.cell cqb2 id; have ecqb3 := hSw.cell cqb3 id; have z1 := Z1.out; have z2 := Z2.out; go_simp <;> with_reducible rfl)
        try simp only [Act.put, List.setIfInBounds_toArray, List.set_cons_zero, List.set_cons_succ]
        refine wpAnyH_take (i := 1) (oi := { dst := some 73, op := Go.Op.move (Go.Operand.tmp 72), type := 4, pos := "more.go:27", after := #[{ on := 0, ground := Go.Ground.data }], guard := none }) (v := ?v17) rfl (by kernel_rfl) (by kernel_rfl) (by kernel_rfl) (fun _ _ _ h => h) (Or.inl ⟨by rfl, ?hy17⟩) (by assumption) ?rest17
        case hy17 => (intro w hSw; (try dsimp only at hSw); have ecxb_0 := hSw.cell cxb_0 id; have ecxb_1 := hSw.cell cxb_1 id; have ecxb_3 := hSw.cell cxb_3 id; have ecxb_2 := hSw.cell cxb_2 id; have ecqb0 := hSw.cell cqb0 id; have ecqb1 := hSw.cell cqb1 id; have ecqb2 := hSw.cell cqb2 id; have ecqb3 := hSw.cell cqb3 id; have z1 := Z1.out; have z2 := Z2.out; go_simp <;> with_reducible rfl)
        try simp only [Act.put, List.setIfInBounds_toArray, List.set_cons_zero, List.set_cons_succ]
        refine wpAnyH_take (i := 2) (oi := { dst := some 74, op := Go.Op.move (Go.Operand.tmp 11), type := 29, pos := "more.go:27", after := #[{ on := 1, ground := Go.Ground.guard }], guard := some (1, true) }) (v := ?v18) rfl (by kernel_rfl) (by kernel_rfl) (by kernel_rfl) (fun _ _ _ h => h) (Or.inl ⟨by rfl, ?hy18⟩) (by assumption) ?rest18
        case hy18 => (intro w hSw; (try dsimp only at hSw); have ecxb_0 := hSw.cell cxb_0 id; have ecxb_1 := hSw.cell cxb_1 id; have ecxb_3 := hSw.cell cxb_3 id; have ecxb_2 := hSw.cell cxb_2 id; have ecqb0 := hSw.cell cqb0 id; have ecqb1 := hSw.cell cqb1 id; have ecqb2 := hSw.cell cqb2 id; have ecqb3 := hSw.cell cqb3 id; have z1 := Z1.out; have z2 := Z2.out; go_simp <;> with_reducible rfl)
        try simp only [Act.put, List.setIfInBounds_toArray, List.set_cons_zero, List.set_cons_succ]
        refine wpAnyH_take (i := 3) (oi := { dst := some 75, op := Go.Op.binOp Go.BinOp.eql 29 (Go.Operand.tmp 74) (Go.Operand.const Go.Value.nilIface) 29, type := 4, pos := "more.go:27", after := #[{ on := 2, ground := Go.Ground.data }, { on := 1, ground := Go.Ground.guard }], guard := some (1, true) }) (v := ?v19) rfl (by kernel_rfl) (by kernel_rfl) (by kernel_rfl) (fun _ _ _ h => h) (Or.inl ⟨by rfl, ?hy19⟩) (by assumption) ?rest19
        case hy19 => (intro w hSw; (try dsimp only at hSw); have ecxb_0 := hSw.cell cxb_0 id; have ecxb_1 := hSw.cell cxb_1 id; have ecxb_3 := hSw.cell cxb_3 id; have ecxb_2 := hSw.cell cxb_2 id; have ecqb0 := hSw.cell cqb0 id; have ecqb1 := hSw.cell cqb1 id; have ecqb2 := hSw.cell cqb2 id; have ecqb3 := hSw.cell cqb3 id; have z1 := Z1.out; have z2 := Z2.out; go_simp <;> with_reducible rfl)
        try simp only [Act.put, List.setIfInBounds_toArray, List.set_cons_zero, List.set_cons_succ]
        refine wpAnyH_take (i := 4) (oi := { dst := some 76, op := Go.Op.pick (Go.Operand.tmp 73) (Go.Operand.tmp 75) (Go.Operand.const (Go.Value.bool false)), type := 4, pos := "more.go:27", after := #[{ on := 1, ground := Go.Ground.data }, { on := 3, ground := Go.Ground.data }], guard := none }) (v := ?v20) rfl (by kernel_rfl) (by kernel_rfl) (by kernel_rfl) (fun _ _ _ h => h) (Or.inl ⟨by rfl, ?hy20⟩) (by assumption) ?rest20
        case hy20 => (intro w hSw; (try dsimp only at hSw); have ecxb_0 := hSw.cell cxb_0 id; have ecxb_1 := hSw.cell cxb_1 id; have ecxb_3 := hSw.cell cxb_3 id; have ecxb_2 := hSw.cell cxb_2 id; have ecqb0 := hSw.cell cqb0 id; have ecqb1 := hSw.cell cqb1 id; have ecqb2 := hSw.cell cqb2 id; have ecqb3 := hSw.cell cqb3 id; have z1 := Z1.out; have z2 := Z2.out; go_simp <;> with_reducible rfl)
        try simp only [Act.put, List.setIfInBounds_toArray, List.set_cons_zero, List.set_cons_succ]
        refine wpAnyH_take (i := 5) (oi := { dst := some 77, op := Go.Op.move (Go.Operand.tmp 76), type := 4, pos := "more.go:27", after := #[{ on := 4, ground := Go.Ground.data }, { on := 1, ground := Go.Ground.chain }], guard := none }) (v := ?v21) rfl (by kernel_rfl) (by kernel_rfl) (by kernel_rfl) (fun _ _ _ h => h) (Or.inl ⟨by rfl, ?hy21⟩) (by assumption) ?rest21
        case hy21 => (intro w hSw; (try dsimp only at hSw); have ecxb_0 := hSw.cell cxb_0 id; have ecxb_1 := hSw.cell cxb_1 id; have ecxb_3 := hSw.cell cxb_3 id; have ecxb_2 := hSw.cell cxb_2 id; have ecqb0 := hSw.cell cqb0 id; have ecqb1 := hSw.cell cqb1 id; have ecqb2 := hSw.cell cqb2 id; have ecqb3 := hSw.cell cqb3 id; have z1 := Z1.out; have z2 := Z2.out; go_simp <;> with_reducible rfl)
        try simp only [Act.put, List.setIfInBounds_toArray, List.set_cons_zero, List.set_cons_succ]
        refine wpAnyH_take (i := 6) (oi := { dst := some 78, op := Go.Op.move (Go.Operand.tmp 14), type := 29, pos := "more.go:27", after := #[{ on := 5, ground := Go.Ground.guard }], guard := some (5, true) }) (v := ?v22) rfl (by kernel_rfl) (by kernel_rfl) (by kernel_rfl) (fun _ _ _ h => h) (Or.inl ⟨by rfl, ?hy22⟩) (by assumption) ?rest22
        case hy22 => (intro w hSw; (try dsimp only at hSw); have ecxb_0 := hSw.cell cxb_0 id; have ecxb_1 := hSw.cell cxb_1 id; have ecxb_3 := hSw.cell cxb_3 id; have ecxb_2 := hSw.cell cxb_2 id; have ecqb0 := hSw.cell cqb0 id; have ecqb1 := hSw.cell cqb1 id; have ecqb2 := hSw.cell cqb2 id; have ecqb3 := hSw.cell cqb3 id; have z1 := Z1.out; have z2 := Z2.out; go_simp <;> with_reducible rfl)
        try simp only [Act.put, List.setIfInBounds_toArray, List.set_cons_zero, List.set_cons_succ]
        refine wpAnyH_take (i := 7) (oi := { dst := some 79, op := Go.Op.binOp Go.BinOp.eql 29 (Go.Operand.tmp 78) (Go.Operand.const Go.Value.nilIface) 29, type := 4, pos := "more.go:27", after := #[{ on := 6, ground := Go.Ground.data }, { on := 5, ground := Go.Ground.guard }], guard := some (5, true) }) (v := ?v23) rfl (by kernel_rfl) (by kernel_rfl) (by kernel_rfl) (fun _ _ _ h => h) (Or.inl ⟨by rfl, ?hy23⟩) (by assumption) ?rest23
        case hy23 => (intro w hSw; (try dsimp only at hSw); have ecxb_0 := hSw.cell cxb_0 id; have ecxb_1 := hSw.cell cxb_1 id; have ecxb_3 := hSw.cell cxb_3 id; have ecxb_2 := hSw.cell cxb_2 id; have ecqb0 := hSw.cell cqb0 id; have ecqb1 := hSw.cell cqb1 id; have ecqb2 := hSw.cell cqb2 id; have ecqb3 := hSw.cell cqb3 id; have z1 := Z1.out; have z2 := Z2.out; go_simp <;> with_reducible rfl)
        try simp only [Act.put, List.setIfInBounds_toArray, List.set_cons_zero, List.set_cons_succ]
        refine wpAnyH_take (i := 8) (oi := { dst := some 80, op := Go.Op.pick (Go.Operand.tmp 77) (Go.Operand.tmp 79) (Go.Operand.const (Go.Value.bool false)), type := 4, pos := "more.go:27", after := #[{ on := 5, ground := Go.Ground.data }, { on := 7, ground := Go.Ground.data }], guard := none }) (v := ?v24) rfl (by kernel_rfl) (by kernel_rfl) (by kernel_rfl) (fun _ _ _ h => h) (Or.inl ⟨by rfl, ?hy24⟩) (by assumption) ?rest24
        case hy24 => (intro w hSw; (try dsimp only at hSw); have ecxb_0 := hSw.cell cxb_0 id; have ecxb_1 := hSw.cell cxb_1 id; have ecxb_3 := hSw.cell cxb_3 id; have ecxb_2 := hSw.cell cxb_2 id; have ecqb0 := hSw.cell cqb0 id; have ecqb1 := hSw.cell cqb1 id; have ecqb2 := hSw.cell cqb2 id; have ecqb3 := hSw.cell cqb3 id; have z1 := Z1.out; have z2 := Z2.out; go_simp <;> with_reducible rfl)
        try simp only [Act.put, List.setIfInBounds_toArray, List.set_cons_zero, List.set_cons_succ]
        refine wpAnyH_take (i := 9) (oi := { dst := some 81, op := Go.Op.move (Go.Operand.tmp 80), type := 4, pos := "more.go:27", after := #[{ on := 8, ground := Go.Ground.data }, { on := 5, ground := Go.Ground.chain }], guard := none }) (v := ?v25) rfl (by kernel_rfl) (by kernel_rfl) (by kernel_rfl) (fun _ _ _ h => h) (Or.inl ⟨by rfl, ?hy25⟩) (by assumption) ?rest25
        case hy25 => (intro w hSw; (try dsimp only at hSw); have ecxb_0 := hSw.cell cxb_0 id; have ecxb_1 := hSw.cell cxb_1 id; have ecxb_3 := hSw.cell cxb_3 id; have ecxb_2 := hSw.cell cxb_2 id; have ecqb0 := hSw.cell cqb0 id; have ecqb1 := hSw.cell cqb1 id; have ecqb2 := hSw.cell cqb2 id; have ecqb3 := hSw.cell cqb3 id; have z1 := Z1.out; have z2 := Z2.out; go_simp <;> with_reducible rfl)
        try simp only [Act.put, List.setIfInBounds_toArray, List.set_cons_zero, List.set_cons_succ]
        refine wpAnyH_take (i := 10) (oi := { dst := some 82, op := Go.Op.load 25 (Go.Operand.tmp 13), type := 25, pos := "more.go:27", after := #[{ on := 9, ground := Go.Ground.guard }], guard := some (9, true) }) (v := ?v26) rfl (by kernel_rfl) (by kernel_rfl) (by kernel_rfl) (fun _ _ _ h => h) (Or.inl ⟨by rfl, ?hy26⟩) (by assumption) ?rest26
        case hy26 => (intro w hSw; (try dsimp only at hSw); have ecxb_0 := hSw.cell cxb_0 id; have ecxb_1 := hSw.cell cxb_1 id; have ecxb_3 := hSw.cell cxb_3 id; have ecxb_2 := hSw.cell cxb_2 id; have ecqb0 := hSw.cell cqb0 id; have ecqb1 := hSw.cell cqb1 id; have ecqb2 := hSw.cell cqb2 id; have ecqb3 := hSw.cell cqb3 id; have z1 := Z1.out; have z2 := Z2.out; go_simp <;> with_reducible rfl)
        try simp only [Act.put, List.setIfInBounds_toArray, List.set_cons_zero, List.set_cons_succ]
        refine wpAnyH_take (i := 12) (oi := { dst := some 84, op := Go.Op.load 25 (Go.Operand.tmp 4), type := 25, pos := "more.go:27", after := #[{ on := 9, ground := Go.Ground.guard }], guard := some (9, true) }) (v := ?v27) rfl (by kernel_rfl) (by kernel_rfl) (by kernel_rfl) (fun _ _ _ h => h) (Or.inl ⟨by rfl, ?hy27⟩) (by assumption) ?rest27
        case hy27 => (intro w hSw; (try dsimp only at hSw); have ecxb_0 := hSw.cell cxb_0 id; have ecxb_1 := hSw.cell cxb_1 id; have ecxb_3 := hSw.cell cxb_3 id; have ecxb_2 := hSw.cell cxb_2 id; have ecqb0 := hSw.cell cqb0 id; have ecqb1 := hSw.cell cqb1 id; have ecqb2 := hSw.cell cqb2 id; have ecqb3 := hSw.cell cqb3 id; have z1 := Z1.out; have z2 := Z2.out; go_simp <;> with_reducible rfl)
        try simp only [Act.put, List.setIfInBounds_toArray, List.set_cons_zero, List.set_cons_succ]
        refine wpAnyH_ready (rs := [11]) (by kernel_rfl) (by simp) ?_
        refine AllReadyH.cons (o := { dst := some 83, op := Go.Op.call { callee := Go.Callee.value (Go.Operand.func 19), args := #[Go.Operand.tmp 82], argTypes := #[25] }, type := 34, pos := "more.go:27", after := #[{ on := 10, ground := Go.Ground.data }, { on := 9, ground := Go.Ground.chain }, { on := 9, ground := Go.Ground.guard }], guard := some (9, true) }) rfl (fun K hK => ?_) AllReadyH.nil
        go_simp
        refine (of6_any _ (⟨xsrc, xdst, false, xl⟩ : Dg) A5 xl.length _ OKX.out (HB6.out.keep hS0 (fun _ _ _ => id))).mono ?_
        rintro e w8 ⟨rfl, hx⟩
        have hS1 := hS0.trans hx
        clear hx
        refine hK.out _ _ hS1 (fun _ => ?_)
        refine wpAnyH_ready (rs := [13]) (by kernel_rfl) (by simp) ?_
        refine AllReadyH.cons (o := { dst := some 85, op := Go.Op.call { callee := Go.Callee.value (Go.Operand.func 19), args := #[Go.Operand.tmp 84], argTypes := #[25] }, type := 34, pos := "more.go:27", after := #[{ on := 12, ground := Go.Ground.data }, { on := 11, ground := Go.Ground.chain }, { on := 9, ground := Go.Ground.guard }], guard := some (9, true) }) rfl (fun K hK => ?_) AllReadyH.nil
        go_simp
        refine (of6_any _ (⟨xsrc, xdst, false, xl⟩ : Dg) A c _ OKX.out (HM.out.keep hS1 (fun _ _ _ => id))).mono ?_
        rintro e w9 ⟨rfl, hx⟩
        have hS2 := hS1.trans hx
        clear hx
        refine hK.out _ _ hS2 (fun _ => ?_)
        refine wpAnyH_take (i := 14) (oi := { dst := some 86, op := Go.Op.binOp Go.BinOp.eql 34 (Go.Operand.tmp 83) (Go.Operand.tmp 85) 34, type := 4, pos := "more.go:27", after := #[{ on := 11, ground := Go.Ground.data }, { on := 13, ground := Go.Ground.data }, { on := 9, ground := Go.Ground.guard }], guard := some (9, true) }) (v := ?v28) rfl (by kernel_rfl) (by kernel_rfl) (by kernel_rfl) (fun _ _ _ h => h) (Or.inl ⟨by rfl, ?hy28⟩) (by assumption) ?rest28
        case hy28 => (intro w hSw; (try dsimp only at hSw); have ecxb_0 := hSw.cell cxb_0 id; have ecxb_1 := hSw.cell cxb_1 id; have ecxb_3 := hSw.cell cxb_3 id; have ecxb_2 := hSw.cell cxb_2 id; have ecqb0 := hSw.cell cqb0 id; have ecqb1 := hSw.cell cqb1 id; have ecqb2 := hSw.cell cqb2 id; have ecqb3 := hSw.cell cqb3 id; have z1 := Z1.out; have z2 := Z2.out; go_simp <;> with_reducible rfl)
        try simp only [Act.put, List.setIfInBounds_toArray, List.set_cons_zero, List.set_cons_succ]
        refine wpAnyH_take (i := 15) (oi := { dst := some 87, op := Go.Op.pick (Go.Operand.tmp 81) (Go.Operand.tmp 86) (Go.Operand.const (Go.Value.bool false)), type := 4, pos := "more.go:27", after := #[{ on := 9, ground := Go.Ground.data }, { on := 14, ground := Go.Ground.data }], guard := none }) (v := ?v29) rfl (by kernel_rfl) (by kernel_rfl) (by kernel_rfl) (fun _ _ _ h => h) (Or.inl ⟨by rfl, ?hy29⟩) (by assumption) ?rest29
        case hy29 => (intro w hSw; (try dsimp only at hSw); have ecxb_0 := hSw.cell cxb_0 id; have ecxb_1 := hSw.cell cxb_1 id; have ecxb_3 := hSw.cell cxb_3 id; have ecxb_2 := hSw.cell cxb_2 id; have ecqb0 := hSw.cell cqb0 id; have ecqb1 := hSw.cell cqb1 id; have ecqb2 := hSw.cell cqb2 id; have ecqb3 := hSw.cell cqb3 id; have z1 := Z1.out; have z2 := Z2.out; go_simp <;> with_reducible rfl)
        try simp only [Act.put, List.setIfInBounds_toArray, List.set_cons_zero, List.set_cons_succ]
        refine wpAnyH_take (i := 16) (oi := { dst := some 8, op := Go.Op.assign (Go.Operand.tmp 87), type := 4, pos := "more.go:27", after := #[{ on := 15, ground := Go.Ground.data }, { on := 13, ground := Go.Ground.chain }, { on := 0, ground := Go.Ground.phase }, { on := 1, ground := Go.Ground.phase }, { on := 2, ground := Go.Ground.phase }, { on := 3, ground := Go.Ground.phase }, { on := 4, ground := Go.Ground.phase }, { on := 5, ground := Go.Ground.phase }, { on := 6, ground := Go.Ground.phase }, { on := 7, ground := Go.Ground.phase }, { on := 8, ground := Go.Ground.phase }, { on := 9, ground := Go.Ground.phase }, { on := 10, ground := Go.Ground.phase }, { on := 11, ground := Go.Ground.phase }, { on := 12, ground := Go.Ground.phase }, { on := 13, ground := Go.Ground.phase }, { on := 14, ground := Go.Ground.phase }, { on := 15, ground := Go.Ground.phase }], guard := none }) (v := ?v30) rfl (by kernel_rfl) (by kernel_rfl) (by kernel_rfl) (fun _ _ _ h => h) (Or.inl ⟨by rfl, ?hy30⟩) (by assumption) ?rest30
        case hy30 => (intro w hSw; (try dsimp only at hSw); have ecxb_0 := hSw.cell cxb_0 id; have ecxb_1 := hSw.cell cxb_1 id; have ecxb_3 := hSw.cell cxb_3 id; have ecxb_2 := hSw.cell cxb_2 id; have ecqb0 := hSw.cell cqb0 id; have ecqb1 := hSw.cell cqb1 id; have ecqb2 := hSw.cell cqb2 id; have ecqb3 := hSw.cell cqb3 id; have z1 := Z1.out; have z2 := Z2.out; go_simp <;> with_reducible rfl)
        try simp only [Act.put, List.setIfInBounds_toArray, List.set_cons_zero, List.set_cons_succ]
        refine wpAnyH_done (by kernel_rfl) ?_ _
        have hx := hS2
        clear hS0 hS1 hS2 cxb_0 cxb_1 cxb_3 cxb_2 cqb0 cqb1 cqb2 cqb3
        have HX_w9 := Lib.hid hx
        clear hx
        go_wp2_with fail
        go_ret
        exact ⟨rfl, ((((((HX_w1.out.trans HX_w2.out).andThen HX_w3.out (fun i hi e => by have := hb_xb_; omega)).trans HX_w4.out).trans HX_w5.out).trans HX_w6.out).trans HX_w9.out)⟩
      ·
        have hal : ¬ (o = s % 65536 ∨ (o = 0 ∧ s % 65536 = 65535) ∨ (o = 65535 ∧ s % 65536 = 0)) := by omega
        have her : uerr M (other6 s o) t = some ([lay6], 4) := by rw [HSL.out, if_neg hal]
        have HER := Lib.hid her
        clear her
        have f_o_lo : (o == s % 65536) = false := by rw [beq_eq_false_iff_ne]; omega
        have f_o_0 : (o == 0) = true := by rw [beq_iff_eq]; omega
        have f_s65536_65535 : (s % 65536 == 65535) = false := by rw [beq_eq_false_iff_ne]; omega
        have f_o_65535 : (o == 65535) = false := by rw [beq_eq_false_iff_ne]; omega
        clear hal
        clear p1 p2 p3
        have hq1 := HQ1.out
        have hw1 := HW1.out
        have hw2 := HW2.out
        have hw3 := HW3.out
        have hw4 := HW4.out
        have hrb := HO4.out.rb
        go_wp2_with fail
        refine (uparse_no _ (some A4) (8 + xl.length) c4 M (other6 s o) t w4 hrb (fun h => by cases h) (by rw [HML.out]; omega) HO6.out HT.out [lay6] 4 HER.out).mono ?_
        rintro e w5 ⟨v5, rfl, he, hx⟩
        obtain ⟨t5, y5, rfl⟩ := he.shape
        have hv : dgv zdg (.slice none 0 0) = .agg #[.int .u16 0, .int .u16 0, .bool false, .slice none 0 0] := rfl
        rw [hv]
        clear hv hq1 hw1 hw2 hw3 hw4 hrb
        have HX_w5 := Lib.hid hx
        clear hx
        have HE5 := Lib.hid he
        clear he
        go_upto_region 6 with fail
        have hx : Ex (fun _ => False) w5 (w5.alloc (.cells #[.int .u16 0, .int .u16 0, .bool false, .slice none 0 0] 25)) := (Ex.refl _ w5).alloc _
        have hb : (w5.alloc (.cells #[.int .u16 0, .int .u16 0, .bool false, .slice none 0 0] 25)).heap[w5.heap.size]? = some (.cells #[.int .u16 0, .int .u16 0, .bool false, .slice none 0 0] 25) := heap_alloc_new w5 _
        obtain ⟨qb, hqb⟩ : ∃ qb, qb = w5.heap.size := ⟨_, rfl⟩
        have hb_qb : w5.heap.size ≤ qb := by omega
        rw [← hqb] at hb
        try simp only [← hqb]
        generalize w5.alloc (.cells #[.int .u16 0, .int .u16 0, .bool false, .slice none 0 0] 25) = w6 at hx hb ⊢
        clear hqb
        have HX_w6 := Lib.hid hx
        clear hx
        have B_qb := Lib.hid hb
        clear hb
        replace B_xb_ := Lib.hid ((((HX_w4.out.trans HX_w5.out).trans HX_w6.out).block xb_ (row_lt B_xb_.out) id).trans B_xb_.out)
        have cxb_2 := row_cell (k := 2) (v := .bool false) B_xb_.out rfl
        skip
        go_wp2_with fail
        refine (code_any _ [lay6] 4 _ w6 (EC.keep HX_w6.out (fun _ _ => id) HE5.out) (HG.out.keep (((((HX_w1.out.trans HX_w2.out).andThen HX_w3.out (fun i hi e => by have := hb_xb_; omega)).trans HX_w4.out).trans HX_w5.out).trans HX_w6.out) id)).mono ?_
        rintro e w7 ⟨rfl, hx⟩
        have HX_w7 := Lib.hid hx
        clear hx
        go_wp2_with fail
        go_ret
        exact ⟨rfl, ((((((HX_w1.out.trans HX_w2.out).andThen HX_w3.out (fun i hi e => by have := hb_xb_; omega)).trans HX_w4.out).trans HX_w5.out).trans HX_w6.out).trans HX_w7.out)⟩
    by_cases p3 : o = 65535
    ·
      by_cases p4 : s % 65536 = 0
      ·
        have hal : (o = s % 65536 ∨ (o = 0 ∧ s % 65536 = 65535) ∨ (o = 65535 ∧ s % 65536 = 0)) := by omega
        have her : uerr M (other6 s o) t = none := by rw [HSL.out, if_pos hal]
        have HER := Lib.hid her
        clear her
        have f_o_lo : (o == s % 65536) = false := by rw [beq_eq_false_iff_ne]; omega
        have f_o_0 : (o == 0) = false := by rw [beq_eq_false_iff_ne]; omega
        have f_o_65535 : (o == 65535) = true := by rw [beq_iff_eq]; omega
        have f_s65536_0 : (s % 65536 == 0) = true := by rw [beq_iff_eq]; omega
        clear hal
        clear p1 p2 p3 p4
        have hq1 := HQ1.out
        have hw1 := HW1.out
        have hw2 := HW2.out
        have hw3 := HW3.out
        have hw4 := HW4.out
        have hrb := HO4.out.rb
        go_wp2_with fail
        refine (uparse_yes _ (some A4) (8 + xl.length) c4 M (other6 s o) t w4 hrb (fun h => by cases h) (by rw [HML.out]; omega) HO6.out HT.out HER.out).mono ?_
        rintro e w5 ⟨A5, rfl, hb5, hx⟩
        rw [HBK.out] at hb5 ⊢
        have hb5' : RB w5 (fun j => w4.heap.size ≤ j) (.slice A5 xl.length xl.length) xl := hb5
        have hv : dgv (⟨xsrc, xdst, false, xl⟩ : Dg) (.slice A5 (⟨xsrc, xdst, false, xl⟩ : Dg).b.length (⟨xsrc, xdst, false, xl⟩ : Dg).b.length) = .agg #[.int .u16 xsrc, .int .u16 xdst, .bool false, .slice A5 xl.length xl.length] := rfl
        rw [hv]
        clear hv hb5 hq1 hw1 hw2 hw3 hw4 hrb
        have HX_w5 := Lib.hid hx
        clear hx
        have HB5 := Lib.hid hb5'
        clear hb5'
        go_upto_region 6 with fail
        have hx : Ex (fun _ => False) w5 (w5.alloc (.cells #[.int .u16 xsrc, .int .u16 xdst, .bool false, .slice A5 xl.length xl.length] 25)) := (Ex.refl _ w5).alloc _
        have hb : (w5.alloc (.cells #[.int .u16 xsrc, .int .u16 xdst, .bool false, .slice A5 xl.length xl.length] 25)).heap[w5.heap.size]? = some (.cells #[.int .u16 xsrc, .int .u16 xdst, .bool false, .slice A5 xl.length xl.length] 25) := heap_alloc_new w5 _
        obtain ⟨qb, hqb⟩ : ∃ qb, qb = w5.heap.size := ⟨_, rfl⟩
        have hb_qb : w5.heap.size ≤ qb := by omega
        rw [← hqb] at hb
        try simp only [← hqb]
        generalize w5.alloc (.cells #[.int .u16 xsrc, .int .u16 xdst, .bool false, .slice A5 xl.length xl.length] 25) = w6 at hx hb ⊢
        clear hqb
        have HX_w6 := Lib.hid hx
        clear hx
        have B_qb := Lib.hid hb
        clear hb
        replace B_xb_ := Lib.hid ((((HX_w4.out.trans HX_w5.out).trans HX_w6.out).block xb_ (row_lt B_xb_.out) id).trans B_xb_.out)
        have cxb_2 := row_cell (k := 2) (v := .bool false) B_xb_.out rfl
        skip
        go_upto_region 8 with fail
        replace HM := Lib.hid (RB.keep HM.out (((((HX_w1.out.trans HX_w2.out).andThen HX_w3.out (fun i hi e => by have := hb_xb_; omega)).trans HX_w4.out).trans HX_w5.out).trans HX_w6.out) (fun _ _ _ => id))
        have cxb_0 := row_cell (k := 0) (v := .int .u16 xsrc) B_xb_.out rfl
        have cxb_1 := row_cell (k := 1) (v := .int .u16 xdst) B_xb_.out rfl
        have cxb_3 := row_cell (k := 3) (v := .slice A xl.length c) B_xb_.out rfl
        have cqb0 := row_cell (k := 0) (v := .int .u16 xsrc) B_qb.out rfl
        have cqb1 := row_cell (k := 1) (v := .int .u16 xdst) B_qb.out rfl
        have cqb2 := row_cell (k := 2) (v := .bool false) B_qb.out rfl
        have cqb3 := row_cell (k := 3) (v := .slice A5 xl.length xl.length) B_qb.out rfl
        have z1 : ∀ w, (binOp .eql 34 (rdv (⟨xsrc, xdst, false, xl⟩ : Dg)) (rdv (⟨xsrc, xdst, false, xl⟩ : Dg))).run Tryd.prog w = .ok (.bool true) w := fun w => by rw [rdv_eq, Dg.eqB_self]
        have z2 : ∀ w, (eqGuard .eql 34 (.tmp 83) (.tmp 85) (rdv (⟨xsrc, xdst, false, xl⟩ : Dg)) (rdv (⟨xsrc, xdst, false, xl⟩ : Dg))).run Tryd.prog w = .ok () w := fun w => rdv_guard .eql (.tmp 83) (.tmp 85) _ _ w
        have Z1 := Lib.hid z1
        have Z2 := Lib.hid z2
        have hb6 : RB w6 (fun j => w4.heap.size ≤ j) (.slice A5 xl.length xl.length) xl := HB5.out.keep HX_w6.out (fun _ _ _ => id)
        have HB6 := Lib.hid hb6
        have hS0 : Ex (fun _ => False) w6 w6.drew := (Ex.refl _ w6).drew
        clear z1 z2 hb6
        refine wp_region_held_drew (S := fun W => Ex (fun _ => False) w6 W) (by kernel_rfl) hS0 (fun _ => ?_)
        refine wpAnyH_take (i := 0) (oi := { dst := some 72, op := Go.Op.move (Go.Operand.tmp 9), type := 4, pos := "more.go:27", after := #[], guard := none }) (v := ?v31) rfl (by kernel_rfl) (by kernel_rfl) (by kernel_rfl) (fun _ _ _ h => h) (Or.inl ⟨by rfl, ?hy31⟩) (by assumption) ?rest31
        case hy31 => (intro w hSw; (try dsimp only at hSw); have ecxb_0 := hSw.cell cxb_0 id; have ecxb_1 := hSw.cell cxb_1 id; have ecxb_3 := hSw.cell cxb_3 id; have ecxb_2 := hSw.cell cxb_2 id; have ecqb0 := hSw.cell cqb0 id; have ecqb1 := hSw.cell cqb1 id; have ecqb2 := hSw.cell cqb2 id; have ecqb3 := hSw.cell cqb3 id; have z1 := Z1.out; have z2 := Z2.out; go_simp <;> with_reducible rfl)
        try simp only [Act.put, List.setIfInBounds_toArray, List.set_cons_zero, List.set_cons_succ]
        refine wpAnyH_take (i := 1) (oi := { dst := some 73, op := Go.Op.move (Go.Operand.tmp 72), type := 4, pos := "more.go:27", after := #[{ on := 0, ground := Go.Ground.data }], guard := none }) (v := ?v32) rfl (by kernel_rfl) (by kernel_rfl) (by kernel_rfl) (fun _ _ _ h => h) (Or.inl ⟨by rfl, ?hy32⟩) (by assumption) ?rest32
        case hy32 => (intro w hSw; (try dsimp only at hSw); have ecxb_0 := hSw.cell cxb_0 id; have ecxb_1 := hSw.cell cxb_1 id; have ecxb_3 := hSw.cell cxb_3 id; have ecxb_2 := hSw.cell cxb_2 id; have ecqb0 := hSw.cell cqb0 id; have ecqb1 := hSw.cell cqb1 id; have ecqb2 := hSw.cell cqb2 id; have ecqb3 := hSw.cell cqb3 id; have z1 := Z1.out; have z2 := Z2.out; go_simp <;> with_reducible rfl)
        try simp only [Act.put, List.setIfInBounds_toArray, List.set_cons_zero, List.set_cons_succ]
        refine wpAnyH_take (i := 2) (oi := { dst := some 74, op := Go.Op.move (Go.Operand.tmp 11), type := 29, pos := "more.go:27", after := #[{ on := 1, ground := Go.Ground.guard }], guard := some (1, true) }) (v := ?v33) rfl (by kernel_rfl) (by kernel_rfl) (by kernel_rfl) (fun _ _ _ h => h) (Or.inl ⟨by rfl, ?hy33⟩) (by assumption) ?rest33
        case hy33 => (intro w hSw; (try dsimp only at hSw); have ecxb_0 := hSw.cell cxb_0 id; have ecxb_1 := hSw.cell cxb_1 id; have ecxb_3 := hSw.cell cxb_3 id; have ecxb_2 := hSw.cell cxb_2 id; have ecqb0 := hSw.cell cqb0 id; have ecqb1 := hSw.cell cqb1 id; have ecqb2 := hSw.cell cqb2 id; have ecqb3 := hSw.cell cqb3 id; have z1 := Z1.out; have z2 := Z2.out; go_simp <;> with_reducible rfl)
        try simp only [Act.put, List.setIfInBounds_toArray, List.set_cons_zero, List.set_cons_succ]
        refine wpAnyH_take (i := 3) (oi := { dst := some 75, op := Go.Op.binOp Go.BinOp.eql 29 (Go.Operand.tmp 74) (Go.Operand.const Go.Value.nilIface) 29, type := 4, pos := "more.go:27", after := #[{ on := 2, ground := Go.Ground.data }, { on := 1, ground := Go.Ground.guard }], guard := some (1, true) }) (v := ?v34) rfl (by kernel_rfl) (by kernel_rfl) (by kernel_rfl) (fun _ _ _ h => h) (Or.inl ⟨by rfl, ?hy34⟩) (by assumption) ?rest34
        case hy34 => (intro w hSw; (try dsimp only at hSw); have ecxb_0 := hSw.cell cxb_0 id; have ecxb_1 := hSw.cell cxb_1 id; have ecxb_3 := hSw.cell cxb_3 id; have ecxb_2 := hSw.cell cxb_2 id; have ecqb0 := hSw.cell cqb0 id; have ecqb1 := hSw.cell cqb1 id; have ecqb2 := hSw.cell cqb2 id; have ecqb3 := hSw.cell cqb3 id; have z1 := Z1.out; have z2 := Z2.out; go_simp <;> with_reducible rfl)
        try simp only [Act.put, List.setIfInBounds_toArray, List.set_cons_zero, List.set_cons_succ]
        refine wpAnyH_take (i := 4) (oi := { dst := some 76, op := Go.Op.pick (Go.Operand.tmp 73) (Go.Operand.tmp 75) (Go.Operand.const (Go.Value.bool false)), type := 4, pos := "more.go:27", after := #[{ on := 1, ground := Go.Ground.data }, { on := 3, ground := Go.Ground.data }], guard := none }) (v := ?v35) rfl (by kernel_rfl) (by kernel_rfl) (by kernel_rfl) (fun _ _ _ h => h) (Or.inl ⟨by rfl, ?hy35⟩) (by assumption) ?rest35
        case hy35 => (intro w hSw; (try dsimp only at hSw); have ecxb_0 := hSw.cell cxb_0 id; have ecxb_1 := hSw.cell cxb_1 id; have ecxb_3 := hSw.cell cxb_3 id; have ecxb_2 := hSw.cell cxb_2 id; have ecqb0 := hSw.cell cqb0 id; have ecqb1 := hSw.cell cqb1 id; have ecqb2 := hSw.cell cqb2 id; have ecqb3 := hSw.cell cqb3 id; have z1 := Z1.out; have z2 := Z2.out; go_simp <;> with_reducible rfl)
        try simp only [Act.put, List.setIfInBounds_toArray, List.set_cons_zero, List.set_cons_succ]
        refine wpAnyH_take (i := 5) (oi := { dst := some 77, op := Go.Op.move (Go.Operand.tmp 76), type := 4, pos := "more.go:27", after := #[{ on := 4, ground := Go.Ground.data }, { on := 1, ground := Go.Ground.chain }], guard := none }) (v := ?v36) rfl (by kernel_rfl) (by kernel_rfl) (by kernel_rfl) (fun _ _ _ h => h) (Or.inl ⟨by rfl, ?hy36⟩) (by assumption) ?rest36
        case hy36 => (intro w hSw; (try dsimp only at hSw); have ecxb_0 := hSw.cell cxb_0 id; have ecxb_1 := hSw.cell cxb_1 id; have ecxb_3 := hSw.cell cxb_3 id; have ecxb_2 := hSw.cell cxb_2 id; have ecqb0 := hSw.cell cqb0 id; have ecqb1 := hSw.cell cqb1 id; have ecqb2 := hSw.cell cqb2 id; have ecqb3 := hSw.cell cqb3 id; have z1 := Z1.out; have z2 := Z2.out; go_simp <;> with_reducible rfl)
        try simp only [Act.put, List.setIfInBounds_toArray, List.set_cons_zero, List.set_cons_succ]
        refine wpAnyH_take (i := 6) (oi := { dst := some 78, op := Go.Op.move (Go.Operand.tmp 14), type := 29, pos := "more.go:27", after := #[{ on := 5, ground := Go.Ground.guard }], guard := some (5, true) }) (v := ?v37) rfl (by kernel_rfl) (by kernel_rfl) (by kernel_rfl) (fun _ _ _ h => h) (Or.inl ⟨by rfl, ?hy37⟩) (by assumption) ?rest37
        case hy37 => (intro w hSw; (try dsimp only at hSw); have ecxb_0 := hSw.cell cxb_0 id; have ecxb_1 := hSw.cell cxb_1 id; have ecxb_3 := hSw.cell cxb_3 id; have ecxb_2 := hSw.cell cxb_2 id; have ecqb0 := hSw.cell cqb0 id; have ecqb1 := hSw.cell cqb1 id; have ecqb2 := hSw.cell cqb2 id; have ecqb3 := hSw.cell cqb3 id; have z1 := Z1.out; have z2 := Z2.out; go_simp <;> with_reducible rfl)
        try simp only [Act.put, List.setIfInBounds_toArray, List.set_cons_zero, List.set_cons_succ]
        refine wpAnyH_take (i := 7) (oi := { dst := some 79, op := Go.Op.binOp Go.BinOp.eql 29 (Go.Operand.tmp 78) (Go.Operand.const Go.Value.nilIface) 29, type := 4, pos := "more.go:27", after := #[{ on := 6, ground := Go.Ground.data }, { on := 5, ground := Go.Ground.guard }], guard := some (5, true) }) (v := ?v38) rfl (by kernel_rfl) (by kernel_rfl) (by kernel_rfl) (fun _ _ _ h => h) (Or.inl ⟨by rfl, ?hy38⟩) (by assumption) ?rest38
        case hy38 => (intro w hSw; (try dsimp only at hSw); have ecxb_0 := hSw.cell cxb_0 id; have ecxb_1 := hSw.cell cxb_1 id; have ecxb_3 := hSw.cell cxb_3 id; have ecxb_2 := hSw.cell cxb_2 id; have ecqb0 := hSw.cell cqb0 id; have ecqb1 := hSw.cell cqb1 id; have ecqb2 := hSw.cell cqb2 id; have ecqb3 := hSw.cell cqb3 id; have z1 := Z1.out; have z2 := Z2.out; go_simp <;> with_reducible rfl)
        try simp only [Act.put, List.setIfInBounds_toArray, List.set_cons_zero, List.set_cons_succ]
        refine wpAnyH_take (i := 8) (oi := { dst := some 80, op := Go.Op.pick (Go.Operand.tmp 77) (Go.Operand.tmp 79) (Go.Operand.const (Go.Value.bool false)), type := 4, pos := "more.go:27", after := #[{ on := 5, ground := Go.Ground.data }, { on := 7, ground := Go.Ground.data }], guard := none }) (v := ?v39) rfl (by kernel_rfl) (by kernel_rfl) (by kernel_rfl) (fun _ _ _ h => h) (Or.inl ⟨by rfl, ?hy39⟩) (by assumption) ?rest39
        case hy39 => (intro w hSw; (try dsimp only at hSw); have ecxb_0 := hSw.cell cxb_0 id; have ecxb_1 := hSw.cell cxb_1 id; have ecxb_3 := hSw.cell cxb_3 id; have ecxb_2 := hSw.cell cxb_2 id; have ecqb0 := hSw.cell cqb0 id; have ecqb1 := hSw.cell cqb1 id; have ecqb2 := hSw.cell cqb2 id; have ecqb3 := hSw.cell cqb3 id; have z1 := Z1.out; have z2 := Z2.out; go_simp <;> with_reducible rfl)
        try simp only [Act.put, List.setIfInBounds_toArray, List.set_cons_zero, List.set_cons_succ]
        refine wpAnyH_take (i := 9) (oi := { dst := some 81, op := Go.Op.move (Go.Operand.tmp 80), type := 4, pos := "more.go:27", after := #[{ on := 8, ground := Go.Ground.data }, { on := 5, ground := Go.Ground.chain }], guard := none }) (v := ?v40) rfl (by kernel_rfl) (by kernel_rfl) (by kernel_rfl) (fun _ _ _ h => h) (Or.inl ⟨by rfl, ?hy40⟩) (by assumption) ?rest40
        case hy40 => (intro w hSw; (try dsimp only at hSw); have ecxb_0 := hSw.cell cxb_0 id; have ecxb_1 := hSw.cell cxb_1 id; have ecxb_3 := hSw.cell cxb_3 id; have ecxb_2 := hSw.cell cxb_2 id; have ecqb0 := hSw.cell cqb0 id; have ecqb1 := hSw.cell cqb1 id; have ecqb2 := hSw.cell cqb2 id; have ecqb3 := hSw.cell cqb3 id; have z1 := Z1.out; have z2 := Z2.out; go_simp <;> with_reducible rfl)
        try simp only [Act.put, List.setIfInBounds_toArray, List.set_cons_zero, List.set_cons_succ]
        refine wpAnyH_take (i := 10) (oi := { dst := some 82, op := Go.Op.load 25 (Go.Operand.tmp 13), type := 25, pos := "more.go:27", after := #[{ on := 9, ground := Go.Ground.guard }], guard := some (9, true) }) (v := ?v41) rfl (by kernel_rfl) (by kernel_rfl) (by kernel_rfl) (fun _ _ _ h => h) (Or.inl ⟨by rfl, ?hy41⟩) (by assumption) ?rest41
        case hy41 => (intro w hSw; (try dsimp only at hSw); have ecxb_0 := hSw.cell cxb_0 id; have ecxb_1 := hSw.cell cxb_1 id; have ecxb_3 := hSw.cell cxb_3 id; have ecxb_2 := hSw.cell cxb_2 id; have ecqb0 := hSw.cell cqb0 id; have ecqb1 := hSw.cell cqb1 id; have ecqb2 := hSw.cell cqb2 id; have ecqb3 := hSw.cell cqb3 id; have z1 := Z1.out; have z2 := Z2.out; go_simp <;> with_reducible rfl)
        try simp only [Act.put, List.setIfInBounds_toArray, List.set_cons_zero, List.set_cons_succ]
        refine wpAnyH_take (i := 12) (oi := { dst := some 84, op := Go.Op.load 25 (Go.Operand.tmp 4), type := 25, pos := "more.go:27", after := #[{ on := 9, ground := Go.Ground.guard }], guard := some (9, true) }) (v := ?v42) rfl (by kernel_rfl) (by kernel_rfl) (by kernel_rfl) (fun _ _ _ h => h) (Or.inl ⟨by rfl, ?hy42⟩) (by assumption) ?rest42
        case hy42 => (intro w hSw; (try dsimp only at hSw); have ecxb_0 := hSw.cell cxb_0 id; have ecxb_1 := hSw.cell cxb_1 id; have ecxb_3 := hSw.cell cxb_3 id; have ecxb_2 := hSw.cell cxb_2 id; have ecqb0 := hSw.cell cqb0 id; have ecqb1 := hSw.cell cqb1 id; have ecqb2 := hSw.cell cqb2 id; have ecqb3 := hSw.cell cqb3 id; have z1 := Z1.out; have z2 := Z2.out; go_simp <;> with_reducible rfl)
        try simp only [Act.put, List.setIfInBounds_toArray, List.set_cons_zero, List.set_cons_succ]
        refine wpAnyH_ready (rs := [11]) (by kernel_rfl) (by simp) ?_
        refine AllReadyH.cons (o := { dst := some 83, op := Go.Op.call { callee := Go.Callee.value (Go.Operand.func 19), args := #[Go.Operand.tmp 82], argTypes := #[25] }, type := 34, pos := "more.go:27", after := #[{ on := 10, ground := Go.Ground.data }, { on := 9, ground := Go.Ground.chain }, { on := 9, ground := Go.Ground.guard }], guard := some (9, true) }) rfl (fun K hK => ?_) AllReadyH.nil
        go_simp
        refine (of6_any _ (⟨xsrc, xdst, false, xl⟩ : Dg) A5 xl.length _ OKX.out (HB6.out.keep hS0 (fun _ _ _ => id))).mono ?_
        rintro e w8 ⟨rfl, hx⟩
        have hS1 := hS0.trans hx
        clear hx
        refine hK.out _ _ hS1 (fun _ => ?_)
        refine wpAnyH_ready (rs := [13]) (by kernel_rfl) (by simp) ?_
        refine AllReadyH.cons (o := { dst := some 85, op := Go.Op.call { callee := Go.Callee.value (Go.Operand.func 19), args := #[Go.Operand.tmp 84], argTypes := #[25] }, type := 34, pos := "more.go:27", after := #[{ on := 12, ground := Go.Ground.data }, { on := 11, ground := Go.Ground.chain }, { on := 9, ground := Go.Ground.guard }], guard := some (9, true) }) rfl (fun K hK => ?_) AllReadyH.nil
        go_simp
        refine (of6_any _ (⟨xsrc, xdst, false, xl⟩ : Dg) A c _ OKX.out (HM.out.keep hS1 (fun _ _ _ => id))).mono ?_
        rintro e w9 ⟨rfl, hx⟩
        have hS2 := hS1.trans hx
        clear hx
        refine hK.out _ _ hS2 (fun _ => ?_)
        refine wpAnyH_take (i := 14) (oi := { dst := some 86, op := Go.Op.binOp Go.BinOp.eql 34 (Go.Operand.tmp 83) (Go.Operand.tmp 85) 34, type := 4, pos := "more.go:27", after := #[{ on := 11, ground := Go.Ground.data }, { on := 13, ground := Go.Ground.data }, { on := 9, ground := Go.Ground.guard }], guard := some (9, true) }) (v := ?v43) rfl (by kernel_rfl) (by kernel_rfl) (by kernel_rfl) (fun _ _ _ h => h) (Or.inl ⟨by rfl, ?hy43⟩) (by assumption) ?rest43
        case hy43 => (intro w hSw; (try dsimp only at hSw); have ecxb_0 := hSw.cell cxb_0 id; have ecxb_1 := hSw.cell cxb_1 id; have ecxb_3 := hSw.cell cxb_3 id; have ecxb_2 := hSw.cell cxb_2 id; have ecqb0 := hSw.cell cqb0 id; have ecqb1 := hSw.cell cqb1 id; have ecqb2 := hSw.cell cqb2 id; have ecqb3 := hSw.cell cqb3 id; have z1 := Z1.out; have z2 := Z2.out; go_simp <;> with_reducible rfl)
        try simp only [Act.put, List.setIfInBounds_toArray, List.set_cons_zero, List.set_cons_succ]
        refine wpAnyH_take (i := 15) (oi := { dst := some 87, op := Go.Op.pick (Go.Operand.tmp 81) (Go.Operand.tmp 86) (Go.Operand.const (Go.Value.bool false)), type := 4, pos := "more.go:27", after := #[{ on := 9, ground := Go.Ground.data }, { on := 14, ground := Go.Ground.data }], guard := none }) (v := ?v44) rfl (by kernel_rfl) (by kernel_rfl) (by kernel_rfl) (fun _ _ _ h => h) (Or.inl ⟨by rfl, ?hy44⟩) (by assumption) ?rest44
        case hy44 => (intro w hSw; (try dsimp only at hSw); have ecxb_0 := hSw.cell cxb_0 id; have ecxb_1 := hSw.cell cxb_1 id; have ecxb_3 := hSw.cell cxb_3 id; have ecxb_2 := hSw.cell cxb_2 id; have ecqb0 := hSw.cell cqb0 id; have ecqb1 := hSw.cell cqb1 id; have ecqb2 := hSw.cell cqb2 id; have ecqb3 := hSw.cell cqb3 id; have z1 := Z1.out; have z2 := Z2.out; go_simp <;> with_reducible rfl)
        try simp only [Act.put, List.setIfInBounds_toArray, List.set_cons_zero, List.set_cons_succ]
        refine wpAnyH_take (i := 16) (oi := { dst := some 8, op := Go.Op.assign (Go.Operand.tmp 87), type := 4, pos := "more.go:27", after := #[{ on := 15, ground := Go.Ground.data }, { on := 13, ground := Go.Ground.chain }, { on := 0, ground := Go.Ground.phase }, { on := 1, ground := Go.Ground.phase }, { on := 2, ground := Go.Ground.phase }, { on := 3, ground := Go.Ground.phase }, { on := 4, ground := Go.Ground.phase }, { on := 5, ground := Go.Ground.phase }, { on := 6, ground := Go.Ground.phase }, { on := 7, ground := Go.Ground.phase }, { on := 8, ground := Go.Ground.phase }, { on := 9, ground := Go.Ground.phase }, { on := 10, ground := Go.Ground.phase }, { on := 11, ground := Go.Ground.phase }, { on := 12, ground := Go.Ground.phase }, { on := 13, ground := Go.Ground.phase }, { on := 14, ground := Go.Ground.phase }, { on := 15, ground := Go.Ground.phase }], guard := none }) (v := ?v45) rfl (by kernel_rfl) (by kernel_rfl) (by kernel_rfl) (fun _ _ _ h => h) (Or.inl ⟨by rfl, ?hy45⟩) (by assumption) ?rest45
        case hy45 => (intro w hSw; (try dsimp only at hSw); have ecxb_0 := hSw.cell cxb_0 id; have ecxb_1 := hSw.cell cxb_1 id; have ecxb_3 := hSw.cell cxb_3 id; have ecxb_2 := hSw.cell cxb_2 id; have ecqb0 := hSw.cell cqb0 id; have ecqb1 := hSw.cell cqb1 id; have ecqb2 := hSw.cell cqb2 id; have ecqb3 := hSw.cell cqb3 id; have z1 := Z1.out; have z2 := Z2.out; go_simp <;> with_reducible rfl)
        try simp only [Act.put, List.setIfInBounds_toArray, List.set_cons_zero, List.set_cons_succ]
        refine wpAnyH_done (by kernel_rfl) ?_ _
        have hx := hS2
        clear hS0 hS1 hS2 cxb_0 cxb_1 cxb_3 cxb_2 cqb0 cqb1 cqb2 cqb3
        have HX_w9 := Lib.hid hx
        clear hx
        go_wp2_with fail
        go_ret
        exact ⟨rfl, ((((((HX_w1.out.trans HX_w2.out).andThen HX_w3.out (fun i hi e => by have := hb_xb_; omega)).trans HX_w4.out).trans HX_w5.out).trans HX_w6.out).trans HX_w9.out)⟩
      ·
        have hal : ¬ (o = s % 65536 ∨ (o = 0 ∧ s % 65536 = 65535) ∨ (o = 65535 ∧ s % 65536 = 0)) := by omega
        have her : uerr M (other6 s o) t = some ([lay6], 4) := by rw [HSL.out, if_neg hal]
        have HER := Lib.hid her
        clear her
        have f_o_lo : (o == s % 65536) = false := by rw [beq_eq_false_iff_ne]; omega
        have f_o_0 : (o == 0) = false := by rw [beq_eq_false_iff_ne]; omega
        have f_o_65535 : (o == 65535) = true := by rw [beq_iff_eq]; omega
        have f_s65536_0 : (s % 65536 == 0) = false := by rw [beq_eq_false_iff_ne]; omega
        clear hal
        clear p1 p2 p3 p4
        have hq1 := HQ1.out
        have hw1 := HW1.out
        have hw2 := HW2.out
        have hw3 := HW3.out
        have hw4 := HW4.out
        have hrb := HO4.out.rb
        go_wp2_with fail
        refine (uparse_no _ (some A4) (8 + xl.length) c4 M (other6 s o) t w4 hrb (fun h => by cases h) (by rw [HML.out]; omega) HO6.out HT.out [lay6] 4 HER.out).mono ?_
        rintro e w5 ⟨v5, rfl, he, hx⟩
        obtain ⟨t5, y5, rfl⟩ := he.shape
        have hv : dgv zdg (.slice none 0 0) = .agg #[.int .u16 0, .int .u16 0, .bool false, .slice none 0 0] := rfl
        rw [hv]
        clear hv hq1 hw1 hw2 hw3 hw4 hrb
        have HX_w5 := Lib.hid hx
        clear hx
        have HE5 := Lib.hid he
        clear he
        go_upto_region 6 with fail
        have hx : Ex (fun _ => False) w5 (w5.alloc (.cells #[.int .u16 0, .int .u16 0, .bool false, .slice none 0 0] 25)) := (Ex.refl _ w5).alloc _
        have hb : (w5.alloc (.cells #[.int .u16 0, .int .u16 0, .bool false, .slice none 0 0] 25)).heap[w5.heap.size]? = some (.cells #[.int .u16 0, .int .u16 0, .bool false, .slice none 0 0] 25) := heap_alloc_new w5 _
        obtain ⟨qb, hqb⟩ : ∃ qb, qb = w5.heap.size := ⟨_, rfl⟩
        have hb_qb : w5.heap.size ≤ qb := by omega
        rw [← hqb] at hb
        try simp only [← hqb]
        generalize w5.alloc (.cells #[.int .u16 0, .int .u16 0, .bool false, .slice none 0 0] 25) = w6 at hx hb ⊢
        clear hqb
        have HX_w6 := Lib.hid hx
        clear hx
        have B_qb := Lib.hid hb
        clear hb
        replace B_xb_ := Lib.hid ((((HX_w4.out.trans HX_w5.out).trans HX_w6.out).block xb_ (row_lt B_xb_.out) id).trans B_xb_.out)
        have cxb_2 := row_cell (k := 2) (v := .bool false) B_xb_.out rfl
        skip
        go_wp2_with fail
        refine (code_any _ [lay6] 4 _ w6 (EC.keep HX_w6.out (fun _ _ => id) HE5.out) (HG.out.keep (((((HX_w1.out.trans HX_w2.out).andThen HX_w3.out (fun i hi e => by have := hb_xb_; omega)).trans HX_w4.out).trans HX_w5.out).trans HX_w6.out) id)).mono ?_
        rintro e w7 ⟨rfl, hx⟩
        have HX_w7 := Lib.hid hx
        clear hx
        go_wp2_with fail
        go_ret
        exact ⟨rfl, ((((((HX_w1.out.trans HX_w2.out).andThen HX_w3.out (fun i hi e => by have := hb_xb_; omega)).trans HX_w4.out).trans HX_w5.out).trans HX_w6.out).trans HX_w7.out)⟩
    ·
      have hal : ¬ (o = s % 65536 ∨ (o = 0 ∧ s % 65536 = 65535) ∨ (o = 65535 ∧ s % 65536 = 0)) := by omega
      have her : uerr M (other6 s o) t = some ([lay6], 4) := by rw [HSL.out, if_neg hal]
      have HER := Lib.hid her
      clear her
      have f_o_lo : (o == s % 65536) = false := by rw [beq_eq_false_iff_ne]; omega
      have f_o_0 : (o == 0) = false := by rw [beq_eq_false_iff_ne]; omega
      have f_o_65535 : (o == 65535) = false := by rw [beq_eq_false_iff_ne]; omega
      clear hal
      clear p1 p2 p3
      have hq1 := HQ1.out
      have hw1 := HW1.out
      have hw2 := HW2.out
      have hw3 := HW3.out
      have hw4 := HW4.out
      have hrb := HO4.out.rb
      go_wp2_with fail
      refine (uparse_no _ (some A4) (8 + xl.length) c4 M (other6 s o) t w4 hrb (fun h => by cases h) (by rw [HML.out]; omega) HO6.out HT.out [lay6] 4 HER.out).mono ?_
      rintro e w5 ⟨v5, rfl, he, hx⟩
      obtain ⟨t5, y5, rfl⟩ := he.shape
      have hv : dgv zdg (.slice none 0 0) = .agg #[.int .u16 0, .int .u16 0, .bool false, .slice none 0 0] := rfl
      rw [hv]
      clear hv hq1 hw1 hw2 hw3 hw4 hrb
      have HX_w5 := Lib.hid hx
      clear hx
      have HE5 := Lib.hid he
      clear he
      go_upto_region 6 with fail
      have hx : Ex (fun _ => False) w5 (w5.alloc (.cells #[.int .u16 0, .int .u16 0, .bool false, .slice none 0 0] 25)) := (Ex.refl _ w5).alloc _
      have hb : (w5.alloc (.cells #[.int .u16 0, .int .u16 0, .bool false, .slice none 0 0] 25)).heap[w5.heap.size]? = some (.cells #[.int .u16 0, .int .u16 0, .bool false, .slice none 0 0] 25) := heap_alloc_new w5 _
      obtain ⟨qb, hqb⟩ : ∃ qb, qb = w5.heap.size := ⟨_, rfl⟩
      have hb_qb : w5.heap.size ≤ qb := by omega
      rw [← hqb] at hb
      try simp only [← hqb]
      generalize w5.alloc (.cells #[.int .u16 0, .int .u16 0, .bool false, .slice none 0 0] 25) = w6 at hx hb ⊢
      clear hqb
      have HX_w6 := Lib.hid hx
      clear hx
      have B_qb := Lib.hid hb
      clear hb
      replace B_xb_ := Lib.hid ((((HX_w4.out.trans HX_w5.out).trans HX_w6.out).block xb_ (row_lt B_xb_.out) id).trans B_xb_.out)
      have cxb_2 := row_cell (k := 2) (v := .bool false) B_xb_.out rfl
      skip
      go_wp2_with fail
      refine (code_any _ [lay6] 4 _ w6 (EC.keep HX_w6.out (fun _ _ => id) HE5.out) (HG.out.keep (((((HX_w1.out.trans HX_w2.out).andThen HX_w3.out (fun i hi e => by have := hb_xb_; omega)).trans HX_w4.out).trans HX_w5.out).trans HX_w6.out) id)).mono ?_
      rintro e w7 ⟨rfl, hx⟩
      have HX_w7 := Lib.hid hx
      clear hx
      go_wp2_with fail
      go_ret
      exact ⟨rfl, ((((((HX_w1.out.trans HX_w2.out).andThen HX_w3.out (fun i hi e => by have := hb_xb_; omega)).trans HX_w4.out).trans HX_w5.out).trans HX_w6.out).trans HX_w7.out)⟩
  case true =>
    have cxb_0 := row_cell (k := 0) (v := .int .u16 xsrc) B_xb_.out rfl
    have cxb_1 := row_cell (k := 1) (v := .int .u16 xdst) B_xb_.out rfl
    have cxb_2 := row_cell (k := 2) (v := .bool true) B_xb_.out rfl
    have cxb_3 := row_cell (k := 3) (v := .slice A xl.length c) B_xb_.out rfl
    have okx : (⟨xsrc, xdst, true, xl⟩ : Dg).ok := OK.out
    have OKX := Lib.hid okx
    clear okx
    go_wp2_with fail
    refine (dBytes_ok _ (⟨xsrc, xdst, true, xl⟩ : Dg) s t A c w3 OKX.out HS.out HT.out (RB.keep HM.out ((HX_w1.out.trans HX_w2.out).andThen HX_w3.out (fun i hi e => by have := hb_xb_; omega)) (fun _ _ _ => id)) (by show xl.length ≤ _; omega)).mono ?_
    rintro e w4 ⟨A4, c4, rfl, ho, hx⟩
    have ho' : OB w4 w3.heap.size (.slice (some A4) (8 + xl.length) c4) (db (⟨xsrc, xdst, true, xl⟩ : Dg) s t) := ho
    have e8 : 8 + (⟨xsrc, xdst, true, xl⟩ : Dg).b.length = 8 + xl.length := rfl
    rw [e8]
    have hbk := (db_back OKX.out s t (by show xl.length ≤ _; omega) []).2.2
    rw [List.append_nil] at hbk
    have hml := db_len (⟨xsrc, xdst, true, xl⟩ : Dg) s t
    have hml : (db (⟨xsrc, xdst, true, xl⟩ : Dg) s t).length = 8 + xl.length := hml
    have hsl := strange_plain (⟨xsrc, xdst, true, xl⟩ : Dg) rfl (by show xl.length ≤ _; omega) s t (other6 s o)
    obtain ⟨M, hM⟩ : ∃ M, M = db (⟨xsrc, xdst, true, xl⟩ : Dg) s t := ⟨_, rfl⟩
    rw [← hM] at ho' hbk hsl hml
    have HBK := Lib.hid hbk
    have HSL := Lib.hid hsl
    have HML := Lib.hid hml
    have ho6 : 0 ≤ other6 s o ∧ other6 s o < 4294967296 := by have := HS.out; have := HO.out; unfold other6; omega
    have HO6 := Lib.hid ho6
    clear e8 ho hbk hsl hml hM ho6 cxb_0 cxb_1 cxb_2 cxb_3
    have HX_w4 := Lib.hid hx
    clear hx
    have HO4 := Lib.hid ho'
    clear ho'
    by_cases p1 : o = s % 65536
    ·
      have her : uerr M (other6 s o) t = none := by exact HSL.out
      have HER := Lib.hid her
      clear her
      have f_o_lo : (o == s % 65536) = true := by rw [beq_iff_eq]; omega
      clear p1
      have hq1 := HQ1.out
      have hw1 := HW1.out
      have hw2 := HW2.out
      have hw3 := HW3.out
      have hw4 := HW4.out
      have hrb := HO4.out.rb
      go_wp2_with fail
      refine (uparse_yes _ (some A4) (8 + xl.length) c4 M (other6 s o) t w4 hrb (fun h => by cases h) (by rw [HML.out]; omega) HO6.out HT.out HER.out).mono ?_
      rintro e w5 ⟨A5, rfl, hb5, hx⟩
      rw [HBK.out] at hb5 ⊢
      have hb5' : RB w5 (fun j => w4.heap.size ≤ j) (.slice A5 xl.length xl.length) xl := hb5
      have hv : dgv (⟨xsrc, xdst, true, xl⟩ : Dg) (.slice A5 (⟨xsrc, xdst, true, xl⟩ : Dg).b.length (⟨xsrc, xdst, true, xl⟩ : Dg).b.length) = .agg #[.int .u16 xsrc, .int .u16 xdst, .bool true, .slice A5 xl.length xl.length] := rfl
      rw [hv]
      clear hv hb5 hq1 hw1 hw2 hw3 hw4 hrb
      have HX_w5 := Lib.hid hx
      clear hx
      have HB5 := Lib.hid hb5'
      clear hb5'
      go_upto_region 6 with fail
      have hx : Ex (fun _ => False) w5 (w5.alloc (.cells #[.int .u16 xsrc, .int .u16 xdst, .bool true, .slice A5 xl.length xl.length] 25)) := (Ex.refl _ w5).alloc _
      have hb : (w5.alloc (.cells #[.int .u16 xsrc, .int .u16 xdst, .bool true, .slice A5 xl.length xl.length] 25)).heap[w5.heap.size]? = some (.cells #[.int .u16 xsrc, .int .u16 xdst, .bool true, .slice A5 xl.length xl.length] 25) := heap_alloc_new w5 _
      obtain ⟨qb, hqb⟩ : ∃ qb, qb = w5.heap.size := ⟨_, rfl⟩
      have hb_qb : w5.heap.size ≤ qb := by omega
      rw [← hqb] at hb
      try simp only [← hqb]
      generalize w5.alloc (.cells #[.int .u16 xsrc, .int .u16 xdst, .bool true, .slice A5 xl.length xl.length] 25) = w6 at hx hb ⊢
      clear hqb
      have HX_w6 := Lib.hid hx
      clear hx
      have B_qb := Lib.hid hb
      clear hb
      replace B_xb_ := Lib.hid ((((HX_w4.out.trans HX_w5.out).trans HX_w6.out).block xb_ (row_lt B_xb_.out) id).trans B_xb_.out)
      have cxb_2 := row_cell (k := 2) (v := .bool true) B_xb_.out rfl
      skip
      go_upto_region 8 with fail
      replace HM := Lib.hid (RB.keep HM.out (((((HX_w1.out.trans HX_w2.out).andThen HX_w3.out (fun i hi e => by have := hb_xb_; omega)).trans HX_w4.out).trans HX_w5.out).trans HX_w6.out) (fun _ _ _ => id))
      have cxb_0 := row_cell (k := 0) (v := .int .u16 xsrc) B_xb_.out rfl
      have cxb_1 := row_cell (k := 1) (v := .int .u16 xdst) B_xb_.out rfl
      have cxb_3 := row_cell (k := 3) (v := .slice A xl.length c) B_xb_.out rfl
      have cqb0 := row_cell (k := 0) (v := .int .u16 xsrc) B_qb.out rfl
      have cqb1 := row_cell (k := 1) (v := .int .u16 xdst) B_qb.out rfl
      have cqb2 := row_cell (k := 2) (v := .bool true) B_qb.out rfl
      have cqb3 := row_cell (k := 3) (v := .slice A5 xl.length xl.length) B_qb.out rfl
      have z1 : ∀ w, (binOp .eql 34 (rdv (⟨xsrc, xdst, true, xl⟩ : Dg)) (rdv (⟨xsrc, xdst, true, xl⟩ : Dg))).run Tryd.prog w = .ok (.bool true) w := fun w => by rw [rdv_eq, Dg.eqB_self]
      have z2 : ∀ w, (eqGuard .eql 34 (.tmp 83) (.tmp 85) (rdv (⟨xsrc, xdst, true, xl⟩ : Dg)) (rdv (⟨xsrc, xdst, true, xl⟩ : Dg))).run Tryd.prog w = .ok () w := fun w => rdv_guard .eql (.tmp 83) (.tmp 85) _ _ w
      have Z1 := Lib.hid z1
      have Z2 := Lib.hid z2
      have hb6 : RB w6 (fun j => w4.heap.size ≤ j) (.slice A5 xl.length xl.length) xl := HB5.out.keep HX_w6.out (fun _ _ _ => id)
      have HB6 := Lib.hid hb6
      have hS0 : Ex (fun _ => False) w6 w6.drew := (Ex.refl _ w6).drew
      clear z1 z2 hb6
      refine wp_region_held_drew (S := fun W => Ex (fun _ => False) w6 W) (by kernel_rfl) hS0 (fun _ => ?_)
      refine wpAnyH_take (i := 0) (oi := { dst := some 72, op := Go.Op.move (Go.Operand.tmp 9), type := 4, pos := "more.go:27", after := #[], guard := none }) (v := ?v46) rfl (by kernel_rfl) (by kernel_rfl) (by kernel_rfl) (fun _ _ _ h => h) (Or.inl ⟨by rfl, ?hy46⟩) (by assumption) ?rest46
      case hy46 => (intro w hSw; (try dsimp only at hSw); have ecxb_0 := hSw.cell cxb_0 id; have ecxb_1 := hSw.cell cxb_1 id; have ecxb_3 := hSw.cell cxb_3 id; have ecxb_2 := hSw.cell cxb_2 id; have ecqb0 := hSw.cell cqb0 id; have ecqb1 := hSw.cell cqb1 id; have ecqb2 := hSw.cell cqb2 id; have ecqb3 := hSw.cell cqb3 id; have z1 := Z1.out; have z2 := Z2.out; go_simp <;> with_reducible rfl)
      try simp only [Act.put, List.setIfInBounds_toArray, List.set_cons_zero, List.set_cons_succ]
      refine wpAnyH_take (i := 1) (oi := { dst := some 73, op := Go.Op.move (Go.Operand.tmp 72), type := 4, pos := "more.go:27", after := #[{ on := 0, ground := Go.Ground.data }], guard := none }) (v := ?v47) rfl (by kernel_rfl) (by kernel_rfl) (by kernel_rfl) (fun _ _ _ h => h) (Or.inl ⟨by rfl, ?hy47⟩) (by assumption) ?rest47
      case hy47 => (intro w hSw; (try dsimp only at hSw); have ecxb_0 := hSw.cell cxb_0 id; have ecxb_1 := hSw.cell cxb_1 id; have ecxb_3 := hSw.cell cxb_3 id; have ecxb_2 := hSw.cell cxb_2 id; have ecqb0 := hSw.cell cqb0 id; have ecqb1 := hSw.cell cqb1 id; have ecqb2 := hSw.cell cqb2 id; have ecqb3 := hSw.cell cqb3 id; have z1 := Z1.out; have z2 := Z2.out; go_simp <;> with_reducible rfl)
      try simp only [Act.put, List.setIfInBounds_toArray, List.set_cons_zero, List.set_cons_succ]
      refine wpAnyH_take (i := 2) (oi := { dst := some 74, op := Go.Op.move (Go.Operand.tmp 11), type := 29, pos := "more.go:27", after := #[{ on := 1, ground := Go.Ground.guard }], guard := some (1, true) }) (v := ?v48) rfl (by kernel_rfl) (by kernel_rfl) (by kernel_rfl) (fun _ _ _ h => h) (Or.inl ⟨by rfl, ?hy48⟩) (by assumption) ?rest48
      case hy48 => (intro w hSw; (try dsimp only at hSw); have ecxb_0 := hSw.cell cxb_0 id; have ecxb_1 := hSw.cell cxb_1 id; have ecxb_3 := hSw.cell cxb_3 id; have ecxb_2 := hSw.cell cxb_2 id; have ecqb0 := hSw.cell cqb0 id; have ecqb1 := hSw.cell cqb1 id; have ecqb2 := hSw.cell cqb2 id; have ecqb3 := hSw.cell cqb3 id; have z1 := Z1.out; have z2 := Z2.out; go_simp <;> with_reducible rfl)
      try simp only [Act.put, List.setIfInBounds_toArray, List.set_cons_zero, List.set_cons_succ]
      refine wpAnyH_take (i := 3) (oi := { dst := some 75, op := Go.Op.binOp Go.BinOp.eql 29 (Go.Operand.tmp 74) (Go.Operand.const Go.Value.nilIface) 29, type := 4, pos := "more.go:27", after := #[{ on := 2, ground := Go.Ground.data }, { on := 1, ground := Go.Ground.guard }], guard := some (1, true) }) (v := ?v49) rfl (by kernel_rfl) (by kernel_rfl) (by kernel_rfl) (fun _ _ _ h => h) (Or.inl ⟨by rfl, ?hy49⟩) (by assumption) ?rest49
      case hy49 => (intro w hSw; (try dsimp only at hSw); have ecxb_0 := hSw.cell cxb_0 id; have ecxb_1 := hSw.cell cxb_1 id; have ecxb_3 := hSw.cell cxb_3 id; have ecxb_2 := hSw.cell cxb_2 id; have ecqb0 := hSw.cell cqb0 id; have ecqb1 := hSw.cell cqb1 id; have ecqb2 := hSw.cell cqb2 id; have ecqb3 := hSw.cell cqb3 id; have z1 := Z1.out; have z2 := Z2.out; go_simp <;> with_reducible rfl)
      try simp only [Act.put, List.setIfInBounds_toArray, List.set_cons_zero, List.set_cons_succ]
      refine wpAnyH_take (i := 4) (oi := { dst := some 76, op := Go.Op.pick (Go.Operand.tmp 73) (Go.Operand.tmp 75) (Go.Operand.const (Go.Value.bool false)), type := 4, pos := "more.go:27", after := #[{ on := 1, ground := Go.Ground.data }, { on := 3, ground := Go.Ground.data }], guard := none }) (v := ?v50) rfl (by kernel_rfl) (by kernel_rfl) (by kernel_rfl) (fun _ _ _ h => h) (Or.inl ⟨by rfl, ?hy50⟩) (by assumption) ?rest50
      case hy50 => (intro w hSw; (try dsimp only at hSw); have ecxb_0 := hSw.cell cxb_0 id; have ecxb_1 := hSw.cell cxb_1 id; have ecxb_3 := hSw.cell cxb_3 id; have ecxb_2 := hSw.cell cxb_2 id; have ecqb0 := hSw.cell cqb0 id; have ecqb1 := hSw.cell cqb1 id; have ecqb2 := hSw.cell cqb2 id; have ecqb3 := hSw.cell cqb3 id; have z1 := Z1.out; have z2 := Z2.out; go_simp <;> with_reducible rfl)
      try simp only [Act.put, List.setIfInBounds_toArray, List.set_cons_zero, List.set_cons_succ]
      refine wpAnyH_take (i := 5) (oi := { dst := some 77, op := Go.Op.move (Go.Operand.tmp 76), type := 4, pos := "more.go:27", after := #[{ on := 4, ground := Go.Ground.data }, { on := 1, ground := Go.Ground.chain }], guard := none }) (v := ?v51) rfl (by kernel_rfl) (by kernel_rfl) (by kernel_rfl) (fun _ _ _ h => h) (Or.inl ⟨by rfl, ?hy51⟩) (by assumption) ?rest51
      case hy51 => (intro w hSw; (try dsimp only at hSw); have ecxb_0 := hSw.cell cxb_0 id; have ecxb_1 := hSw.cell cxb_1 id; have ecxb_3 := hSw.cell cxb_3 id; have ecxb_2 := hSw.cell cxb_2 id; have ecqb0 := hSw.cell cqb0 id; have ecqb1 := hSw.cell cqb1 id; have ecqb2 := hSw.cell cqb2 id; have ecqb3 := hSw.cell cqb3 id; have z1 := Z1.out; have z2 := Z2.out; go_simp <;> with_reducible rfl)
      try simp only [Act.put, List.setIfInBounds_toArray, List.set_cons_zero, List.set_cons_succ]
      refine wpAnyH_take (i := 6) (oi := { dst := some 78, op := Go.Op.move (Go.Operand.tmp 14), type := 29, pos := "more.go:27", after := #[{ on := 5, ground := Go.Ground.guard }], guard := some (5, true) }) (v := ?v52) rfl (by kernel_rfl) (by kernel_rfl) (by kernel_rfl) (fun _ _ _ h => h) (Or.inl ⟨by rfl, ?hy52⟩) (by assumption) ?rest52
      case hy52 => (intro w hSw; (try dsimp only at hSw); have ecxb_0 := hSw.cell cxb_0 id; have ecxb_1 := hSw.cell cxb_1 id; have ecxb_3 := hSw.cell cxb_3 id; have ecxb_2 := hSw.cell cxb_2 id; have ecqb0 := hSw.cell cqb0 id; have ecqb1 := hSw.cell cqb1 id; have ecqb2 := hSw.cell cqb2 id; have ecqb3 := hSw.cell cqb3 id; have z1 := Z1.out; have z2 := Z2.out; go_simp <;> with_reducible rfl)
      try simp only [Act.put, List.setIfInBounds_toArray, List.set_cons_zero, List.set_cons_succ]
      refine wpAnyH_take (i := 7) (oi := { dst := some 79, op := Go.Op.binOp Go.BinOp.eql 29 (Go.Operand.tmp 78) (Go.Operand.const Go.Value.nilIface) 29, type := 4, pos := "more.go:27", after := #[{ on := 6, ground := Go.Ground.data }, { on := 5, ground := Go.Ground.guard }], guard := some (5, true) }) (v := ?v53) rfl (by kernel_rfl) (by kernel_rfl) (by kernel_rfl) (fun _ _ _ h => h) (Or.inl ⟨by rfl, ?hy53⟩) (by assumption) ?rest53
      case hy53 => (intro w hSw; (try dsimp only at hSw); have ecxb_0 := hSw.cell cxb_0 id; have ecxb_1 := hSw.cell cxb_1 id; have ecxb_3 := hSw.cell cxb_3 id; have ecxb_2 := hSw.cell cxb_2 id; have ecqb0 := hSw.cell cqb0 id; have ecqb1 := hSw.cell cqb1 id; have ecqb2 := hSw.cell cqb2 id; have ecqb3 := hSw.cell cqb3 id; have z1 := Z1.out; have z2 := Z2.out; go_simp <;> with_reducible rfl)
      try simp only [Act.put, List.setIfInBounds_toArray, List.set_cons_zero, List.set_cons_succ]
      refine wpAnyH_take (i := 8) (oi := { dst := some 80, op := Go.Op.pick (Go.Operand.tmp 77) (Go.Operand.tmp 79) (Go.Operand.const (Go.Value.bool false)), type := 4, pos := "more.go:27", after := #[{ on := 5, ground := Go.Ground.data }, { on := 7, ground := Go.Ground.data }], guard := none }) (v := ?v54) rfl (by kernel_rfl) (by kernel_rfl) (by kernel_rfl) (fun _ _ _ h => h) (Or.inl ⟨by rfl, ?hy54⟩) (by assumption) ?rest54
      case hy54 => (intro w hSw; (try dsimp only at hSw); have ecxb_0 := hSw.cell cxb_0 id; have ecxb_1 := hSw.cell cxb_1 id; have ecxb_3 := hSw.cell cxb_3 id; have ecxb_2 := hSw.cell cxb_2 id; have ecqb0 := hSw.cell cqb0 id; have ecqb1 := hSw.cell cqb1 id; have ecqb2 := hSw.cell cqb2 id; have ecqb3 := hSw.cell cqb3 id; have z1 := Z1.out; have z2 := Z2.out; go_simp <;> with_reducible rfl)
      try simp only [Act.put, List.setIfInBounds_toArray, List.set_cons_zero, List.set_cons_succ]
      refine wpAnyH_take (i := 9) (oi := { dst := some 81, op := Go.Op.move (Go.Operand.tmp 80), type := 4, pos := "more.go:27", after := #[{ on := 8, ground := Go.Ground.data }, { on := 5, ground := Go.Ground.chain }], guard := none }) (v := ?v55) rfl (by kernel_rfl) (by kernel_rfl) (by kernel_rfl) (fun _ _ _ h => h) (Or.inl ⟨by rfl, ?hy55⟩) (by assumption) ?rest55
      case hy55 => (intro w hSw; (try dsimp only at hSw); have ecxb_0 := hSw.cell cxb_0 id; have ecxb_1 := hSw.cell cxb_1 id; have ecxb_3 := hSw.cell cxb_3 id; have ecxb_2 := hSw.cell cxb_2 id; have ecqb0 := hSw.cell cqb0 id; have ecqb1 := hSw.cell cqb1 id; have ecqb2 := hSw.cell cqb2 id; have ecqb3 := hSw.cell cqb3 id; have z1 := Z1.out; have z2 := Z2.out; go_simp <;> with_reducible rfl)
      try simp only [Act.put, List.setIfInBounds_toArray, List.set_cons_zero, List.set_cons_succ]
      refine wpAnyH_take (i := 10) (oi := { dst := some 82, op := Go.Op.load 25 (Go.Operand.tmp 13), type := 25, pos := "more.go:27", after := #[{ on := 9, ground := Go.Ground.guard }], guard := some (9, true) }) (v := ?v56) rfl (by kernel_rfl) (by kernel_rfl) (by kernel_rfl) (fun _ _ _ h => h) (Or.inl ⟨by rfl, ?hy56⟩) (by assumption) ?rest56
      case hy56 => (intro w hSw; (try dsimp only at hSw); have ecxb_0 := hSw.cell cxb_0 id; have ecxb_1 := hSw.cell cxb_1 id; have ecxb_3 := hSw.cell cxb_3 id; have ecxb_2 := hSw.cell cxb_2 id; have ecqb0 := hSw.cell cqb0 id; have ecqb1 := hSw.cell cqb1 id; have ecqb2 := hSw.cell cqb2 id; have ecqb3 := hSw.cell cqb3 id; have z1 := Z1.out; have z2 := Z2.out; go_simp <;> with_reducible rfl)
      try simp only [Act.put, List.setIfInBounds_toArray, List.set_cons_zero, List.set_cons_succ]
      refine wpAnyH_take (i := 12) (oi := { dst := some 84, op := Go.Op.load 25 (Go.Operand.tmp 4), type := 25, pos := "more.go:27", after := #[{ on := 9, ground := Go.Ground.guard }], guard := some (9, true) }) (v := ?v57) rfl (by kernel_rfl) (by kernel_rfl) (by kernel_rfl) (fun _ _ _ h => h) (Or.inl ⟨by rfl, ?hy57⟩) (by assumption) ?rest57
      case hy57 => (intro w hSw; (try dsimp only at hSw); have ecxb_0 := hSw.cell cxb_0 id; have ecxb_1 := hSw.cell cxb_1 id; have ecxb_3 := hSw.cell cxb_3 id; have ecxb_2 := hSw.cell cxb_2 id; have ecqb0 := hSw.cell cqb0 id; have ecqb1 := hSw.cell cqb1 id; have ecqb2 := hSw.cell cqb2 id; have ecqb3 := hSw.cell cqb3 id; have z1 := Z1.out; have z2 := Z2.out; go_simp <;> with_reducible rfl)
      try simp only [Act.put, List.setIfInBounds_toArray, List.set_cons_zero, List.set_cons_succ]
      refine wpAnyH_ready (rs := [11]) (by kernel_rfl) (by simp) ?_
      refine AllReadyH.cons (o := { dst := some 83, op := Go.Op.call { callee := Go.Callee.value (Go.Operand.func 19), args := #[Go.Operand.tmp 82], argTypes := #[25] }, type := 34, pos := "more.go:27", after := #[{ on := 10, ground := Go.Ground.data }, { on := 9, ground := Go.Ground.chain }, { on := 9, ground := Go.Ground.guard }], guard := some (9, true) }) rfl (fun K hK => ?_) AllReadyH.nil
      go_simp
      refine (of6_any _ (⟨xsrc, xdst, true, xl⟩ : Dg) A5 xl.length _ OKX.out (HB6.out.keep hS0 (fun _ _ _ => id))).mono ?_
      rintro e w8 ⟨rfl, hx⟩
      have hS1 := hS0.trans hx
      clear hx
      refine hK.out _ _ hS1 (fun _ => ?_)
      refine wpAnyH_ready (rs := [13]) (by kernel_rfl) (by simp) ?_
      refine AllReadyH.cons (o := { dst := some 85, op := Go.Op.call { callee := Go.Callee.value (Go.Operand.func 19), args := #[Go.Operand.tmp 84], argTypes := #[25] }, type := 34, pos := "more.go:27", after := #[{ on := 12, ground := Go.Ground.data }, { on := 11, ground := Go.Ground.chain }, { on := 9, ground := Go.Ground.guard }], guard := some (9, true) }) rfl (fun K hK => ?_) AllReadyH.nil
      go_simp
      refine (of6_any _ (⟨xsrc, xdst, true, xl⟩ : Dg) A c _ OKX.out (HM.out.keep hS1 (fun _ _ _ => id))).mono ?_
      rintro e w9 ⟨rfl, hx⟩
      have hS2 := hS1.trans hx
      clear hx
      refine hK.out _ _ hS2 (fun _ => ?_)
      refine wpAnyH_take (i := 14) (oi := { dst := some 86, op := Go.Op.binOp Go.BinOp.eql 34 (Go.Operand.tmp 83) (Go.Operand.tmp 85) 34, type := 4, pos := "more.go:27", after := #[{ on := 11, ground := Go.Ground.data }, { on := 13, ground := Go.Ground.data }, { on := 9, ground := Go.Ground.guard }], guard := some (9, true) }) (v := ?v58) rfl (by kernel_rfl) (by kernel_rfl) (by kernel_rfl) (fun _ _ _ h => h) (Or.inl ⟨by rfl, ?hy58⟩) (by assumption) ?rest58
      case hy58 => (intro w hSw; (try dsimp only at hSw); have ecxb_0 := hSw.cell cxb_0 id; have ecxb_1 := hSw.cell cxb_1 id; have ecxb_3 := hSw.cell cxb_3 id; have ecxb_2 := hSw.cell cxb_2 id; have ecqb0 := hSw.cell cqb0 id; have ecqb1 := hSw.cell cqb1 id; have ecqb2 := hSw.cell cqb2 id; have ecqb3 := hSw.cell cqb3 id; have z1 := Z1.out; have z2 := Z2.out; go_simp <;> with_reducible rfl)
      try simp only [Act.put, List.setIfInBounds_toArray, List.set_cons_zero, List.set_cons_succ]
      refine wpAnyH_take (i := 15) (oi := { dst := some 87, op := Go.Op.pick (Go.Operand.tmp 81) (Go.Operand.tmp 86) (Go.Operand.const (Go.Value.bool false)), type := 4, pos := "more.go:27", after := #[{ on := 9, ground := Go.Ground.data }, { on := 14, ground := Go.Ground.data }], guard := none }) (v := ?v59) rfl (by kernel_rfl) (by kernel_rfl) (by kernel_rfl) (fun _ _ _ h => h) (Or.inl ⟨by rfl, ?hy59⟩) (by assumption) ?rest59
      case hy59 => (intro w hSw; (try dsimp only at hSw); have ecxb_0 := hSw.cell cxb_0 id; have ecxb_1 := hSw.cell cxb_1 id; have ecxb_3 := hSw.cell cxb_3 id; have ecxb_2 := hSw.cell cxb_2 id; have ecqb0 := hSw.cell cqb0 id; have ecqb1 := hSw.cell cqb1 id; have ecqb2 := hSw.cell cqb2 id; have ecqb3 := hSw.cell cqb3 id; have z1 := Z1.out; have z2 := Z2.out; go_simp <;> with_reducible rfl)
      try simp only [Act.put, List.setIfInBounds_toArray, List.set_cons_zero, List.set_cons_succ]
      refine wpAnyH_take (i := 16) (oi := { dst := some 8, op := Go.Op.assign (Go.Operand.tmp 87), type := 4, pos := "more.go:27", after := #[{ on := 15, ground := Go.Ground.data }, { on := 13, ground := Go.Ground.chain }, { on := 0, ground := Go.Ground.phase }, { on := 1, ground := Go.Ground.phase }, { on := 2, ground := Go.Ground.phase }, { on := 3, ground := Go.Ground.phase }, { on := 4, ground := Go.Ground.phase }, { on := 5, ground := Go.Ground.phase }, { on := 6, ground := Go.Ground.phase }, { on := 7, ground := Go.Ground.phase }, { on := 8, ground := Go.Ground.phase }, { on := 9, ground := Go.Ground.phase }, { on := 10, ground := Go.Ground.phase }, { on := 11, ground := Go.Ground.phase }, { on := 12, ground := Go.Ground.phase }, { on := 13, ground := Go.Ground.phase }, { on := 14, ground := Go.Ground.phase }, { on := 15, ground := Go.Ground.phase }], guard := none }) (v := ?v60) rfl (by kernel_rfl) (by kernel_rfl) (by kernel_rfl) (fun _ _ _ h => h) (Or.inl ⟨by rfl, ?hy60⟩) (by assumption) ?rest60
      case hy60 => (intro w hSw; (try dsimp only at hSw); have ecxb_0 := hSw.cell cxb_0 id; have ecxb_1 := hSw.cell cxb_1 id; have ecxb_3 := hSw.cell cxb_3 id; have ecxb_2 := hSw.cell cxb_2 id; have ecqb0 := hSw.cell cqb0 id; have ecqb1 := hSw.cell cqb1 id; have ecqb2 := hSw.cell cqb2 id; have ecqb3 := hSw.cell cqb3 id; have z1 := Z1.out; have z2 := Z2.out; go_simp <;> with_reducible rfl)
      try simp only [Act.put, List.setIfInBounds_toArray, List.set_cons_zero, List.set_cons_succ]
      refine wpAnyH_done (by kernel_rfl) ?_ _
      have hx := hS2
      clear hS0 hS1 hS2 cxb_0 cxb_1 cxb_3 cxb_2 cqb0 cqb1 cqb2 cqb3
      have HX_w9 := Lib.hid hx
      clear hx
      go_wp2_with fail
      go_ret
      exact ⟨rfl, ((((((HX_w1.out.trans HX_w2.out).andThen HX_w3.out (fun i hi e => by have := hb_xb_; omega)).trans HX_w4.out).trans HX_w5.out).trans HX_w6.out).trans HX_w9.out)⟩
    by_cases p2 : o = 0
    ·
      by_cases p3 : s % 65536 = 65535
      ·
        have her : uerr M (other6 s o) t = none := by exact HSL.out
        have HER := Lib.hid her
        clear her
        have f_o_lo : (o == s % 65536) = false := by rw [beq_eq_false_iff_ne]; omega
        have f_o_0 : (o == 0) = true := by rw [beq_iff_eq]; omega
        have f_s65536_65535 : (s % 65536 == 65535) = true := by rw [beq_iff_eq]; omega
        clear p1 p2 p3
        have hq1 := HQ1.out
        have hw1 := HW1.out
        have hw2 := HW2.out
        have hw3 := HW3.out
        have hw4 := HW4.out
        have hrb := HO4.out.rb
        go_wp2_with fail
        refine (uparse_yes _ (some A4) (8 + xl.length) c4 M (other6 s o) t w4 hrb (fun h => by cases h) (by rw [HML.out]; omega) HO6.out HT.out HER.out).mono ?_
        rintro e w5 ⟨A5, rfl, hb5, hx⟩
        rw [HBK.out] at hb5 ⊢
        have hb5' : RB w5 (fun j => w4.heap.size ≤ j) (.slice A5 xl.length xl.length) xl := hb5
        have hv : dgv (⟨xsrc, xdst, true, xl⟩ : Dg) (.slice A5 (⟨xsrc, xdst, true, xl⟩ : Dg).b.length (⟨xsrc, xdst, true, xl⟩ : Dg).b.length) = .agg #[.int .u16 xsrc, .int .u16 xdst, .bool true, .slice A5 xl.length xl.length] := rfl
        rw [hv]
        clear hv hb5 hq1 hw1 hw2 hw3 hw4 hrb
        have HX_w5 := Lib.hid hx
        clear hx
        have HB5 := Lib.hid hb5'
        clear hb5'
        go_upto_region 6 with fail
        have hx : Ex (fun _ => False) w5 (w5.alloc (.cells #[.int .u16 xsrc, .int .u16 xdst, .bool true, .slice A5 xl.length xl.length] 25)) := (Ex.refl _ w5).alloc _
        have hb : (w5.alloc (.cells #[.int .u16 xsrc, .int .u16 xdst, .bool true, .slice A5 xl.length xl.length] 25)).heap[w5.heap.size]? = some (.cells #[.int .u16 xsrc, .int .u16 xdst, .bool true, .slice A5 xl.length xl.length] 25) := heap_alloc_new w5 _
        obtain ⟨qb, hqb⟩ : ∃ qb, qb = w5.heap.size := ⟨_, rfl⟩
        have hb_qb : w5.heap.size ≤ qb := by omega
        rw [← hqb] at hb
        try simp only [← hqb]
        generalize w5.alloc (.cells #[.int .u16 xsrc, .int .u16 xdst, .bool true, .slice A5 xl.length xl.length] 25) = w6 at hx hb ⊢
        clear hqb
        have HX_w6 := Lib.hid hx
        clear hx
        have B_qb := Lib.hid hb
        clear hb
        replace B_xb_ := Lib.hid ((((HX_w4.out.trans HX_w5.out).trans HX_w6.out).block xb_ (row_lt B_xb_.out) id).trans B_xb_.out)
        have cxb_2 := row_cell (k := 2) (v := .bool true) B_xb_.out rfl
        skip
        go_upto_region 8 with fail
        replace HM := Lib.hid (RB.keep HM.out (((((HX_w1.out.trans HX_w2.out).andThen HX_w3.out (fun i hi e => by have := hb_xb_; omega)).trans HX_w4.out).trans HX_w5.out).trans HX_w6.out) (fun _ _ _ => id))
        have cxb_0 := row_cell (k := 0) (v := .int .u16 xsrc) B_xb_.out rfl
        have cxb_1 := row_cell (k := 1) (v := .int .u16 xdst) B_xb_.out rfl
        have cxb_3 := row_cell (k := 3) (v := .slice A xl.length c) B_xb_.out rfl
        have cqb0 := row_cell (k := 0) (v := .int .u16 xsrc) B_qb.out rfl
        have cqb1 := row_cell (k := 1) (v := .int .u16 xdst) B_qb.out rfl
        have cqb2 := row_cell (k := 2) (v := .bool true) B_qb.out rfl
        have cqb3 := row_cell (k := 3) (v := .slice A5 xl.length xl.length) B_qb.out rfl
        have z1 : ∀ w, (binOp .eql 34 (rdv (⟨xsrc, xdst, true, xl⟩ : Dg)) (rdv (⟨xsrc, xdst, true, xl⟩ : Dg))).run Tryd.prog w = .ok (.bool true) w := fun w => by rw [rdv_eq, Dg.eqB_self]
        have z2 : ∀ w, (eqGuard .eql 34 (.tmp 83) (.tmp 85) (rdv (⟨xsrc, xdst, true, xl⟩ : Dg)) (rdv (⟨xsrc, xdst, true, xl⟩ : Dg))).run Tryd.prog w = .ok () w := fun w => rdv_guard .eql (.tmp 83) (.tmp 85) _ _ w
        have Z1 := Lib.hid z1
        have Z2 := Lib.hid z2
        have hb6 : RB w6 (fun j => w4.heap.size ≤ j) (.slice A5 xl.length xl.length) xl := HB5.out.keep HX_w6.out (fun _ _ _ => id)
        have HB6 := Lib.hid hb6
        have hS0 : Ex (fun _ => False) w6 w6.drew := (Ex.refl _ w6).drew
        clear z1 z2 hb6
        refine wp_region_held_drew (S := fun W => Ex (fun _ => False) w6 W) (by kernel_rfl) hS0 (fun _ => ?_)
        refine wpAnyH_take (i := 0) (oi := { dst := some 72, op := Go.Op.move (Go.Operand.tmp 9), type := 4, pos := "more.go:27", after := #[], guard := none }) (v := ?v61) rfl (by kernel_rfl) (by kernel_rfl) (by kernel_rfl) (fun _ _ _ h => h) (Or.inl ⟨by rfl, ?hy61⟩) (by assumption) ?rest61
        case hy61 => (intro w hSw; (try dsimp only at hSw); have ecxb_0 := hSw.cell cxb_0 id; have ecxb_1 := hSw.cell cxb_1 id; have ecxb_3 := hSw.cell cxb_3 id; have ecxb_2 := hSw.cell cxb_2 id; have ecqb0 := hSw.cell cqb0 id; have ecqb1 := hSw.cell cqb1 id; have ecqb2 := hSw.cell cqb2 id; have ecqb3 := hSw.cell cqb3 id; have z1 := Z1.out; have z2 := Z2.out; go_simp <;> with_reducible rfl)
        try simp only [Act.put, List.setIfInBounds_toArray, List.set_cons_zero, List.set_cons_succ]
        refine wpAnyH_take (i := 1) (oi := { dst := some 73, op := Go.Op.move (Go.Operand.tmp 72), type := 4, pos := "more.go:27", after := #[{ on := 0, ground := Go.Ground.data }], guard := none }) (v := ?v62) rfl (by kernel_rfl) (by kernel_rfl) (by kernel_rfl) (fun _ _ _ h => h) (Or.inl ⟨by rfl, ?hy62⟩) (by assumption) ?rest62
        case hy62 => (intro w hSw; (try dsimp only at hSw); have ecxb_0 := hSw.cell cxb_0 id; have ecxb_1 := hSw.cell cxb_1 id; have ecxb_3 := hSw.cell cxb_3 id; have ecxb_2 := hSw.cell cxb_2 id; have ecqb0 := hSw.cell cqb0 id; have ecqb1 := hSw.cell cqb1 id; have ecqb2 := hSw.cell cqb2 id; have ecqb3 := hSw.cell cqb3 id; have z1 := Z1.out; have z2 := Z2.out; go_simp <;> with_reducible rfl)
        try simp only [Act.put, List.setIfInBounds_toArray, List.set_cons_zero, List.set_cons_succ]
        refine wpAnyH_take (i := 2) (oi := { dst := some 74, op := Go.Op.move (Go.Operand.tmp 11), type := 29, pos := "more.go:27", after := #[{ on := 1, ground := Go.Ground.guard }], guard := some (1, true) }) (v := ?v63) rfl (by kernel_rfl) (by kernel_rfl) (by kernel_rfl) (fun _ _ _ h => h) (Or.inl ⟨by rfl, ?hy63⟩) (by assumption) ?rest63
        case hy63 => (intro w hSw; (try dsimp only at hSw); have ecxb_0 := hSw.cell cxb_0 id; have ecxb_1 := hSw.cell cxb_1 id; have ecxb_3 := hSw.cell cxb_3 id; have ecxb_2 := hSw.cell cxb_2 id; have ecqb0 := hSw.cell cqb0 id; have ecqb1 := hSw.cell cqb1 id; have ecqb2 := hSw.cell cqb2 id; have ecqb3 := hSw.cell cqb3 id; have z1 := Z1.out; have z2 := Z2.out; go_simp <;> with_reducible rfl)
        try simp only [Act.put, List.setIfInBounds_toArray, List.set_cons_zero, List.set_cons_succ]
        refine wpAnyH_take (i := 3) (oi := { dst := some 75, op := Go.Op.binOp Go.BinOp.eql 29 (Go.Operand.tmp 74) (Go.Operand.const Go.Value.nilIface) 29, type := 4, pos := "more.go:27", after := #[{ on := 2, ground := Go.Ground.data }, { on := 1, ground := Go.Ground.guard }], guard := some (1, true) }) (v := ?v64) rfl (by kernel_rfl) (by kernel_rfl) (by kernel_rfl) (fun _ _ _ h => h) (Or.inl ⟨by rfl, ?hy64⟩) (by assumption) ?rest64
        case hy64 => (intro w hSw; (try dsimp only at hSw); have ecxb_0 := hSw.cell cxb_0 id; have ecxb_1 := hSw.cell cxb_1 id; have ecxb_3 := hSw.cell cxb_3 id; have ecxb_2 := hSw.cell cxb_2 id; have ecqb0 := hSw.cell cqb0 id; have ecqb1 := hSw.cell cqb1 id; have ecqb2 := hSw.cell cqb2 id; have ecqb3 := hSw.cell cqb3 id; have z1 := Z1.out; have z2 := Z2.out; go_simp <;> with_reducible rfl)
        try simp only [Act.put, List.setIfInBounds_toArray, List.set_cons_zero, List.set_cons_succ]
        refine wpAnyH_take (i := 4) (oi := { dst := some 76, op := Go.Op.pick (Go.Operand.tmp 73) (Go.Operand.tmp 75) (Go.Operand.const (Go.Value.bool false)), type := 4, pos := "more.go:27", after := #[{ on := 1, ground := Go.Ground.data }, { on := 3, ground := Go.Ground.data }], guard := none }) (v := ?v65) rfl (by kernel_rfl) (by kernel_rfl) (by kernel_rfl) (fun _ _ _ h => h) (Or.inl ⟨by rfl, ?hy65⟩) (by assumption) ?rest65
        case hy65 => (intro w hSw; (try dsimp only at hSw); have ecxb_0 := hSw.cell cxb_0 id; have ecxb_1 := hSw.cell cxb_1 id; have ecxb_3 := hSw.cell cxb_3 id; have ecxb_2 := hSw.cell cxb_2 id; have ecqb0 := hSw.cell cqb0 id; have ecqb1 := hSw.cell cqb1 id; have ecqb2 := hSw.cell cqb2 id; have ecqb3 := hSw.cell cqb3 id; have z1 := Z1.out; have z2 := Z2.out; go_simp <;> with_reducible rfl)
        try simp only [Act.put, List.setIfInBounds_toArray, List.set_cons_zero, List.set_cons_succ]
        refine wpAnyH_take (i := 5) (oi := { dst := some 77, op := Go.Op.move (Go.Operand.tmp 76), type := 4, pos := "more.go:27", after := #[{ on := 4, ground := Go.Ground.data }, { on := 1, ground := Go.Ground.chain }], guard := none }) (v := ?v66) rfl (by kernel_rfl) (by kernel_rfl) (by kernel_rfl) (fun _ _ _ h => h) (Or.inl ⟨by rfl, ?hy66⟩) (by assumption) ?rest66
        case hy66 => (intro w hSw; (try dsimp only at hSw); have ecxb_0 := hSw.cell cxb_0 id; have ecxb_1 := hSw.cell cxb_1 id; have ecxb_3 := hSw.cell cxb_3 id; have ecxb_2 := hSw.cell cxb_2 id; have ecqb0 := hSw.cell cqb0 id; have ecqb1 := hSw.cell cqb1 id; have ecqb2 := hSw.cell cqb2 id; have ecqb3 := hSw.cell cqb3 id; have z1 := Z1.out; have z2 := Z2.out; go_simp <;> with_reducible rfl)
        try simp only [Act.put, List.setIfInBounds_toArray, List.set_cons_zero, List.set_cons_succ]
        refine wpAnyH_take (i := 6) (oi := { dst := some 78, op := Go.Op.move (Go.Operand.tmp 14), type := 29, pos := "more.go:27", after := #[{ on := 5, ground := Go.Ground.guard }], guard := some (5, true) }) (v := ?v67) rfl (by kernel_rfl) (by kernel_rfl) (by kernel_rfl) (fun _ _ _ h => h) (Or.inl ⟨by rfl, ?hy67⟩) (by assumption) ?rest67
        case hy67 => (intro w hSw; (try dsimp only at hSw); have ecxb_0 := hSw.cell cxb_0 id; have ecxb_1 := hSw.cell cxb_1 id; have ecxb_3 := hSw.cell cxb_3 id; have ecxb_2 := hSw.cell cxb_2 id; have ecqb0 := hSw.cell cqb0 id; have ecqb1 := hSw.cell cqb1 id; have ecqb2 := hSw.cell cqb2 id; have ecqb3 := hSw.cell cqb3 id; have z1 := Z1.out; have z2 := Z2.out; go_simp <;> with_reducible rfl)
        try simp only [Act.put, List.setIfInBounds_toArray, List.set_cons_zero, List.set_cons_succ]
        refine wpAnyH_take (i := 7) (oi := { dst := some 79, op := Go.Op.binOp Go.BinOp.eql 29 (Go.Operand.tmp 78) (Go.Operand.const Go.Value.nilIface) 29, type := 4, pos := "more.go:27", after := #[{ on := 6, ground := Go.Ground.data }, { on := 5, ground := Go.Ground.guard }], guard := some (5, true) }) (v := ?v68) rfl (by kernel_rfl) (by kernel_rfl) (by kernel_rfl) (fun _ _ _ h => h) (Or.inl ⟨by rfl, ?hy68⟩) (by assumption) ?rest68
        case hy68 => (intro w hSw; (try dsimp only at hSw); have ecxb_0 := hSw.cell cxb_0 id; have ecxb_1 := hSw.cell cxb_1 id; have ecxb_3 := hSw.cell cxb_3 id; have ecxb_2 := hSw.cell cxb_2 id; have ecqb0 := hSw.cell cqb0 id; have ecqb1 := hSw.cell cqb1 id; have ecqb2 := hSw.cell cqb2 id; have ecqb3 := hSw.cell cqb3 id; have z1 := Z1.out; have z2 := Z2.out; go_simp <;> with_reducible rfl)
        try simp only [Act.put, List.setIfInBounds_toArray, List.set_cons_zero, List.set_cons_succ]
        refine wpAnyH_take (i := 8) (oi := { dst := some 80, op := Go.Op.pick (Go.Operand.tmp 77) (Go.Operand.tmp 79) (Go.Operand.const (Go.Value.bool false)), type := 4, pos := "more.go:27", after := #[{ on := 5, ground := Go.Ground.data }, { on := 7, ground := Go.Ground.data }], guard := none }) (v := ?v69) rfl (by kernel_rfl) (by kernel_rfl) (by kernel_rfl) (fun _ _ _ h => h) (Or.inl ⟨by rfl, ?hy69⟩) (by assumption) ?rest69
        case hy69 => (intro w hSw; (try dsimp only at hSw); have ecxb_0 := hSw.cell cxb_0 id; have ecxb_1 := hSw.cell cxb_1 id; have ecxb_3 := hSw.cell cxb_3 id; have ecxb_2 := hSw.cell cxb_2 id; have ecqb0 := hSw.cell cqb0 id; have ecqb1 := hSw.cell cqb1 id; have ecqb2 := hSw.cell cqb2 id; have ecqb3 := hSw.cell cqb3 id; have z1 := Z1.out; have z2 := Z2.out; go_simp <;> with_reducible rfl)
        try simp only [Act.put, List.setIfInBounds_toArray, List.set_cons_zero, List.set_cons_succ]
        refine wpAnyH_take (i := 9) (oi := { dst := some 81, op := Go.Op.move (Go.Operand.tmp 80), type := 4, pos := "more.go:27", after := #[{ on := 8, ground := Go.Ground.data }, { on := 5, ground := Go.Ground.chain }], guard := none }) (v := ?v70) rfl (by kernel_rfl) (by kernel_rfl) (by kernel_rfl) (fun _ _ _ h => h) (Or.inl ⟨by rfl, ?hy70⟩) (by assumption) ?rest70
        case hy70 => (intro w hSw; (try dsimp only at hSw); have ecxb_0 := hSw.cell cxb_0 id; have ecxb_1 := hSw.cell cxb_1 id; have ecxb_3 := hSw.cell cxb_3 id; have ecxb_2 := hSw.cell cxb_2 id; have ecqb0 := hSw.cell cqb0 id; have ecqb1 := hSw.cell cqb1 id; have ecqb2 := hSw.cell cqb2 id; have ecqb3 := hSw.cell cqb3 id; have z1 := Z1.out; have z2 := Z2.out; go_simp <;> with_reducible rfl)
        try simp only [Act.put, List.setIfInBounds_toArray, List.set_cons_zero, List.set_cons_succ]
        refine wpAnyH_take (i := 10) (oi := { dst := some 82, op := Go.Op.load 25 (Go.Operand.tmp 13), type := 25, pos := "more.go:27", after := #[{ on := 9, ground := Go.Ground.guard }], guard := some (9, true) }) (v := ?v71) rfl (by kernel_rfl) (by kernel_rfl) (by kernel_rfl) (fun _ _ _ h => h) (Or.inl ⟨by rfl, ?hy71⟩) (by assumption) ?rest71
        case hy71 => (intro w hSw; (try dsimp only at hSw); have ecxb_0 := hSw.cell cxb_0 id; have ecxb_1 := hSw.cell cxb_1 id; have ecxb_3 := hSw.cell cxb_3 id; have ecxb_2 := hSw.cell cxb_2 id; have ecqb0 := hSw.cell cqb0 id; have ecqb1 := hSw.cell cqb1 id; have ecqb2 := hSw.cell cqb2 id; have ecqb3 := hSw.cell cqb3 id; have z1 := Z1.out; have z2 := Z2.out; go_simp <;> with_reducible rfl)
        try simp only [Act.put, List.setIfInBounds_toArray, List.set_cons_zero, List.set_cons_succ]
        refine wpAnyH_take (i := 12) (oi := { dst := some 84, op := Go.Op.load 25 (Go.Operand.tmp 4), type := 25, pos := "more.go:27", after := #[{ on := 9, ground := Go.Ground.guard }], guard := some (9, true) }) (v := ?v72) rfl (by kernel_rfl) (by kernel_rfl) (by kernel_rfl) (fun _ _ _ h => h) (Or.inl ⟨by rfl, ?hy72⟩) (by assumption) ?rest72
        case hy72 => (intro w hSw; (try dsimp only at hSw); have ecxb_0 := hSw.cell cxb_0 id; have ecxb_1 := hSw.cell cxb_1 id; have ecxb_3 := hSw.cell cxb_3 id; have ecxb_2 := hSw.cell cxb_2 id; have ecqb0 := hSw.cell cqb0 id; have ecqb1 := hSw.cell cqb1 id; have ecqb2 := hSw.cell cqb2 id; have ecqb3 := hSw.cell cqb3 id; have z1 := Z1.out; have z2 := Z2.out; go_simp <;> with_reducible rfl)
        try simp only [Act.put, List.setIfInBounds_toArray, List.set_cons_zero, List.set_cons_succ]
        refine wpAnyH_ready (rs := [11]) (by kernel_rfl) (by simp) ?_
        refine AllReadyH.cons (o := { dst := some 83, op := Go.Op.call { callee := Go.Callee.value (Go.Operand.func 19), args := #[Go.Operand.tmp 82], argTypes := #[25] }, type := 34, pos := "more.go:27", after := #[{ on := 10, ground := Go.Ground.data }, { on := 9, ground := Go.Ground.chain }, { on := 9, ground := Go.Ground.guard }], guard := some (9, true) }) rfl (fun K hK => ?_) AllReadyH.nil
        go_simp
        refine (of6_any _ (⟨xsrc, xdst, true, xl⟩ : Dg) A5 xl.length _ OKX.out (HB6.out.keep hS0 (fun _ _ _ => id))).mono ?_
        rintro e w8 ⟨rfl, hx⟩
        have hS1 := hS0.trans hx
        clear hx
        refine hK.out _ _ hS1 (fun _ => ?_)
        refine wpAnyH_ready (rs := [13]) (by kernel_rfl) (by simp) ?_
        refine AllReadyH.cons (o := { dst := some 85, op := Go.Op.call { callee := Go.Callee.value (Go.Operand.func 19), args := #[Go.Operand.tmp 84], argTypes := #[25] }, type := 34, pos := "more.go:27", after := #[{ on := 12, ground := Go.Ground.data }, { on := 11, ground := Go.Ground.chain }, { on := 9, ground := Go.Ground.guard }], guard := some (9, true) }) rfl (fun K hK => ?_) AllReadyH.nil
        go_simp
        refine (of6_any _ (⟨xsrc, xdst, true, xl⟩ : Dg) A c _ OKX.out (HM.out.keep hS1 (fun _ _ _ => id))).mono ?_
        rintro e w9 ⟨rfl, hx⟩
        have hS2 := hS1.trans hx
        clear hx
        refine hK.out _ _ hS2 (fun _ => ?_)
        refine wpAnyH_take (i := 14) (oi := { dst := some 86, op := Go.Op.binOp Go.BinOp.eql 34 (Go.Operand.tmp 83) (Go.Operand.tmp 85) 34, type := 4, pos := "more.go:27", after := #[{ on := 11, ground := Go.Ground.data }, { on := 13, ground := Go.Ground.data }, { on := 9, ground := Go.Ground.guard }], guard := some (9, true) }) (v := ?v73) rfl (by kernel_rfl) (by kernel_rfl) (by kernel_rfl) (fun _ _ _ h => h) (Or.inl ⟨by rfl, ?hy73⟩) (by assumption) ?rest73
        case hy73 => (intro w hSw; (try dsimp only at hSw); have ecxb_0 := hSw.cell cxb_0 id; have ecxb_1 := hSw.cell cxb_1 id; have ecxb_3 := hSw.cell cxb_3 id; have ecxb_2 := hSw.cell cxb_2 id; have ecqb0 := hSw.cell cqb0 id; have ecqb1 := hSw.cell cqb1 id; have ecqb2 := hSw.cell cqb2 id; have ecqb3 := hSw.cell cqb3 id; have z1 := Z1.out; have z2 := Z2.out; go_simp <;> with_reducible rfl)
        try simp only [Act.put, List.setIfInBounds_toArray, List.set_cons_zero, List.set_cons_succ]
        refine wpAnyH_take (i := 15) (oi := { dst := some 87, op := Go.Op.pick (Go.Operand.tmp 81) (Go.Operand.tmp 86) (Go.Operand.const (Go.Value.bool false)), type := 4, pos := "more.go:27", after := #[{ on := 9, ground := Go.Ground.data }, { on := 14, ground := Go.Ground.data }], guard := none }) (v := ?v74) rfl (by kernel_rfl) (by kernel_rfl) (by kernel_rfl) (fun _ _ _ h => h) (Or.inl ⟨by rfl, ?hy74⟩) (by assumption) ?rest74
        case hy74 => (intro w hSw; (try dsimp only at hSw); have ecxb_0 := hSw.cell cxb_0 id; have ecxb_1 := hSw.cell cxb_1 id; have ecxb_3 := hSw.cell cxb_3 id; have ecxb_2 := hSw.cell cxb_2 id; have ecqb0 := hSw.cell cqb0 id; have ecqb1 := hSw.cell cqb1 id; have ecqb2 := hSw.cell cqb2 id; have ecqb3 := hSw.cell cqb3 id; have z1 := Z1.out; have z2 := Z2.out; go_simp <;> with_reducible rfl)
        try simp only [Act.put, List.setIfInBounds_toArray, List.set_cons_zero, List.set_cons_succ]
        refine wpAnyH_take (i := 16) (oi := { dst := some 8, op := Go.Op.assign (Go.Operand.tmp 87), type := 4, pos := "more.go:27", after := #[{ on := 15, ground := Go.Ground.data }, { on := 13, ground := Go.Ground.chain }, { on := 0, ground := Go.Ground.phase }, { on := 1, ground := Go.Ground.phase }, { on := 2, ground := Go.Ground.phase }, { on := 3, ground := Go.Ground.phase }, { on := 4, ground := Go.Ground.phase }, { on := 5, ground := Go.Ground.phase }, { on := 6, ground := Go.Ground.phase }, { on := 7, ground := Go.Ground.phase }, { on := 8, ground := Go.Ground.phase }, { on := 9, ground := Go.Ground.phase }, { on := 10, ground := Go.Ground.phase }, { on := 11, ground := Go.Ground.phase }, { on := 12, ground := Go.Ground.phase }, { on := 13, ground := Go.Ground.phase }, { on := 14, ground := Go.Ground.phase }, { on := 15, ground := Go.Ground.phase }], guard := none }) (v := ?v75) rfl (by kernel_rfl) (by kernel_rfl) (by kernel_rfl) (fun _ _ _ h => h) (Or.inl ⟨by rfl, ?hy75⟩) (by assumption) ?rest75
        case hy75 => (intro w hSw; (try dsimp only at hSw); have ecxb_0 := hSw.cell cxb_0 id; have ecxb_1 := hSw.cell cxb_1 id; have ecxb_3 := hSw.cell cxb_3 id; have ecxb_2 := hSw.cell cxb_2 id; have ecqb0 := hSw.cell cqb0 id; have ecqb1 := hSw.cell cqb1 id; have ecqb2 := hSw.cell cqb2 id; have ecqb3 := hSw.cell cqb3 id; have z1 := Z1.out; have z2 := Z2.out; go_simp <;> with_reducible rfl)
        try simp only [Act.put, List.setIfInBounds_toArray, List.set_cons_zero, List.set_cons_succ]
        refine wpAnyH_done (by kernel_rfl) ?_ _
        have hx := hS2
        clear hS0 hS1 hS2 cxb_0 cxb_1 cxb_3 cxb_2 cqb0 cqb1 cqb2 cqb3
        have HX_w9 := Lib.hid hx
        clear hx
        go_wp2_with fail
        go_ret
        exact ⟨rfl, ((((((HX_w1.out.trans HX_w2.out).andThen HX_w3.out (fun i hi e => by have := hb_xb_; omega)).trans HX_w4.out).trans HX_w5.out).trans HX_w6.out).trans HX_w9.out)⟩
      ·
        have her : uerr M (other6 s o) t = none := by exact HSL.out
        have HER := Lib.hid her
        clear her
        have f_o_lo : (o == s % 65536) = false := by rw [beq_eq_false_iff_ne]; omega
        have f_o_0 : (o == 0) = true := by rw [beq_iff_eq]; omega
        have f_s65536_65535 : (s % 65536 == 65535) = false := by rw [beq_eq_false_iff_ne]; omega
        have f_o_65535 : (o == 65535) = false := by rw [beq_eq_false_iff_ne]; omega
        clear p1 p2 p3
        have hq1 := HQ1.out
        have hw1 := HW1.out
        have hw2 := HW2.out
        have hw3 := HW3.out
        have hw4 := HW4.out
        have hrb := HO4.out.rb
        go_wp2_with fail
        refine (uparse_yes _ (some A4) (8 + xl.length) c4 M (other6 s o) t w4 hrb (fun h => by cases h) (by rw [HML.out]; omega) HO6.out HT.out HER.out).mono ?_
        rintro e w5 ⟨A5, rfl, hb5, hx⟩
        rw [HBK.out] at hb5 ⊢
        have hb5' : RB w5 (fun j => w4.heap.size ≤ j) (.slice A5 xl.length xl.length) xl := hb5
        have hv : dgv (⟨xsrc, xdst, true, xl⟩ : Dg) (.slice A5 (⟨xsrc, xdst, true, xl⟩ : Dg).b.length (⟨xsrc, xdst, true, xl⟩ : Dg).b.length) = .agg #[.int .u16 xsrc, .int .u16 xdst, .bool true, .slice A5 xl.length xl.length] := rfl
        rw [hv]
        clear hv hb5 hq1 hw1 hw2 hw3 hw4 hrb
        have HX_w5 := Lib.hid hx
        clear hx
        have HB5 := Lib.hid hb5'
        clear hb5'
        go_upto_region 6 with fail
        have hx : Ex (fun _ => False) w5 (w5.alloc (.cells #[.int .u16 xsrc, .int .u16 xdst, .bool true, .slice A5 xl.length xl.length] 25)) := (Ex.refl _ w5).alloc _
        have hb : (w5.alloc (.cells #[.int .u16 xsrc, .int .u16 xdst, .bool true, .slice A5 xl.length xl.length] 25)).heap[w5.heap.size]? = some (.cells #[.int .u16 xsrc, .int .u16 xdst, .bool true, .slice A5 xl.length xl.length] 25) := heap_alloc_new w5 _
        obtain ⟨qb, hqb⟩ : ∃ qb, qb = w5.heap.size := ⟨_, rfl⟩
        have hb_qb : w5.heap.size ≤ qb := by omega
        rw [← hqb] at hb
        try simp only [← hqb]
        generalize w5.alloc (.cells #[.int .u16 xsrc, .int .u16 xdst, .bool true, .slice A5 xl.length xl.length] 25) = w6 at hx hb ⊢
        clear hqb
        have HX_w6 := Lib.hid hx
        clear hx
        have B_qb := Lib.hid hb
        clear hb
        replace B_xb_ := Lib.hid ((((HX_w4.out.trans HX_w5.out).trans HX_w6.out).block xb_ (row_lt B_xb_.out) id).trans B_xb_.out)
        have cxb_2 := row_cell (k := 2) (v := .bool true) B_xb_.out rfl
        skip
        go_upto_region 8 with fail
        replace HM := Lib.hid (RB.keep HM.out (((((HX_w1.out.trans HX_w2.out).andThen HX_w3.out (fun i hi e => by have := hb_xb_; omega)).trans HX_w4.out).trans HX_w5.out).trans HX_w6.out) (fun _ _ _ => id))
        have cxb_0 := row_cell (k := 0) (v := .int .u16 xsrc) B_xb_.out rfl
        have cxb_1 := row_cell (k := 1) (v := .int .u16 xdst) B_xb_.out rfl
        have cxb_3 := row_cell (k := 3) (v := .slice A xl.length c) B_xb_.out rfl
        have cqb0 := row_cell (k := 0) (v := .int .u16 xsrc) B_qb.out rfl
        have cqb1 := row_cell (k := 1) (v := .int .u16 xdst) B_qb.out rfl
        have cqb2 := row_cell (k := 2) (v := .bool true) B_qb.out rfl
        have cqb3 := row_cell (k := 3) (v := .slice A5 xl.length xl.length) B_qb.out rfl
        have z1 : ∀ w, (binOp .eql 34 (rdv (⟨xsrc, xdst, true, xl⟩ : Dg)) (rdv (⟨xsrc, xdst, true, xl⟩ : Dg))).run Tryd.prog w = .ok (.bool true) w := fun w => by rw [rdv_eq, Dg.eqB_self]
        have z2 : ∀ w, (eqGuard .eql 34 (.tmp 83) (.tmp 85) (rdv (⟨xsrc, xdst, true, xl⟩ : Dg)) (rdv (⟨xsrc, xdst, true, xl⟩ : Dg))).run Tryd.prog w = .ok () w := fun w => rdv_guard .eql (.tmp 83) (.tmp 85) _ _ w
        have Z1 := Lib.hid z1
        have Z2 := Lib.hid z2
        have hb6 : RB w6 (fun j => w4.heap.size ≤ j) (.slice A5 xl.length xl.length) xl := HB5.out.keep HX_w6.out (fun _ _ _ => id)
        have HB6 := Lib.hid hb6
        have hS0 : Ex (fun _ => False) w6 w6.drew := (Ex.refl _ w6).drew
        clear z1 z2 hb6
        refine wp_region_held_drew (S := fun W => Ex (fun _ => False) w6 W) (by kernel_rfl) hS0 (fun _ => ?_)
        refine wpAnyH_take (i := 0) (oi := { dst := some 72, op := Go.Op.move (Go.Operand.tmp 9), type := 4, pos := "more.go:27", after := #[], guard := none }) (v := ?v76) rfl (by kernel_rfl) (by kernel_rfl) (by kernel_rfl) (fun _ _ _ h => h) (Or.inl ⟨by rfl, ?hy76⟩) (by assumption) ?rest76
        case hy76 => (intro w hSw; (try dsimp only at hSw); have ecxb_0 := hSw.cell cxb_0 id; have ecxb_1 := hSw.cell cxb_1 id; have ecxb_3 := hSw.cell cxb_3 id; have ecxb_2 := hSw.cell cxb_2 id; have ecqb0 := hSw.cell cqb0 id; have ecqb1 := hSw.cell cqb1 id; have ecqb2 := hSw.cell cqb2 id; have ecqb3 := hSw.cell cqb3 id; have z1 := Z1.out; have z2 := Z2.out; go_simp <;> with_reducible rfl)
        try simp only [Act.put, List.setIfInBounds_toArray, List.set_cons_zero, List.set_cons_succ]
        refine wpAnyH_take (i := 1) (oi := { dst := some 73, op := Go.Op.move (Go.Operand.tmp 72), type := 4, pos := "more.go:27", after := #[{ on := 0, ground := Go.Ground.data }], guard := none }) (v := ?v77) rfl (by kernel_rfl) (by kernel_rfl) (by kernel_rfl) (fun _ _ _ h => h) (Or.inl ⟨by rfl, ?hy77⟩) (by assumption) ?rest77
        case hy77 => (intro w hSw; (try dsimp only at hSw); have ecxb_0 := hSw.cell cxb_0 id; have ecxb_1 := hSw.cell cxb_1 id; have ecxb_3 := hSw.cell cxb_3 id; have ecxb_2 := hSw.cell cxb_2 id; have ecqb0 := hSw.cell cqb0 id; have ecqb1 := hSw.cell cqb1 id; have ecqb2 := hSw.cell cqb2 id; have ecqb3 := hSw.cell cqb3 id; have z1 := Z1.out; have z2 := Z2.out; go_simp <;> with_reducible rfl)
        try simp only [Act.put, List.setIfInBounds_toArray, List.set_cons_zero, List.set_cons_succ]
        refine wpAnyH_take (i := 2) (oi := { dst := some 74, op := Go.Op.move (Go.Operand.tmp 11), type := 29, pos := "more.go:27", after := #[{ on := 1, ground := Go.Ground.guard }], guard := some (1, true) }) (v := ?v78) rfl (by kernel_rfl) (by kernel_rfl) (by kernel_rfl) (fun _ _ _ h => h) (Or.inl ⟨by rfl, ?hy78⟩) (by assumption) ?rest78
        case hy78 => (intro w hSw; (try dsimp only at hSw); have ecxb_0 := hSw.cell cxb_0 id; have ecxb_1 := hSw.cell cxb_1 id; have ecxb_3 := hSw.cell cxb_3 id; have ecxb_2 := hSw.cell cxb_2 id; have ecqb0 := hSw.cell cqb0 id; have ecqb1 := hSw.cell cqb1 id; have ecqb2 := hSw.cell cqb2 id; have ecqb3 := hSw.cell cqb3 id; have z1 := Z1.out; have z2 := Z2.out; go_simp <;> with_reducible rfl)
        try simp only [Act.put, List.setIfInBounds_toArray, List.set_cons_zero, List.set_cons_succ]
        refine wpAnyH_take (i := 3) (oi := { dst := some 75, op := Go.Op.binOp Go.BinOp.eql 29 (Go.Operand.tmp 74) (Go.Operand.const Go.Value.nilIface) 29, type := 4, pos := "more.go:27", after := #[{ on := 2, ground := Go.Ground.data }, { on := 1, ground := Go.Ground.guard }], guard := some (1, true) }) (v := ?v79) rfl (by kernel_rfl) (by kernel_rfl) (by kernel_rfl) (fun _ _ _ h => h) (Or.inl ⟨by rfl, ?hy79⟩) (by assumption) ?rest79
        case hy79 => (intro w hSw; (try dsimp only at hSw); have ecxb_0 := hSw.cell cxb_0 id; have ecxb_1 := hSw.cell cxb_1 id; have ecxb_3 := hSw.cell cxb_3 id; have ecxb_2 := hSw.cell cxb_2 id; have ecqb0 := hSw.cell cqb0 id; have ecqb1 := hSw.cell cqb1 id; have ecqb2 := hSw.cell cqb2 id; have ecqb3 := hSw.cell cqb3 id; have z1 := Z1.out; have z2 := Z2.out; go_simp <;> with_reducible rfl)
        try simp only [Act.put, List.setIfInBounds_toArray, List.set_cons_zero, List.set_cons_succ]
        refine wpAnyH_take (i := 4) (oi := { dst := some 76, op := Go.Op.pick (Go.Operand.tmp 73) (Go.Operand.tmp 75) (Go.Operand.const (Go.Value.bool false)), type := 4, pos := "more.go:27", after := #[{ on := 1, ground := Go.Ground.data }, { on := 3, ground := Go.Ground.data }], guard := none }) (v := ?v80) rfl (by kernel_rfl) (by kernel_rfl) (by kernel_rfl) (fun _ _ _ h => h) (Or.inl ⟨by rfl, ?hy80⟩) (by assumption) ?rest80
        case hy80 => (intro w hSw; (try dsimp only at hSw); have ecxb_0 := hSw.cell cxb_0 id; have ecxb_1 := hSw.cell cxb_1 id; have ecxb_3 := hSw.cell cxb_3 id; have ecxb_2 := hSw.cell cxb_2 id; have ecqb0 := hSw.cell cqb0 id; have ecqb1 := hSw.cell cqb1 id; have ecqb2 := hSw.cell cqb2 id; have ecqb3 := hSw.cell cqb3 id; have z1 := Z1.out; have z2 := Z2.out; go_simp <;> with_reducible rfl)
        try simp only [Act.put, List.setIfInBounds_toArray, List.set_cons_zero, List.set_cons_succ]
        refine wpAnyH_take (i := 5) (oi := { dst := some 77, op := Go.Op.move (Go.Operand.tmp 76), type := 4, pos := "more.go:27", after := #[{ on := 4, ground := Go.Ground.data }, { on := 1, ground := Go.Ground.chain }], guard := none }) (v := ?v81) rfl (by kernel_rfl) (by kernel_rfl) (by kernel_rfl) (fun _ _ _ h => h) (Or.inl ⟨by rfl, ?hy81⟩) (by assumption) ?rest81
        case hy81 => (intro w hSw; (try dsimp only at hSw); have ecxb_0 := hSw.cell cxb_0 id; have ecxb_1 := hSw.cell cxb_1 id; have ecxb_3 := hSw.cell cxb_3 id; have ecxb_2 := hSw.cell cxb_2 id; have ecqb0 := hSw.cell cqb0 id; have ecqb1 := hSw.cell cqb1 id; have ecqb2 := hSw.cell cqb2 id; have ecqb3 := hSw.cell cqb3 id; have z1 := Z1.out; have z2 := Z2.out; go_simp <;> with_reducible rfl)
        try simp only [Act.put, List.setIfInBounds_toArray, List.set_cons_zero, List.set_cons_succ]
        refine wpAnyH_take (i := 6) (oi := { dst := some 78, op := Go.Op.move (Go.Operand.tmp 14), type := 29, pos := "more.go:27", after := #[{ on := 5, ground := Go.Ground.guard }], guard := some (5, true) }) (v := ?v82) rfl (by kernel_rfl) (by kernel_rfl) (by kernel_rfl) (fun _ _ _ h => h) (Or.inl ⟨by rfl, ?hy82⟩) (by assumption) ?rest82
        case hy82 => (intro w hSw; (try dsimp only at hSw); have ecxb_0 := hSw.cell cxb_0 id; have ecxb_1 := hSw.cell cxb_1 id; have ecxb_3 := hSw.cell cxb_3 id; have ecxb_2 := hSw.cell cxb_2 id; have ecqb0 := hSw.cell cqb0 id; have ecqb1 := hSw.cell cqb1 id; have ecqb2 := hSw.cell cqb2 id; have ecqb3 := hSw.cell cqb3 id; have z1 := Z1.out; have z2 := Z2.out; go_simp <;> with_reducible rfl)
        try simp only [Act.put, List.setIfInBounds_toArray, List.set_cons_zero, List.set_cons_succ]
        refine wpAnyH_take (i := 7) (oi := { dst := some 79, op := Go.Op.binOp Go.BinOp.eql 29 (Go.Operand.tmp 78) (Go.Operand.const Go.Value.nilIface) 29, type := 4, pos := "more.go:27", after := #[{ on := 6, ground := Go.Ground.data }, { on := 5, ground := Go.Ground.guard }], guard := some (5, true) }) (v := ?v83) rfl (by kernel_rfl) (by kernel_rfl) (by kernel_rfl) (fun _ _ _ h => h) (Or.inl ⟨by rfl, ?hy83⟩) (by assumption) ?rest83
        case hy83 => (intro w hSw; (try dsimp only at hSw); have ecxb_0 := hSw.cell cxb_0 id; have ecxb_1 := hSw.cell cxb_1 id; have ecxb_3 := hSw.cell cxb_3 id; have ecxb_2 := hSw.cell cxb_2 id; have ecqb0 := hSw.cell cqb0 id; have ecqb1 := hSw.cell cqb1 id; have ecqb2 := hSw.cell cqb2 id; have ecqb3 := hSw.cell cqb3 id; have z1 := Z1.out; have z2 := Z2.out; go_simp <;> with_reducible rfl)
        try simp only [Act.put, List.setIfInBounds_toArray, List.set_cons_zero, List.set_cons_succ]
        refine wpAnyH_take (i := 8) (oi := { dst := some 80, op := Go.Op.pick (Go.Operand.tmp 77) (Go.Operand.tmp 79) (Go.Operand.const (Go.Value.bool false)), type := 4, pos := "more.go:27", after := #[{ on := 5, ground := Go.Ground.data }, { on := 7, ground := Go.Ground.data }], guard := none }) (v := ?v84) rfl (by kernel_rfl) (by kernel_rfl) (by kernel_rfl) (fun _ _ _ h => h) (Or.inl ⟨by rfl, ?hy84⟩) (by assumption) ?rest84
        case hy84 => (intro w hSw; (try dsimp only at hSw); have ecxb_0 := hSw.cell cxb_0 id; have ecxb_1 := hSw.cell cxb_1 id; have ecxb_3 := hSw.cell cxb_3 id; have ecxb_2 := hSw.cell cxb_2 id; have ecqb0 := hSw.cell cqb0 id; have ecqb1 := hSw.cell cqb1 id; have ecqb2 := hSw.cell cqb2 id; have ecqb3 := hSw.cell cqb3 id; have z1 := Z1.out; have z2 := Z2.out; go_simp <;> with_reducible rfl)
        try simp only [Act.put, List.setIfInBounds_toArray, List.set_cons_zero, List.set_cons_succ]
        refine wpAnyH_take (i := 9) (oi := { dst := some 81, op := Go.Op.move (Go.Operand.tmp 80), type := 4, pos := "more.go:27", after := #[{ on := 8, ground := Go.Ground.data }, { on := 5, ground := Go.Ground.chain }], guard := none }) (v := ?v85) rfl (by kernel_rfl) (by kernel_rfl) (by kernel_rfl) (fun _ _ _ h => h) (Or.inl ⟨by rfl, ?hy85⟩) (by assumption) ?rest85
        case hy85 => (intro w hSw; (try dsimp only at hSw); have ecxb_0 := hSw.cell cxb_0 id; have ecxb_1 := hSw.cell cxb_1 id; have ecxb_3 := hSw.cell cxb_3 id; have ecxb_2 := hSw.cell cxb_2 id; have ecqb0 := hSw.cell cqb0 id; have ecqb1 := hSw.cell cqb1 id; have ecqb2 := hSw.cell cqb2 id; have ecqb3 := hSw.cell cqb3 id; have z1 := Z1.out; have z2 := Z2.out; go_simp <;> with_reducible rfl)
        try simp only [Act.put, List.setIfInBounds_toArray, List.set_cons_zero, List.set_cons_succ]
        refine wpAnyH_take (i := 10) (oi := { dst := some 82, op := Go.Op.load 25 (Go.Operand.tmp 13), type := 25, pos := "more.go:27", after := #[{ on := 9, ground := Go.Ground.guard }], guard := some (9, true) }) (v := ?v86) rfl (by kernel_rfl) (by kernel_rfl) (by kernel_rfl) (fun _ _ _ h => h) (Or.inl ⟨by rfl, ?hy86⟩) (by assumption) ?rest86
        case hy86 => (intro w hSw; (try dsimp only at hSw); have ecxb_0 := hSw.cell cxb_0 id; have ecxb_1 := hSw.cell cxb_1 id; have ecxb_3 := hSw.cell cxb_3 id; have ecxb_2 := hSw.cell cxb_2 id; have ecqb0 := hSw.cell cqb0 id; have ecqb1 := hSw.cell cqb1 id; have ecqb2 := hSw.cell cqb2 id; have ecqb3 := hSw.cell cqb3 id; have z1 := Z1.out; have z2 := Z2.out; go_simp <;> with_reducible rfl)
        try simp only [Act.put, List.setIfInBounds_toArray, List.set_cons_zero, List.set_cons_succ]
        refine wpAnyH_take (i := 12) (oi := { dst := some 84, op := Go.Op.load 25 (Go.Operand.tmp 4), type := 25, pos := "more.go:27", after := #[{ on := 9, ground := Go.Ground.guard }], guard := some (9, true) }) (v := ?v87) rfl (by kernel_rfl) (by kernel_rfl) (by kernel_rfl) (fun _ _ _ h => h) (Or.inl ⟨by rfl, ?hy87⟩) (by assumption) ?rest87
        case hy87 => (intro w hSw; (try dsimp only at hSw); have ecxb_0 := hSw.cell cxb_0 id; have ecxb_1 := hSw.cell cxb_1 id; have ecxb_3 := hSw.cell cxb_3 id; have ecxb_2 := hSw.cell cxb_2 id; have ecqb0 := hSw.cell cqb0 id; have ecqb1 := hSw.cell cqb1 id; have ecqb2 := hSw.cell cqb2 id; have ecqb3 := hSw.cell cqb3 id; have z1 := Z1.out; have z2 := Z2.out; go_simp <;> with_reducible rfl)
        try simp only [Act.put, List.setIfInBounds_toArray, List.set_cons_zero, List.set_cons_succ]
        refine wpAnyH_ready (rs := [11]) (by kernel_rfl) (by simp) ?_
        refine AllReadyH.cons (o := { dst := some 83, op := Go.Op.call { callee := Go.Callee.value (Go.Operand.func 19), args := #[Go.Operand.tmp 82], argTypes := #[25] }, type := 34, pos := "more.go:27", after := #[{ on := 10, ground := Go.Ground.data }, { on := 9, ground := Go.Ground.chain }, { on := 9, ground := Go.Ground.guard }], guard := some (9, true) }) rfl (fun K hK => ?_) AllReadyH.nil
        go_simp
        refine (of6_any _ (⟨xsrc, xdst, true, xl⟩ : Dg) A5 xl.length _ OKX.out (HB6.out.keep hS0 (fun _ _ _ => id))).mono ?_
        rintro e w8 ⟨rfl, hx⟩
        have hS1 := hS0.trans hx
        clear hx
        refine hK.out _ _ hS1 (fun _ => ?_)
        refine wpAnyH_ready (rs := [13]) (by kernel_rfl) (by simp) ?_
        refine AllReadyH.cons (o := { dst := some 85, op := Go.Op.call { callee := Go.Callee.value (Go.Operand.func 19), args := #[Go.Operand.tmp 84], argTypes := #[25] }, type := 34, pos := "more.go:27", after := #[{ on := 12, ground := Go.Ground.data }, { on := 11, ground := Go.Ground.chain }, { on := 9, ground := Go.Ground.guard }], guard := some (9, true) }) rfl (fun K hK => ?_) AllReadyH.nil
        go_simp
        refine (of6_any _ (⟨xsrc, xdst, true, xl⟩ : Dg) A c _ OKX.out (HM.out.keep hS1 (fun _ _ _ => id))).mono ?_
        rintro e w9 ⟨rfl, hx⟩
        have hS2 := hS1.trans hx
        clear hx
        refine hK.out _ _ hS2 (fun _ => ?_)
        refine wpAnyH_take (i := 14) (oi := { dst := some 86, op := Go.Op.binOp Go.BinOp.eql 34 (Go.Operand.tmp 83) (Go.Operand.tmp 85) 34, type := 4, pos := "more.go:27", after := #[{ on := 11, ground := Go.Ground.data }, { on := 13, ground := Go.Ground.data }, { on := 9, ground := Go.Ground.guard }], guard := some (9, true) }) (v := ?v88) rfl (by kernel_rfl) (by kernel_rfl) (by kernel_rfl) (fun _ _ _ h => h) (Or.inl ⟨by rfl, ?hy88⟩) (by assumption) ?rest88
        case hy88 => (intro w hSw; (try dsimp only at hSw); have ecxb_0 := hSw.cell cxb_0 id; have ecxb_1 := hSw.cell cxb_1 id; have ecxb_3 := hSw.cell cxb_3 id; have ecxb_2 := hSw.cell cxb_2 id; have ecqb0 := hSw.cell cqb0 id; have ecqb1 := hSw.cell cqb1 id; have ecqb2 := hSw.cell cqb2 id; have ecqb3 := hSw.cell cqb3 id; have z1 := Z1.out; have z2 := Z2.out; go_simp <;> with_reducible rfl)
        try simp only [Act.put, List.setIfInBounds_toArray, List.set_cons_zero, List.set_cons_succ]
        refine wpAnyH_take (i := 15) (oi := { dst := some 87, op := Go.Op.pick (Go.Operand.tmp 81) (Go.Operand.tmp 86) (Go.Operand.const (Go.Value.bool false)), type := 4, pos := "more.go:27", after := #[{ on := 9, ground := Go.Ground.data }, { on := 14, ground := Go.Ground.data }], guard := none }) (v := ?v89) rfl (by kernel_rfl) (by kernel_rfl) (by kernel_rfl) (fun _ _ _ h => h) (Or.inl ⟨by rfl, ?hy89⟩) (by assumption) ?rest89
        case hy89 => (intro w hSw; (try dsimp only at hSw); have ecxb_0 := hSw.cell cxb_0 id; have ecxb_1 := hSw.cell cxb_1 id; have ecxb_3 := hSw.cell cxb_3 id; have ecxb_2 := hSw.cell cxb_2 id; have ecqb0 := hSw.cell cqb0 id; have ecqb1 := hSw.cell cqb1 id; have ecqb2 := hSw.cell cqb2 id; have ecqb3 := hSw.cell cqb3 id; have z1 := Z1.out; have z2 := Z2.out; go_simp <;> with_reducible rfl)
        try simp only [Act.put, List.setIfInBounds_toArray, List.set_cons_zero, List.set_cons_succ]
        refine wpAnyH_take (i := 16) (oi := { dst := some 8, op := Go.Op.assign (Go.Operand.tmp 87), type := 4, pos := "more.go:27", after := #[{ on := 15, ground := Go.Ground.data }, { on := 13, ground := Go.Ground.chain }, { on := 0, ground := Go.Ground.phase }, { on := 1, ground := Go.Ground.phase }, { on := 2, ground := Go.Ground.phase }, { on := 3, ground := Go.Ground.phase }, { on := 4, ground := Go.Ground.phase }, { on := 5, ground := Go.Ground.phase }, { on := 6, ground := Go.Ground.phase }, { on := 7, ground := Go.Ground.phase }, { on := 8, ground := Go.Ground.phase }, { on := 9, ground := Go.Ground.phase }, { on := 10, ground := Go.Ground.phase }, { on := 11, ground := Go.Ground.phase }, { on := 12, ground := Go.Ground.phase }, { on := 13, ground := Go.Ground.phase }, { on := 14, ground := Go.Ground.phase }, { on := 15, ground := Go.Ground.phase }], guard := none }) (v := ?v90) rfl (by kernel_rfl) (by kernel_rfl) (by kernel_rfl) (fun _ _ _ h => h) (Or.inl ⟨by rfl, ?hy90⟩) (by assumption) ?rest90
        case hy90 => (intro w hSw; (try dsimp only at hSw); have ecxb_0 := hSw.cell cxb_0 id; have ecxb_1 := hSw.cell cxb_1 id; have ecxb_3 := hSw.cell cxb_3 id; have ecxb_2 := hSw.cell cxb_2 id; have ecqb0 := hSw.cell cqb0 id; have ecqb1 := hSw.cell cqb1 id; have ecqb2 := hSw.cell cqb2 id; have ecqb3 := hSw.cell cqb3 id; have z1 := Z1.out; have z2 := Z2.out; go_simp <;> with_reducible rfl)
        try simp only [Act.put, List.setIfInBounds_toArray, List.set_cons_zero, List.set_cons_succ]
        refine wpAnyH_done (by kernel_rfl) ?_ _
        have hx := hS2
        clear hS0 hS1 hS2 cxb_0 cxb_1 cxb_3 cxb_2 cqb0 cqb1 cqb2 cqb3
        have HX_w9 := Lib.hid hx
        clear hx
        go_wp2_with fail
        go_ret
        exact ⟨rfl, ((((((HX_w1.out.trans HX_w2.out).andThen HX_w3.out (fun i hi e => by have := hb_xb_; omega)).trans HX_w4.out).trans HX_w5.out).trans HX_w6.out).trans HX_w9.out)⟩
    by_cases p3 : o = 65535
    ·
      by_cases p4 : s % 65536 = 0
      ·
        have her : uerr M (other6 s o) t = none := by exact HSL.out
        have HER := Lib.hid her
        clear her
        have f_o_lo : (o == s % 65536) = false := by rw [beq_eq_false_iff_ne]; omega
        have f_o_0 : (o == 0) = false := by rw [beq_eq_false_iff_ne]; omega
        have f_o_65535 : (o == 65535) = true := by rw [beq_iff_eq]; omega
        have f_s65536_0 : (s % 65536 == 0) = true := by rw [beq_iff_eq]; omega
        clear p1 p2 p3 p4
        have hq1 := HQ1.out
        have hw1 := HW1.out
        have hw2 := HW2.out
        have hw3 := HW3.out
        have hw4 := HW4.out
        have hrb := HO4.out.rb
        go_wp2_with fail
        refine (uparse_yes _ (some A4) (8 + xl.length) c4 M (other6 s o) t w4 hrb (fun h => by cases h) (by rw [HML.out]; omega) HO6.out HT.out HER.out).mono ?_
        rintro e w5 ⟨A5, rfl, hb5, hx⟩
        rw [HBK.out] at hb5 ⊢
        have hb5' : RB w5 (fun j => w4.heap.size ≤ j) (.slice A5 xl.length xl.length) xl := hb5
        have hv : dgv (⟨xsrc, xdst, true, xl⟩ : Dg) (.slice A5 (⟨xsrc, xdst, true, xl⟩ : Dg).b.length (⟨xsrc, xdst, true, xl⟩ : Dg).b.length) = .agg #[.int .u16 xsrc, .int .u16 xdst, .bool true, .slice A5 xl.length xl.length] := rfl
        rw [hv]
        clear hv hb5 hq1 hw1 hw2 hw3 hw4 hrb
        have HX_w5 := Lib.hid hx
        clear hx
        have HB5 := Lib.hid hb5'
        clear hb5'
        go_upto_region 6 with fail
        have hx : Ex (fun _ => False) w5 (w5.alloc (.cells #[.int .u16 xsrc, .int .u16 xdst, .bool true, .slice A5 xl.length xl.length] 25)) := (Ex.refl _ w5).alloc _
        have hb : (w5.alloc (.cells #[.int .u16 xsrc, .int .u16 xdst, .bool true, .slice A5 xl.length xl.length] 25)).heap[w5.heap.size]? = some (.cells #[.int .u16 xsrc, .int .u16 xdst, .bool true, .slice A5 xl.length xl.length] 25) := heap_alloc_new w5 _
        obtain ⟨qb, hqb⟩ : ∃ qb, qb = w5.heap.size := ⟨_, rfl⟩
        have hb_qb : w5.heap.size ≤ qb := by omega
        rw [← hqb] at hb
        try simp only [← hqb]
        generalize w5.alloc (.cells #[.int .u16 xsrc, .int .u16 xdst, .bool true, .slice A5 xl.length xl.length] 25) = w6 at hx hb ⊢
        clear hqb
        have HX_w6 := Lib.hid hx
        clear hx
        have B_qb := Lib.hid hb
        clear hb
        replace B_xb_ := Lib.hid ((((HX_w4.out.trans HX_w5.out).trans HX_w6.out).block xb_ (row_lt B_xb_.out) id).trans B_xb_.out)
        have cxb_2 := row_cell (k := 2) (v := .bool true) B_xb_.out rfl
        skip
        go_upto_region 8 with fail
        replace HM := Lib.hid (RB.keep HM.out (((((HX_w1.out.trans HX_w2.out).andThen HX_w3.out (fun i hi e => by have := hb_xb_; omega)).trans HX_w4.out).trans HX_w5.out).trans HX_w6.out) (fun _ _ _ => id))
        have cxb_0 := row_cell (k := 0) (v := .int .u16 xsrc) B_xb_.out rfl
        have cxb_1 := row_cell (k := 1) (v := .int .u16 xdst) B_xb_.out rfl
        have cxb_3 := row_cell (k := 3) (v := .slice A xl.length c) B_xb_.out rfl
        have cqb0 := row_cell (k := 0) (v := .int .u16 xsrc) B_qb.out rfl
        have cqb1 := row_cell (k := 1) (v := .int .u16 xdst) B_qb.out rfl
        have cqb2 := row_cell (k := 2) (v := .bool true) B_qb.out rfl
        have cqb3 := row_cell (k := 3) (v := .slice A5 xl.length xl.length) B_qb.out rfl
        have z1 : ∀ w, (binOp .eql 34 (rdv (⟨xsrc, xdst, true, xl⟩ : Dg)) (rdv (⟨xsrc, xdst, true, xl⟩ : Dg))).run Tryd.prog w = .ok (.bool true) w := fun w => by rw [rdv_eq, Dg.eqB_self]
        have z2 : ∀ w, (eqGuard .eql 34 (.tmp 83) (.tmp 85) (rdv (⟨xsrc, xdst, true, xl⟩ : Dg)) (rdv (⟨xsrc, xdst, true, xl⟩ : Dg))).run Tryd.prog w = .ok () w := fun w => rdv_guard .eql (.tmp 83) (.tmp 85) _ _ w
        have Z1 := Lib.hid z1
        have Z2 := Lib.hid z2
        have hb6 : RB w6 (fun j => w4.heap.size ≤ j) (.slice A5 xl.length xl.length) xl := HB5.out.keep HX_w6.out (fun _ _ _ => id)
        have HB6 := Lib.hid hb6
        have hS0 : Ex (fun _ => False) w6 w6.drew := (Ex.refl _ w6).drew
        clear z1 z2 hb6
        refine wp_region_held_drew (S := fun W => Ex (fun _ => False) w6 W) (by kernel_rfl) hS0 (fun _ => ?_)
        refine wpAnyH_take (i := 0) (oi := { dst := some 72, op := Go.Op.move (Go.Operand.tmp 9), type := 4, pos := "more.go:27", after := #[], guard := none }) (v := ?v91) rfl (by kernel_rfl) (by kernel_rfl) (by kernel_rfl) (fun _ _ _ h => h) (Or.inl ⟨by rfl, ?hy91⟩) (by assumption) ?rest91
        case hy91 => (intro w hSw; (try dsimp only at hSw); have ecxb_0 := hSw.cell cxb_0 id; have ecxb_1 := hSw.cell cxb_1 id; have ecxb_3 := hSw.cell cxb_3 id; have ecxb_2 := hSw.cell cxb_2 id; have ecqb0 := hSw.cell cqb0 id; have ecqb1 := hSw.cell cqb1 id; have ecqb2 := hSw.cell cqb2 id; have ecqb3 := hSw.cell cqb3 id; have z1 := Z1.out; have z2 := Z2.out; go_simp <;> with_reducible rfl)
        try simp only [Act.put, List.setIfInBounds_toArray, List.set_cons_zero, List.set_cons_succ]
        refine wpAnyH_take (i := 1) (oi := { dst := some 73, op := Go.Op.move (Go.Operand.tmp 72), type := 4, pos := "more.go:27", after := #[{ on := 0, ground := Go.Ground.data }], guard := none }) (v := ?v92) rfl (by kernel_rfl) (by kernel_rfl) (by kernel_rfl) (fun _ _ _ h => h) (Or.inl ⟨by rfl, ?hy92⟩) (by assumption) ?rest92
        case hy92 => (intro w hSw; (try dsimp only at hSw); have ecxb_0 := hSw.cell cxb_0 id; have ecxb_1 := hSw.cell cxb_1 id; have ecxb_3 := hSw.cell cxb_3 id; have ecxb_2 := hSw.cell cxb_2 id; have ecqb0 := hSw.cell cqb0 id; have ecqb1 := hSw.cell cqb1 id; have ecqb2 := hSw.cell cqb2 id; have ecqb3 := hSw.cell cqb3 id; have z1 := Z1.out; have z2 := Z2.out; go_simp <;> with_reducible rfl)
        try simp only [Act.put, List.setIfInBounds_toArray, List.set_cons_zero, List.set_cons_succ]
        refine wpAnyH_take (i := 2) (oi := { dst := some 74, op := Go.Op.move (Go.Operand.tmp 11), type := 29, pos := "more.go:27", after := #[{ on := 1, ground := Go.Ground.guard }], guard := some (1, true) }) (v := ?v93) rfl (by kernel_rfl) (by kernel_rfl) (by kernel_rfl) (fun _ _ _ h => h) (Or.inl ⟨by rfl, ?hy93⟩) (by assumption) ?rest93
        case hy93 => (intro w hSw; (try dsimp only at hSw); have ecxb_0 := hSw.cell cxb_0 id; have ecxb_1 := hSw.cell cxb_1 id; have ecxb_3 := hSw.cell cxb_3 id; have ecxb_2 := hSw.cell cxb_2 id; have ecqb0 := hSw.cell cqb0 id; have ecqb1 := hSw.cell cqb1 id; have ecqb2 := hSw.cell cqb2 id; have ecqb3 := hSw.cell cqb3 id; have z1 := Z1.out; have z2 := Z2.out; go_simp <;> with_reducible rfl)
        try simp only [Act.put, List.setIfInBounds_toArray, List.set_cons_zero, List.set_cons_succ]
        refine wpAnyH_take (i := 3) (oi := { dst := some 75, op := Go.Op.binOp Go.BinOp.eql 29 (Go.Operand.tmp 74) (Go.Operand.const Go.Value.nilIface) 29, type := 4, pos := "more.go:27", after := #[{ on := 2, ground := Go.Ground.data }, { on := 1, ground := Go.Ground.guard }], guard := some (1, true) }) (v := ?v94) rfl (by kernel_rfl) (by kernel_rfl) (by kernel_rfl) (fun _ _ _ h => h) (Or.inl ⟨by rfl, ?hy94⟩) (by assumption) ?rest94
        case hy94 => (intro w hSw; (try dsimp only at hSw); have ecxb_0 := hSw.cell cxb_0 id; have ecxb_1 := hSw.cell cxb_1 id; have ecxb_3 := hSw.cell cxb_3 id; have ecxb_2 := hSw.cell cxb_2 id; have ecqb0 := hSw.cell cqb0 id; have ecqb1 := hSw.cell cqb1 id; have ecqb2 := hSw.cell cqb2 id; have ecqb3 := hSw.cell cqb3 id; have z1 := Z1.out; have z2 := Z2.out; go_simp <;> with_reducible rfl)
        try simp only [Act.put, List.setIfInBounds_toArray, List.set_cons_zero, List.set_cons_succ]
        refine wpAnyH_take (i := 4) (oi := { dst := some 76, op := Go.Op.pick (Go.Operand.tmp 73) (Go.Operand.tmp 75) (Go.Operand.const (Go.Value.bool false)), type := 4, pos := "more.go:27", after := #[{ on := 1, ground := Go.Ground.data }, { on := 3, ground := Go.Ground.data }], guard := none }) (v := ?v95) rfl (by kernel_rfl) (by kernel_rfl) (by kernel_rfl) (fun _ _ _ h => h) (Or.inl ⟨by rfl, ?hy95⟩) (by assumption) ?rest95
        case hy95 => (intro w hSw; (try dsimp only at hSw); have ecxb_0 := hSw.cell cxb_0 id; have ecxb_1 := hSw.cell cxb_1 id; have ecxb_3 := hSw.cell cxb_3 id; have ecxb_2 := hSw.cell cxb_2 id; have ecqb0 := hSw.cell cqb0 id; have ecqb1 := hSw.cell cqb1 id; have ecqb2 := hSw.cell cqb2 id; have ecqb3 := hSw.cell cqb3 id; have z1 := Z1.out; have z2 := Z2.out; go_simp <;> with_reducible rfl)
        try simp only [Act.put, List.setIfInBounds_toArray, List.set_cons_zero, List.set_cons_succ]
        refine wpAnyH_take (i := 5) (oi := { dst := some 77, op := Go.Op.move (Go.Operand.tmp 76), type := 4, pos := "more.go:27", after := #[{ on := 4, ground := Go.Ground.data }, { on := 1, ground := Go.Ground.chain }], guard := none }) (v := ?v96) rfl (by kernel_rfl) (by kernel_rfl) (by kernel_rfl) (fun _ _ _ h => h) (Or.inl ⟨by rfl, ?hy96⟩) (by assumption) ?rest96
        case hy96 => (intro w hSw; (try dsimp only at hSw); have ecxb_0 := hSw.cell cxb_0 id; have ecxb_1 := hSw.cell cxb_1 id; have ecxb_3 := hSw.cell cxb_3 id; have ecxb_2 := hSw.cell cxb_2 id; have ecqb0 := hSw.cell cqb0 id; have ecqb1 := hSw.cell cqb1 id; have ecqb2 := hSw.cell cqb2 id; have ecqb3 := hSw.cell cqb3 id; have z1 := Z1.out; have z2 := Z2.out; go_simp <;> with_reducible rfl)
        try simp only [Act.put, List.setIfInBounds_toArray, List.set_cons_zero, List.set_cons_succ]
        refine wpAnyH_take (i := 6) (oi := { dst := some 78, op := Go.Op.move (Go.Operand.tmp 14), type := 29, pos := "more.go:27", after := #[{ on := 5, ground := Go.Ground.guard }], guard := some (5, true) }) (v := ?v97) rfl (by kernel_rfl) (by kernel_rfl) (by kernel_rfl) (fun _ _ _ h => h) (Or.inl ⟨by rfl, ?hy97⟩) (by assumption) ?rest97
        case hy97 => (intro w hSw; (try dsimp only at hSw); have ecxb_0 := hSw.cell cxb_0 id; have ecxb_1 := hSw.cell cxb_1 id; have ecxb_3 := hSw.cell cxb_3 id; have ecxb_2 := hSw.cell cxb_2 id; have ecqb0 := hSw.cell cqb0 id; have ecqb1 := hSw.cell cqb1 id; have ecqb2 := hSw.cell cqb2 id; have ecqb3 := hSw.cell cqb3 id; have z1 := Z1.out; have z2 := Z2.out; go_simp <;> with_reducible rfl)
        try simp only [Act.put, List.setIfInBounds_toArray, List.set_cons_zero, List.set_cons_succ]
        refine wpAnyH_take (i := 7) (oi := { dst := some 79, op := Go.Op.binOp Go.BinOp.eql 29 (Go.Operand.tmp 78) (Go.Operand.const Go.Value.nilIface) 29, type := 4, pos := "more.go:27", after := #[{ on := 6, ground := Go.Ground.data }, { on := 5, ground := Go.Ground.guard }], guard := some (5, true) }) (v := ?v98) rfl (by kernel_rfl) (by kernel_rfl) (by kernel_rfl) (fun _ _ _ h => h) (Or.inl ⟨by rfl, ?hy98⟩) (by assumption) ?rest98
        case hy98 => (intro w hSw; (try dsimp only at hSw); have ecxb_0 := hSw.cell cxb_0 id; have ecxb_1 := hSw.cell cxb_1 id; have ecxb_3 := hSw.cell cxb_3 id; have ecxb_2 := hSw.cell cxb_2 id; have ecqb0 := hSw.cell cqb0 id; have ecqb1 := hSw.cell cqb1 id; have ecqb2 := hSw.cell cqb2 id; have ecqb3 := hSw.cell cqb3 id; have z1 := Z1.out; have z2 := Z2.out; go_simp <;> with_reducible rfl)
        try simp only [Act.put, List.setIfInBounds_toArray, List.set_cons_zero, List.set_cons_succ]
        refine wpAnyH_take (i := 8) (oi := { dst := some 80, op := Go.Op.pick (Go.Operand.tmp 77) (Go.Operand.tmp 79) (Go.Operand.const (Go.Value.bool false)), type := 4, pos := "more.go:27", after := #[{ on := 5, ground := Go.Ground.data }, { on := 7, ground := Go.Ground.data }], guard := none }) (v := ?v99) rfl (by kernel_rfl) (by kernel_rfl) (by kernel_rfl) (fun _ _ _ h => h) (Or.inl ⟨by rfl, ?hy99⟩) (by assumption) ?rest99
        case hy99 => (intro w hSw; (try dsimp only at hSw); have ecxb_0 := hSw.cell cxb_0 id; have ecxb_1 := hSw.cell cxb_1 id; have ecxb_3 := hSw.cell cxb_3 id; have ecxb_2 := hSw.cell cxb_2 id; have ecqb0 := hSw.cell cqb0 id; have ecqb1 := hSw.cell cqb1 id; have ecqb2 := hSw.cell cqb2 id; have ecqb3 := hSw.cell cqb3 id; have z1 := Z1.out; have z2 := Z2.out; go_simp <;> with_reducible rfl)
        try simp only [Act.put, List.setIfInBounds_toArray, List.set_cons_zero, List.set_cons_succ]
        refine wpAnyH_take (i := 9) (oi := { dst := some 81, op := Go.Op.move (Go.Operand.tmp 80), type := 4, pos := "more.go:27", after := #[{ on := 8, ground := Go.Ground.data }, { on := 5, ground := Go.Ground.chain }], guard := none }) (v := ?v100) rfl (by kernel_rfl) (by kernel_rfl) (by kernel_rfl) (fun _ _ _ h => h) (Or.inl ⟨by rfl, ?hy100⟩) (by assumption) ?rest100
        case hy100 => (intro w hSw; (try dsimp only at hSw); have ecxb_0 := hSw.cell cxb_0 id; have ecxb_1 := hSw.cell cxb_1 id; have ecxb_3 := hSw.cell cxb_3 id; have ecxb_2 := hSw.cell cxb_2 id; have ecqb0 := hSw.cell cqb0 id; have ecqb1 := hSw.cell cqb1 id; have ecqb2 := hSw.cell cqb2 id; have ecqb3 := hSw.cell cqb3 id; have z1 := Z1.out; have z2 := Z2.out; go_simp <;> with_reducible rfl)
        try simp only [Act.put, List.setIfInBounds_toArray, List.set_cons_zero, List.set_cons_succ]
        refine wpAnyH_take (i := 10) (oi := { dst := some 82, op := Go.Op.load 25 (Go.Operand.tmp 13), type := 25, pos := "more.go:27", after := #[{ on := 9, ground := Go.Ground.guard }], guard := some (9, true) }) (v := ?v101) rfl (by kernel_rfl) (by kernel_rfl) (by kernel_rfl) (fun _ _ _ h => h) (Or.inl ⟨by rfl, ?hy101⟩) (by assumption) ?rest101
        case hy101 => (intro w hSw; (try dsimp only at hSw); have ecxb_0 := hSw.cell cxb_0 id; have ecxb_1 := hSw.cell cxb_1 id; have ecxb_3 := hSw.cell cxb_3 id; have ecxb_2 := hSw.cell cxb_2 id; have ecqb0 := hSw.cell cqb0 id; have ecqb1 := hSw.cell cqb1 id; have ecqb2 := hSw.cell cqb2 id; have ecqb3 := hSw.cell cqb3 id; have z1 := Z1.out; have z2 := Z2.out; go_simp <;> with_reducible rfl)
        try simp only [Act.put, List.setIfInBounds_toArray, List.set_cons_zero, List.set_cons_succ]
        refine wpAnyH_take (i := 12) (oi := { dst := some 84, op := Go.Op.load 25 (Go.Operand.tmp 4), type := 25, pos := "more.go:27", after := #[{ on := 9, ground := Go.Ground.guard }], guard := some (9, true) }) (v := ?v102) rfl (by kernel_rfl) (by kernel_rfl) (by kernel_rfl) (fun _ _ _ h => h) (Or.inl ⟨by rfl, ?hy102⟩) (by assumption) ?rest102
        case hy102 => (intro w hSw; (try dsimp only at hSw); have ecxb_0 := hSw.cell cxb_0 id; have ecxb_1 := hSw.cell cxb_1 id; have ecxb_3 := hSw.cell cxb_3 id; have ecxb_2 := hSw.cell cxb_2 id; have ecqb0 := hSw.cell cqb0 id; have ecqb1 := hSw.cell cqb1 id; have ecqb2 := hSw.cell cqb2 id; have ecqb3 := hSw.cell cqb3 id; have z1 := Z1.out; have z2 := Z2.out; go_simp <;> with_reducible rfl)
        try simp only [Act.put, List.setIfInBounds_toArray, List.set_cons_zero, List.set_cons_succ]
        refine wpAnyH_ready (rs := [11]) (by kernel_rfl) (by simp) ?_
        refine AllReadyH.cons (o := { dst := some 83, op := Go.Op.call { callee := Go.Callee.value (Go.Operand.func 19), args := #[Go.Operand.tmp 82], argTypes := #[25] }, type := 34, pos := "more.go:27", after := #[{ on := 10, ground := Go.Ground.data }, { on := 9, ground := Go.Ground.chain }, { on := 9, ground := Go.Ground.guard }], guard := some (9, true) }) rfl (fun K hK => ?_) AllReadyH.nil
        go_simp
        refine (of6_any _ (⟨xsrc, xdst, true, xl⟩ : Dg) A5 xl.length _ OKX.out (HB6.out.keep hS0 (fun _ _ _ => id))).mono ?_
        rintro e w8 ⟨rfl, hx⟩
        have hS1 := hS0.trans hx
        clear hx
        refine hK.out _ _ hS1 (fun _ => ?_)
        refine wpAnyH_ready (rs := [13]) (by kernel_rfl) (by simp) ?_
        refine AllReadyH.cons (o := { dst := some 85, op := Go.Op.call { callee := Go.Callee.value (Go.Operand.func 19), args := #[Go.Operand.tmp 84], argTypes := #[25] }, type := 34, pos := "more.go:27", after := #[{ on := 12, ground := Go.Ground.data }, { on := 11, ground := Go.Ground.chain }, { on := 9, ground := Go.Ground.guard }], guard := some (9, true) }) rfl (fun K hK => ?_) AllReadyH.nil
        go_simp
        refine (of6_any _ (⟨xsrc, xdst, true, xl⟩ : Dg) A c _ OKX.out (HM.out.keep hS1 (fun _ _ _ => id))).mono ?_
        rintro e w9 ⟨rfl, hx⟩
        have hS2 := hS1.trans hx
        clear hx
        refine hK.out _ _ hS2 (fun _ => ?_)
        refine wpAnyH_take (i := 14) (oi := { dst := some 86, op := Go.Op.binOp Go.BinOp.eql 34 (Go.Operand.tmp 83) (Go.Operand.tmp 85) 34, type := 4, pos := "more.go:27", after := #[{ on := 11, ground := Go.Ground.data }, { on := 13, ground := Go.Ground.data }, { on := 9, ground := Go.Ground.guard }], guard := some (9, true) }) (v := ?v103) rfl (by kernel_rfl) (by kernel_rfl) (by kernel_rfl) (fun _ _ _ h => h) (Or.inl ⟨by rfl, ?hy103⟩) (by assumption) ?rest103
        case hy103 => (intro w hSw; (try dsimp only at hSw); have ecxb_0 := hSw.cell cxb_0 id; have ecxb_1 := hSw.cell cxb_1 id; have ecxb_3 := hSw.cell cxb_3 id; have ecxb_2 := hSw.cell cxb_2 id; have ecqb0 := hSw.cell cqb0 id; have ecqb1 := hSw.cell cqb1 id; have ecqb2 := hSw.cell cqb2 id; have ecqb3 := hSw.cell cqb3 id; have z1 := Z1.out; have z2 := Z2.out; go_simp <;> with_reducible rfl)
        try simp only [Act.put, List.setIfInBounds_toArray, List.set_cons_zero, List.set_cons_succ]
        refine wpAnyH_take (i := 15) (oi := { dst := some 87, op := Go.Op.pick (Go.Operand.tmp 81) (Go.Operand.tmp 86) (Go.Operand.const (Go.Value.bool false)), type := 4, pos := "more.go:27", after := #[{ on := 9, ground := Go.Ground.data }, { on := 14, ground := Go.Ground.data }], guard := none }) (v := ?v104) rfl (by kernel_rfl) (by kernel_rfl) (by kernel_rfl) (fun _ _ _ h => h) (Or.inl ⟨by rfl, ?hy104⟩) (by assumption) ?rest104
        case hy104 => (intro w hSw; (try dsimp only at hSw); have ecxb_0 := hSw.cell cxb_0 id; have ecxb_1 := hSw.cell cxb_1 id; have ecxb_3 := hSw.cell cxb_3 id; have ecxb_2 := hSw.cell cxb_2 id; have ecqb0 := hSw.cell cqb0 id; have ecqb1 := hSw.cell cqb1 id; have ecqb2 := hSw.cell cqb2 id; have ecqb3 := hSw.cell cqb3 id; have z1 := Z1.out; have z2 := Z2.out; go_simp <;> with_reducible rfl)
        try simp only [Act.put, List.setIfInBounds_toArray, List.set_cons_zero, List.set_cons_succ]
        refine wpAnyH_take (i := 16) (oi := { dst := some 8, op := Go.Op.assign (Go.Operand.tmp 87), type := 4, pos := "more.go:27", after := #[{ on := 15, ground := Go.Ground.data }, { on := 13, ground := Go.Ground.chain }, { on := 0, ground := Go.Ground.phase }, { on := 1, ground := Go.Ground.phase }, { on := 2, ground := Go.Ground.phase }, { on := 3, ground := Go.Ground.phase }, { on := 4, ground := Go.Ground.phase }, { on := 5, ground := Go.Ground.phase }, { on := 6, ground := Go.Ground.phase }, { on := 7, ground := Go.Ground.phase }, { on := 8, ground := Go.Ground.phase }, { on := 9, ground := Go.Ground.phase }, { on := 10, ground := Go.Ground.phase }, { on := 11, ground := Go.Ground.phase }, { on := 12, ground := Go.Ground.phase }, { on := 13, ground := Go.Ground.phase }, { on := 14, ground := Go.Ground.phase }, { on := 15, ground := Go.Ground.phase }], guard := none }) (v := ?v105) rfl (by kernel_rfl) (by kernel_rfl) (by kernel_rfl) (fun _ _ _ h => h) (Or.inl ⟨by rfl, ?hy105⟩) (by assumption) ?rest105
        case hy105 => (intro w hSw; (try dsimp only at hSw); have ecxb_0 := hSw.cell cxb_0 id; have ecxb_1 := hSw.cell cxb_1 id; have ecxb_3 := hSw.cell cxb_3 id; have ecxb_2 := hSw.cell cxb_2 id; have ecqb0 := hSw.cell cqb0 id; have ecqb1 := hSw.cell cqb1 id; have ecqb2 := hSw.cell cqb2 id; have ecqb3 := hSw.cell cqb3 id; have z1 := Z1.out; have z2 := Z2.out; go_simp <;> with_reducible rfl)
        try simp only [Act.put, List.setIfInBounds_toArray, List.set_cons_zero, List.set_cons_succ]
        refine wpAnyH_done (by kernel_rfl) ?_ _
        have hx := hS2
        clear hS0 hS1 hS2 cxb_0 cxb_1 cxb_3 cxb_2 cqb0 cqb1 cqb2 cqb3
        have HX_w9 := Lib.hid hx
        clear hx
        go_wp2_with fail
        go_ret
        exact ⟨rfl, ((((((HX_w1.out.trans HX_w2.out).andThen HX_w3.out (fun i hi e => by have := hb_xb_; omega)).trans HX_w4.out).trans HX_w5.out).trans HX_w6.out).trans HX_w9.out)⟩
      ·
        have her : uerr M (other6 s o) t = none := by exact HSL.out
        have HER := Lib.hid her
        clear her
        have f_o_lo : (o == s % 65536) = false := by rw [beq_eq_false_iff_ne]; omega
        have f_o_0 : (o == 0) = false := by rw [beq_eq_false_iff_ne]; omega
        have f_o_65535 : (o == 65535) = true := by rw [beq_iff_eq]; omega
        have f_s65536_0 : (s % 65536 == 0) = false := by rw [beq_eq_false_iff_ne]; omega
        clear p1 p2 p3 p4
        have hq1 := HQ1.out
        have hw1 := HW1.out
        have hw2 := HW2.out
        have hw3 := HW3.out
        have hw4 := HW4.out
        have hrb := HO4.out.rb
        go_wp2_with fail
        refine (uparse_yes _ (some A4) (8 + xl.length) c4 M (other6 s o) t w4 hrb (fun h => by cases h) (by rw [HML.out]; omega) HO6.out HT.out HER.out).mono ?_
        rintro e w5 ⟨A5, rfl, hb5, hx⟩
        rw [HBK.out] at hb5 ⊢
        have hb5' : RB w5 (fun j => w4.heap.size ≤ j) (.slice A5 xl.length xl.length) xl := hb5
        have hv : dgv (⟨xsrc, xdst, true, xl⟩ : Dg) (.slice A5 (⟨xsrc, xdst, true, xl⟩ : Dg).b.length (⟨xsrc, xdst, true, xl⟩ : Dg).b.length) = .agg #[.int .u16 xsrc, .int .u16 xdst, .bool true, .slice A5 xl.length xl.length] := rfl
        rw [hv]
        clear hv hb5 hq1 hw1 hw2 hw3 hw4 hrb
        have HX_w5 := Lib.hid hx
        clear hx
        have HB5 := Lib.hid hb5'
        clear hb5'
        go_upto_region 6 with fail
        have hx : Ex (fun _ => False) w5 (w5.alloc (.cells #[.int .u16 xsrc, .int .u16 xdst, .bool true, .slice A5 xl.length xl.length] 25)) := (Ex.refl _ w5).alloc _
        have hb : (w5.alloc (.cells #[.int .u16 xsrc, .int .u16 xdst, .bool true, .slice A5 xl.length xl.length] 25)).heap[w5.heap.size]? = some (.cells #[.int .u16 xsrc, .int .u16 xdst, .bool true, .slice A5 xl.length xl.length] 25) := heap_alloc_new w5 _
        obtain ⟨qb, hqb⟩ : ∃ qb, qb = w5.heap.size := ⟨_, rfl⟩
        have hb_qb : w5.heap.size ≤ qb := by omega
        rw [← hqb] at hb
        try simp only [← hqb]
        generalize w5.alloc (.cells #[.int .u16 xsrc, .int .u16 xdst, .bool true, .slice A5 xl.length xl.length] 25) = w6 at hx hb ⊢
        clear hqb
        have HX_w6 := Lib.hid hx
        clear hx
        have B_qb := Lib.hid hb
        clear hb
        replace B_xb_ := Lib.hid ((((HX_w4.out.trans HX_w5.out).trans HX_w6.out).block xb_ (row_lt B_xb_.out) id).trans B_xb_.out)
        have cxb_2 := row_cell (k := 2) (v := .bool true) B_xb_.out rfl
        skip
        go_upto_region 8 with fail
        replace HM := Lib.hid (RB.keep HM.out (((((HX_w1.out.trans HX_w2.out).andThen HX_w3.out (fun i hi e => by have := hb_xb_; omega)).trans HX_w4.out).trans HX_w5.out).trans HX_w6.out) (fun _ _ _ => id))
        have cxb_0 := row_cell (k := 0) (v := .int .u16 xsrc) B_xb_.out rfl
        have cxb_1 := row_cell (k := 1) (v := .int .u16 xdst) B_xb_.out rfl
        have cxb_3 := row_cell (k := 3) (v := .slice A xl.length c) B_xb_.out rfl
        have cqb0 := row_cell (k := 0) (v := .int .u16 xsrc) B_qb.out rfl
        have cqb1 := row_cell (k := 1) (v := .int .u16 xdst) B_qb.out rfl
        have cqb2 := row_cell (k := 2) (v := .bool true) B_qb.out rfl
        have cqb3 := row_cell (k := 3) (v := .slice A5 xl.length xl.length) B_qb.out rfl
        have z1 : ∀ w, (binOp .eql 34 (rdv (⟨xsrc, xdst, true, xl⟩ : Dg)) (rdv (⟨xsrc, xdst, true, xl⟩ : Dg))).run Tryd.prog w = .ok (.bool true) w := fun w => by rw [rdv_eq, Dg.eqB_self]
        have z2 : ∀ w, (eqGuard .eql 34 (.tmp 83) (.tmp 85) (rdv (⟨xsrc, xdst, true, xl⟩ : Dg)) (rdv (⟨xsrc, xdst, true, xl⟩ : Dg))).run Tryd.prog w = .ok () w := fun w => rdv_guard .eql (.tmp 83) (.tmp 85) _ _ w
        have Z1 := Lib.hid z1
        have Z2 := Lib.hid z2
        have hb6 : RB w6 (fun j => w4.heap.size ≤ j) (.slice A5 xl.length xl.length) xl := HB5.out.keep HX_w6.out (fun _ _ _ => id)
        have HB6 := Lib.hid hb6
        have hS0 : Ex (fun _ => False) w6 w6.drew := (Ex.refl _ w6).drew
        clear z1 z2 hb6
        refine wp_region_held_drew (S := fun W => Ex (fun _ => False) w6 W) (by kernel_rfl) hS0 (fun _ => ?_)
        refine wpAnyH_take (i := 0) (oi := { dst := some 72, op := Go.Op.move (Go.Operand.tmp 9), type := 4, pos := "more.go:27", after := #[], guard := none }) (v := ?v106) rfl (by kernel_rfl) (by kernel_rfl) (by kernel_rfl) (fun _ _ _ h => h) (Or.inl ⟨by rfl, ?hy106⟩) (by assumption) ?rest106
        case hy106 => (intro w hSw; (try dsimp only at hSw); have ecxb_0 := hSw.cell cxb_0 id; have ecxb_1 := hSw.cell cxb_1 id; have ecxb_3 := hSw.cell cxb_3 id; have ecxb_2 := hSw.cell cxb_2 id; have ecqb0 := hSw.cell cqb0 id; have ecqb1 := hSw.cell cqb1 id; have ecqb2 := hSw.cell cqb2 id; have ecqb3 := hSw.cell cqb3 id; have z1 := Z1.out; have z2 := Z2.out; go_simp <;> with_reducible rfl)
        try simp only [Act.put, List.setIfInBounds_toArray, List.set_cons_zero, List.set_cons_succ]
        refine wpAnyH_take (i := 1) (oi := { dst := some 73, op := Go.Op.move (Go.Operand.tmp 72), type := 4, pos := "more.go:27", after := #[{ on := 0, ground := Go.Ground.data }], guard := none }) (v := ?v107) rfl (by kernel_rfl) (by kernel_rfl) (by kernel_rfl) (fun _ _ _ h => h) (Or.inl ⟨by rfl, ?hy107⟩) (by assumption) ?rest107
        case hy107 => (intro w hSw; (try dsimp only at hSw); have ecxb_0 := hSw.cell cxb_0 id; have ecxb_1 := hSw.cell cxb_1 id; have ecxb_3 := hSw.cell cxb_3 id; have ecxb_2 := hSw.cell cxb_2 id; have ecqb0 := hSw.cell cqb0 id; have ecqb1 := hSw.cell cqb1 id; have ecqb2 := hSw.cell cqb2 id; have ecqb3 := hSw.cell cqb3 id; have z1 := Z1.out; have z2 := Z2.out; go_simp <;> with_reducible rfl)
        try simp only [Act.put, List.setIfInBounds_toArray, List.set_cons_zero, List.set_cons_succ]
        refine wpAnyH_take (i := 2) (oi := { dst := some 74, op := Go.Op.move (Go.Operand.tmp 11), type := 29, pos := "more.go:27", after := #[{ on := 1, ground := Go.Ground.guard }], guard := some (1, true) }) (v := ?v108) rfl (by kernel_rfl) (by kernel_rfl) (by kernel_rfl) (fun _ _ _ h => h) (Or.inl ⟨by rfl, ?hy108⟩) (by assumption) ?rest108
        case hy108 => (intro w hSw; (try dsimp only at hSw); have ecxb_0 := hSw.cell cxb_0 id; have ecxb_1 := hSw.cell cxb_1 id; have ecxb_3 := hSw.cell cxb_3 id; have ecxb_2 := hSw.cell cxb_2 id; have ecqb0 := hSw.cell cqb0 id; have ecqb1 := hSw.cell cqb1 id; have ecqb2 := hSw.cell cqb2 id; have ecqb3 := hSw.cell cqb3 id; have z1 := Z1.out; have z2 := Z2.out; go_simp <;> with_reducible rfl)
        try simp only [Act.put, List.setIfInBounds_toArray, List.set_cons_zero, List.set_cons_succ]
        refine wpAnyH_take (i := 3) (oi := { dst := some 75, op := Go.Op.binOp Go.BinOp.eql 29 (Go.Operand.tmp 74) (Go.Operand.const Go.Value.nilIface) 29, type := 4, pos := "more.go:27", after := #[{ on := 2, ground := Go.Ground.data }, { on := 1, ground := Go.Ground.guard }], guard := some (1, true) }) (v := ?v109) rfl (by kernel_rfl) (by kernel_rfl) (by kernel_rfl) (fun _ _ _ h => h) (Or.inl ⟨by rfl, ?hy109⟩) (by assumption) ?rest109
        case hy109 => (intro w hSw; (try dsimp only at hSw); have ecxb_0 := hSw.cell cxb_0 id; have ecxb_1 := hSw.cell cxb_1 id; have ecxb_3 := hSw.cell cxb_3 id; have ecxb_2 := hSw.cell cxb_2 id; have ecqb0 := hSw.cell cqb0 id; have ecqb1 := hSw.cell cqb1 id; have ecqb2 := hSw.cell cqb2 id; have ecqb3 := hSw.cell cqb3 id; have z1 := Z1.out; have z2 := Z2.out; go_simp <;> with_reducible rfl)
        try simp only [Act.put, List.setIfInBounds_toArray, List.set_cons_zero, List.set_cons_succ]
        refine wpAnyH_take (i := 4) (oi := { dst := some 76, op := Go.Op.pick (Go.Operand.tmp 73) (Go.Operand.tmp 75) (Go.Operand.const (Go.Value.bool false)), type := 4, pos := "more.go:27", after := #[{ on := 1, ground := Go.Ground.data }, { on := 3, ground := Go.Ground.data }], guard := none }) (v := ?v110) rfl (by kernel_rfl) (by kernel_rfl) (by kernel_rfl) (fun _ _ _ h => h) (Or.inl ⟨by rfl, ?hy110⟩) (by assumption) ?rest110
        case hy110 => (intro w hSw; (try dsimp only at hSw); have ecxb_0 := hSw.cell cxb_0 id; have ecxb_1 := hSw.cell cxb_1 id; have ecxb_3 := hSw.cell cxb_3 id; have ecxb_2 := hSw.cell cxb_2 id; have ecqb0 := hSw.cell cqb0 id; have ecqb1 := hSw.cell cqb1 id; have ecqb2 := hSw.cell cqb2 id; have ecqb3 := hSw.cell cqb3 id; have z1 := Z1.out; have z2 := Z2.out; go_simp <;> with_reducible rfl)
        try simp only [Act.put, List.setIfInBounds_toArray, List.set_cons_zero, List.set_cons_succ]
        refine wpAnyH_take (i := 5) (oi := { dst := some 77, op := Go.Op.move (Go.Operand.tmp 76), type := 4, pos := "more.go:27", after := #[{ on := 4, ground := Go.Ground.data }, { on := 1, ground := Go.Ground.chain }], guard := none }) (v := ?v111) rfl (by kernel_rfl) (by kernel_rfl) (by kernel_rfl) (fun _ _ _ h => h) (Or.inl ⟨by rfl, ?hy111⟩) (by assumption) ?rest111
        case hy111 => (intro w hSw; (try dsimp only at hSw); have ecxb_0 := hSw.cell cxb_0 id; have ecxb_1 := hSw.cell cxb_1 id; have ecxb_3 := hSw.cell cxb_3 id; have ecxb_2 := hSw.cell cxb_2 id; have ecqb0 := hSw.cell cqb0 id; have ecqb1 := hSw.cell cqb1 id; have ecqb2 := hSw.cell cqb2 id; have ecqb3 := hSw.cell cqb3 id; have z1 := Z1.out; have z2 := Z2.out; go_simp <;> with_reducible rfl)
        try simp only [Act.put, List.setIfInBounds_toArray, List.set_cons_zero, List.set_cons_succ]
        refine wpAnyH_take (i := 6) (oi := { dst := some 78, op := Go.Op.move (Go.Operand.tmp 14), type := 29, pos := "more.go:27", after := #[{ on := 5, ground := Go.Ground.guard }], guard := some (5, true) }) (v := ?v112) rfl (by kernel_rfl) (by kernel_rfl) (by kernel_rfl) (fun _ _ _ h => h) (Or.inl ⟨by rfl, ?hy112⟩) (by assumption) ?rest112
        case hy112 => (intro w hSw; (try dsimp only at hSw); have ecxb_0 := hSw.cell cxb_0 id; have ecxb_1 := hSw.cell cxb_1 id; have ecxb_3 := hSw.cell cxb_3 id; have ecxb_2 := hSw.cell cxb_2 id; have ecqb0 := hSw.cell cqb0 id; have ecqb1 := hSw.cell cqb1 id; have ecqb2 := hSw.cell cqb2 id; have ecqb3 := hSw.cell cqb3 id; have z1 := Z1.out; have z2 := Z2.out; go_simp <;> with_reducible rfl)
        try simp only [Act.put, List.setIfInBounds_toArray, List.set_cons_zero, List.set_cons_succ]
        refine wpAnyH_take (i := 7) (oi := { dst := some 79, op := Go.Op.binOp Go.BinOp.eql 29 (Go.Operand.tmp 78) (Go.Operand.const Go.Value.nilIface) 29, type := 4, pos := "more.go:27", after := #[{ on := 6, ground := Go.Ground.data }, { on := 5, ground := Go.Ground.guard }], guard := some (5, true) }) (v := ?v113) rfl (by kernel_rfl) (by kernel_rfl) (by kernel_rfl) (fun _ _ _ h => h) (Or.inl ⟨by rfl, ?hy113⟩) (by assumption) ?rest113
        case hy113 => (intro w hSw; (try dsimp only at hSw); have ecxb_0 := hSw.cell cxb_0 id; have ecxb_1 := hSw.cell cxb_1 id; have ecxb_3 := hSw.cell cxb_3 id; have ecxb_2 := hSw.cell cxb_2 id; have ecqb0 := hSw.cell cqb0 id; have ecqb1 := hSw.cell cqb1 id; have ecqb2 := hSw.cell cqb2 id; have ecqb3 := hSw.cell cqb3 id; have z1 := Z1.out; have z2 := Z2.out; go_simp <;> with_reducible rfl)
        try simp only [Act.put, List.setIfInBounds_toArray, List.set_cons_zero, List.set_cons_succ]
        refine wpAnyH_take (i := 8) (oi := { dst := some 80, op := Go.Op.pick (Go.Operand.tmp 77) (Go.Operand.tmp 79) (Go.Operand.const (Go.Value.bool false)), type := 4, pos := "more.go:27", after := #[{ on := 5, ground := Go.Ground.data }, { on := 7, ground := Go.Ground.data }], guard := none }) (v := ?v114) rfl (by kernel_rfl) (by kernel_rfl) (by kernel_rfl) (fun _ _ _ h => h) (Or.inl ⟨by rfl, ?hy114⟩) (by assumption) ?rest114
        case hy114 => (intro w hSw; (try dsimp only at hSw); have ecxb_0 := hSw.cell cxb_0 id; have ecxb_1 := hSw.cell cxb_1 id; have ecxb_3 := hSw.cell cxb_3 id; have ecxb_2 := hSw.cell cxb_2 id; have ecqb0 := hSw.cell cqb0 id; have ecqb1 := hSw.cell cqb1 id; have ecqb2 := hSw.cell cqb2 id; have ecqb3 := hSw.cell cqb3 id; have z1 := Z1.out; have z2 := Z2.out; go_simp <;> with_reducible rfl)
        try simp only [Act.put, List.setIfInBounds_toArray, List.set_cons_zero, List.set_cons_succ]
        refine wpAnyH_take (i := 9) (oi := { dst := some 81, op := Go.Op.move (Go.Operand.tmp 80), type := 4, pos := "more.go:27", after := #[{ on := 8, ground := Go.Ground.data }, { on := 5, ground := Go.Ground.chain }], guard := none }) (v := ?v115) rfl (by kernel_rfl) (by kernel_rfl) (by kernel_rfl) (fun _ _ _ h => h) (Or.inl ⟨by rfl, ?hy115⟩) (by assumption) ?rest115
        case hy115 => (intro w hSw; (try dsimp only at hSw); have ecxb_0 := hSw.cell cxb_0 id; have ecxb_1 := hSw.cell cxb_1 id; have ecxb_3 := hSw.cell cxb_3 id; have ecxb_2 := hSw.cell cxb_2 id; have ecqb0 := hSw.cell cqb0 id; have ecqb1 := hSw.cell cqb1 id; have ecqb2 := hSw.cell cqb2 id; have ecqb3 := hSw.cell cqb3 id; have z1 := Z1.out; have z2 := Z2.out; go_simp <;> with_reducible rfl)
        try simp only [Act.put, List.setIfInBounds_toArray, List.set_cons_zero, List.set_cons_succ]
        refine wpAnyH_take (i := 10) (oi := { dst := some 82, op := Go.Op.load 25 (Go.Operand.tmp 13), type := 25, pos := "more.go:27", after := #[{ on := 9, ground := Go.Ground.guard }], guard := some (9, true) }) (v := ?v116) rfl (by kernel_rfl) (by kernel_rfl) (by kernel_rfl) (fun _ _ _ h => h) (Or.inl ⟨by rfl, ?hy116⟩) (by assumption) ?rest116
        case hy116 => (intro w hSw; (try dsimp only at hSw); have ecxb_0 := hSw.cell cxb_0 id; have ecxb_1 := hSw.cell cxb_1 id; have ecxb_3 := hSw.cell cxb_3 id; have ecxb_2 := hSw.cell cxb_2 id; have ecqb0 := hSw.cell cqb0 id; have ecqb1 := hSw.cell cqb1 id; have ecqb2 := hSw.cell cqb2 id; have ecqb3 := hSw.cell cqb3 id; have z1 := Z1.out; have z2 := Z2.out; go_simp <;> with_reducible rfl)
        try simp only [Act.put, List.setIfInBounds_toArray, List.set_cons_zero, List.set_cons_succ]
        refine wpAnyH_take (i := 12) (oi := { dst := some 84, op := Go.Op.load 25 (Go.Operand.tmp 4), type := 25, pos := "more.go:27", after := #[{ on := 9, ground := Go.Ground.guard }], guard := some (9, true) }) (v := ?v117) rfl (by kernel_rfl) (by kernel_rfl) (by kernel_rfl) (fun _ _ _ h => h) (Or.inl ⟨by rfl, ?hy117⟩) (by assumption) ?rest117
        case hy117 => (intro w hSw; (try dsimp only at hSw); have ecxb_0 := hSw.cell cxb_0 id; have ecxb_1 := hSw.cell cxb_1 id; have ecxb_3 := hSw.cell cxb_3 id; have ecxb_2 := hSw.cell cxb_2 id; have ecqb0 := hSw.cell cqb0 id; have ecqb1 := hSw.cell cqb1 id; have ecqb2 := hSw.cell cqb2 id; have ecqb3 := hSw.cell cqb3 id; have z1 := Z1.out; have z2 := Z2.out; go_simp <;> with_reducible rfl)
        try simp only [Act.put, List.setIfInBounds_toArray, List.set_cons_zero, List.set_cons_succ]
        refine wpAnyH_ready (rs := [11]) (by kernel_rfl) (by simp) ?_
        refine AllReadyH.cons (o := { dst := some 83, op := Go.Op.call { callee := Go.Callee.value (Go.Operand.func 19), args := #[Go.Operand.tmp 82], argTypes := #[25] }, type := 34, pos := "more.go:27", after := #[{ on := 10, ground := Go.Ground.data }, { on := 9, ground := Go.Ground.chain }, { on := 9, ground := Go.Ground.guard }], guard := some (9, true) }) rfl (fun K hK => ?_) AllReadyH.nil
        go_simp
        refine (of6_any _ (⟨xsrc, xdst, true, xl⟩ : Dg) A5 xl.length _ OKX.out (HB6.out.keep hS0 (fun _ _ _ => id))).mono ?_
        rintro e w8 ⟨rfl, hx⟩
        have hS1 := hS0.trans hx
        clear hx
        refine hK.out _ _ hS1 (fun _ => ?_)
        refine wpAnyH_ready (rs := [13]) (by kernel_rfl) (by simp) ?_
        refine AllReadyH.cons (o := { dst := some 85, op := Go.Op.call { callee := Go.Callee.value (Go.Operand.func 19), args := #[Go.Operand.tmp 84], argTypes := #[25] }, type := 34, pos := "more.go:27", after := #[{ on := 12, ground := Go.Ground.data }, { on := 11, ground := Go.Ground.chain }, { on := 9, ground := Go.Ground.guard }], guard := some (9, true) }) rfl (fun K hK => ?_) AllReadyH.nil
        go_simp
        refine (of6_any _ (⟨xsrc, xdst, true, xl⟩ : Dg) A c _ OKX.out (HM.out.keep hS1 (fun _ _ _ => id))).mono ?_
        rintro e w9 ⟨rfl, hx⟩
        have hS2 := hS1.trans hx
        clear hx
        refine hK.out _ _ hS2 (fun _ => ?_)
        refine wpAnyH_take (i := 14) (oi := { dst := some 86, op := Go.Op.binOp Go.BinOp.eql 34 (Go.Operand.tmp 83) (Go.Operand.tmp 85) 34, type := 4, pos := "more.go:27", after := #[{ on := 11, ground := Go.Ground.data }, { on := 13, ground := Go.Ground.data }, { on := 9, ground := Go.Ground.guard }], guard := some (9, true) }) (v := ?v118) rfl (by kernel_rfl) (by kernel_rfl) (by kernel_rfl) (fun _ _ _ h => h) (Or.inl ⟨by rfl, ?hy118⟩) (by assumption) ?rest118
        case hy118 => (intro w hSw; (try dsimp only at hSw); have ecxb_0 := hSw.cell cxb_0 id; have ecxb_1 := hSw.cell cxb_1 id; have ecxb_3 := hSw.cell cxb_3 id; have ecxb_2 := hSw.cell cxb_2 id; have ecqb0 := hSw.cell cqb0 id; have ecqb1 := hSw.cell cqb1 id; have ecqb2 := hSw.cell cqb2 id; have ecqb3 := hSw.cell cqb3 id; have z1 := Z1.out; have z2 := Z2.out; go_simp <;> with_reducible rfl)
        try simp only [Act.put, List.setIfInBounds_toArray, List.set_cons_zero, List.set_cons_succ]
        refine wpAnyH_take (i := 15) (oi := { dst := some 87, op := Go.Op.pick (Go.Operand.tmp 81) (Go.Operand.tmp 86) (Go.Operand.const (Go.Value.bool false)), type := 4, pos := "more.go:27", after := #[{ on := 9, ground := Go.Ground.data }, { on := 14, ground := Go.Ground.data }], guard := none }) (v := ?v119) rfl (by kernel_rfl) (by kernel_rfl) (by kernel_rfl) (fun _ _ _ h => h) (Or.inl ⟨by rfl, ?hy119⟩) (by assumption) ?rest119
        case hy119 => (intro w hSw; (try dsimp only at hSw); have ecxb_0 := hSw.cell cxb_0 id; have ecxb_1 := hSw.cell cxb_1 id; have ecxb_3 := hSw.cell cxb_3 id; have ecxb_2 := hSw.cell cxb_2 id; have ecqb0 := hSw.cell cqb0 id; have ecqb1 := hSw.cell cqb1 id; have ecqb2 := hSw.cell cqb2 id; have ecqb3 := hSw.cell cqb3 id; have z1 := Z1.out; have z2 := Z2.out; go_simp <;> with_reducible rfl)
        try simp only [Act.put, List.setIfInBounds_toArray, List.set_cons_zero, List.set_cons_succ]
        refine wpAnyH_take (i := 16) (oi := { dst := some 8, op := Go.Op.assign (Go.Operand.tmp 87), type := 4, pos := "more.go:27", after := #[{ on := 15, ground := Go.Ground.data }, { on := 13, ground := Go.Ground.chain }, { on := 0, ground := Go.Ground.phase }, { on := 1, ground := Go.Ground.phase }, { on := 2, ground := Go.Ground.phase }, { on := 3, ground := Go.Ground.phase }, { on := 4, ground := Go.Ground.phase }, { on := 5, ground := Go.Ground.phase }, { on := 6, ground := Go.Ground.phase }, { on := 7, ground := Go.Ground.phase }, { on := 8, ground := Go.Ground.phase }, { on := 9, ground := Go.Ground.phase }, { on := 10, ground := Go.Ground.phase }, { on := 11, ground := Go.Ground.phase }, { on := 12, ground := Go.Ground.phase }, { on := 13, ground := Go.Ground.phase }, { on := 14, ground := Go.Ground.phase }, { on := 15, ground := Go.Ground.phase }], guard := none }) (v := ?v120) rfl (by kernel_rfl) (by kernel_rfl) (by kernel_rfl) (fun _ _ _ h => h) (Or.inl ⟨by rfl, ?hy120⟩) (by assumption) ?rest120
        case hy120 => (intro w hSw; (try dsimp only at hSw); have ecxb_0 := hSw.cell cxb_0 id; have ecxb_1 := hSw.cell cxb_1 id; have ecxb_3 := hSw.cell cxb_3 id; have ecxb_2 := hSw.cell cxb_2 id; have ecqb0 := hSw.cell cqb0 id; have ecqb1 := hSw.cell cqb1 id; have ecqb2 := hSw.cell cqb2 id; have ecqb3 := hSw.cell cqb3 id; have z1 := Z1.out; have z2 := Z2.out; go_simp <;> with_reducible rfl)
        try simp only [Act.put, List.setIfInBounds_toArray, List.set_cons_zero, List.set_cons_succ]
        refine wpAnyH_done (by kernel_rfl) ?_ _
        have hx := hS2
        clear hS0 hS1 hS2 cxb_0 cxb_1 cxb_3 cxb_2 cqb0 cqb1 cqb2 cqb3
        have HX_w9 := Lib.hid hx
        clear hx
        go_wp2_with fail
        go_ret
        exact ⟨rfl, ((((((HX_w1.out.trans HX_w2.out).andThen HX_w3.out (fun i hi e => by have := hb_xb_; omega)).trans HX_w4.out).trans HX_w5.out).trans HX_w6.out).trans HX_w9.out)⟩
    ·
      have her : uerr M (other6 s o) t = none := by exact HSL.out
      have HER := Lib.hid her
      clear her
      have f_o_lo : (o == s % 65536) = false := by rw [beq_eq_false_iff_ne]; omega
      have f_o_0 : (o == 0) = false := by rw [beq_eq_false_iff_ne]; omega
      have f_o_65535 : (o == 65535) = false := by rw [beq_eq_false_iff_ne]; omega
      clear p1 p2 p3
      have hq1 := HQ1.out
      have hw1 := HW1.out
      have hw2 := HW2.out
      have hw3 := HW3.out
      have hw4 := HW4.out
      have hrb := HO4.out.rb
      go_wp2_with fail
      refine (uparse_yes _ (some A4) (8 + xl.length) c4 M (other6 s o) t w4 hrb (fun h => by cases h) (by rw [HML.out]; omega) HO6.out HT.out HER.out).mono ?_
      rintro e w5 ⟨A5, rfl, hb5, hx⟩
      rw [HBK.out] at hb5 ⊢
      have hb5' : RB w5 (fun j => w4.heap.size ≤ j) (.slice A5 xl.length xl.length) xl := hb5
      have hv : dgv (⟨xsrc, xdst, true, xl⟩ : Dg) (.slice A5 (⟨xsrc, xdst, true, xl⟩ : Dg).b.length (⟨xsrc, xdst, true, xl⟩ : Dg).b.length) = .agg #[.int .u16 xsrc, .int .u16 xdst, .bool true, .slice A5 xl.length xl.length] := rfl
      rw [hv]
      clear hv hb5 hq1 hw1 hw2 hw3 hw4 hrb
      have HX_w5 := Lib.hid hx
      clear hx
      have HB5 := Lib.hid hb5'
      clear hb5'
      go_upto_region 6 with fail
      have hx : Ex (fun _ => False) w5 (w5.alloc (.cells #[.int .u16 xsrc, .int .u16 xdst, .bool true, .slice A5 xl.length xl.length] 25)) := (Ex.refl _ w5).alloc _
      have hb : (w5.alloc (.cells #[.int .u16 xsrc, .int .u16 xdst, .bool true, .slice A5 xl.length xl.length] 25)).heap[w5.heap.size]? = some (.cells #[.int .u16 xsrc, .int .u16 xdst, .bool true, .slice A5 xl.length xl.length] 25) := heap_alloc_new w5 _
      obtain ⟨qb, hqb⟩ : ∃ qb, qb = w5.heap.size := ⟨_, rfl⟩
      have hb_qb : w5.heap.size ≤ qb := by omega
      rw [← hqb] at hb
      try simp only [← hqb]
      generalize w5.alloc (.cells #[.int .u16 xsrc, .int .u16 xdst, .bool true, .slice A5 xl.length xl.length] 25) = w6 at hx hb ⊢
      clear hqb
      have HX_w6 := Lib.hid hx
      clear hx
      have B_qb := Lib.hid hb
      clear hb
      replace B_xb_ := Lib.hid ((((HX_w4.out.trans HX_w5.out).trans HX_w6.out).block xb_ (row_lt B_xb_.out) id).trans B_xb_.out)
      have cxb_2 := row_cell (k := 2) (v := .bool true) B_xb_.out rfl
      skip
      go_upto_region 8 with fail
      replace HM := Lib.hid (RB.keep HM.out (((((HX_w1.out.trans HX_w2.out).andThen HX_w3.out (fun i hi e => by have := hb_xb_; omega)).trans HX_w4.out).trans HX_w5.out).trans HX_w6.out) (fun _ _ _ => id))
      have cxb_0 := row_cell (k := 0) (v := .int .u16 xsrc) B_xb_.out rfl
      have cxb_1 := row_cell (k := 1) (v := .int .u16 xdst) B_xb_.out rfl
      have cxb_3 := row_cell (k := 3) (v := .slice A xl.length c) B_xb_.out rfl
      have cqb0 := row_cell (k := 0) (v := .int .u16 xsrc) B_qb.out rfl
      have cqb1 := row_cell (k := 1) (v := .int .u16 xdst) B_qb.out rfl
      have cqb2 := row_cell (k := 2) (v := .bool true) B_qb.out rfl
      have cqb3 := row_cell (k := 3) (v := .slice A5 xl.length xl.length) B_qb.out rfl
      have z1 : ∀ w, (binOp .eql 34 (rdv (⟨xsrc, xdst, true, xl⟩ : Dg)) (rdv (⟨xsrc, xdst, true, xl⟩ : Dg))).run Tryd.prog w = .ok (.bool true) w := fun w => by rw [rdv_eq, Dg.eqB_self]
      have z2 : ∀ w, (eqGuard .eql 34 (.tmp 83) (.tmp 85) (rdv (⟨xsrc, xdst, true, xl⟩ : Dg)) (rdv (⟨xsrc, xdst, true, xl⟩ : Dg))).run Tryd.prog w = .ok () w := fun w => rdv_guard .eql (.tmp 83) (.tmp 85) _ _ w
      have Z1 := Lib.hid z1
      have Z2 := Lib.hid z2
      have hb6 : RB w6 (fun j => w4.heap.size ≤ j) (.slice A5 xl.length xl.length) xl := HB5.out.keep HX_w6.out (fun _ _ _ => id)
      have HB6 := Lib.hid hb6
      have hS0 : Ex (fun _ => False) w6 w6.drew := (Ex.refl _ w6).drew
      clear z1 z2 hb6
      refine wp_region_held_drew (S := fun W => Ex (fun _ => False) w6 W) (by kernel_rfl) hS0 (fun _ => ?_)
      refine wpAnyH_take (i := 0) (oi := { dst := some 72, op := Go.Op.move (Go.Operand.tmp 9), type := 4, pos := "more.go:27", after := #[], guard := none }) (v := ?v121) rfl (by kernel_rfl) (by kernel_rfl) (by kernel_rfl) (fun _ _ _ h => h) (Or.inl ⟨by rfl, ?hy121⟩) (by assumption) ?rest121
      case hy121 => (intro w hSw; (try dsimp only at hSw); have ecxb_0 := hSw.cell cxb_0 id; have ecxb_1 := hSw.cell cxb_1 id; have ecxb_3 := hSw.cell cxb_3 id; have ecxb_2 := hSw.cell cxb_2 id; have ecqb0 := hSw.cell cqb0 id; have ecqb1 := hSw.cell cqb1 id; have ecqb2 := hSw.cell cqb2 id; have ecqb3 := hSw.cell cqb3 id; have z1 := Z1.out; have z2 := Z2.out; go_simp <;> with_reducible rfl)
      try simp only [Act.put, List.setIfInBounds_toArray, List.set_cons_zero, List.set_cons_succ]
      refine wpAnyH_take (i := 1) (oi := { dst := some 73, op := Go.Op.move (Go.Operand.tmp 72), type := 4, pos := "more.go:27", after := #[{ on := 0, ground := Go.Ground.data }], guard := none }) (v := ?v122) rfl (by kernel_rfl) (by kernel_rfl) (by kernel_rfl) (fun _ _ _ h => h) (Or.inl ⟨by rfl, ?hy122⟩) (by assumption) ?rest122
      case hy122 => (intro w hSw; (try dsimp only at hSw); have ecxb_0 := hSw.cell cxb_0 id; have ecxb_1 := hSw.cell cxb_1 id; have ecxb_3 := hSw.cell cxb_3 id; have ecxb_2 := hSw.cell cxb_2 id; have ecqb0 := hSw.cell cqb0 id; have ecqb1 := hSw.cell cqb1 id; have ecqb2 := hSw.cell cqb2 id; have ecqb3 := hSw.cell cqb3 id; have z1 := Z1.out; have z2 := Z2.out; go_simp <;> with_reducible rfl)
      try simp only [Act.put, List.setIfInBounds_toArray, List.set_cons_zero, List.set_cons_succ]
      refine wpAnyH_take (i := 2) (oi := { dst := some 74, op := Go.Op.move (Go.Operand.tmp 11), type := 29, pos := "more.go:27", after := #[{ on := 1, ground := Go.Ground.guard }], guard := some (1, true) }) (v := ?v123) rfl (by kernel_rfl) (by kernel_rfl) (by kernel_rfl) (fun _ _ _ h => h) (Or.inl ⟨by rfl, ?hy123⟩) (by assumption) ?rest123
      case hy123 => (intro w hSw; (try dsimp only at hSw); have ecxb_0 := hSw.cell cxb_0 id; have ecxb_1 := hSw.cell cxb_1 id; have ecxb_3 := hSw.cell cxb_3 id; have ecxb_2 := hSw.cell cxb_2 id; have ecqb0 := hSw.cell cqb0 id; have ecqb1 := hSw.cell cqb1 id; have ecqb2 := hSw.cell cqb2 id; have ecqb3 := hSw.cell cqb3 id; have z1 := Z1.out; have z2 := Z2.out; go_simp <;> with_reducible rfl)
      try simp only [Act.put, List.setIfInBounds_toArray, List.set_cons_zero, List.set_cons_succ]
      refine wpAnyH_take (i := 3) (oi := { dst := some 75, op := Go.Op.binOp Go.BinOp.eql 29 (Go.Operand.tmp 74) (Go.Operand.const Go.Value.nilIface) 29, type := 4, pos := "more.go:27", after := #[{ on := 2, ground := Go.Ground.data }, { on := 1, ground := Go.Ground.guard }], guard := some (1, true) }) (v := ?v124) rfl (by kernel_rfl) (by kernel_rfl) (by kernel_rfl) (fun _ _ _ h => h) (Or.inl ⟨by rfl, ?hy124⟩) (by assumption) ?rest124
      case hy124 => (intro w hSw; (try dsimp only at hSw); have ecxb_0 := hSw.cell cxb_0 id; have ecxb_1 := hSw.cell cxb_1 id; have ecxb_3 := hSw.cell cxb_3 id; have ecxb_2 := hSw.cell cxb_2 id; have ecqb0 := hSw.cell cqb0 id; have ecqb1 := hSw.cell cqb1 id; have ecqb2 := hSw.cell cqb2 id; have ecqb3 := hSw.cell cqb3 id; have z1 := Z1.out; have z2 := Z2.out; go_simp <;> with_reducible rfl)
      try simp only [Act.put, List.setIfInBounds_toArray, List.set_cons_zero, List.set_cons_succ]
      refine wpAnyH_take (i := 4) (oi := { dst := some 76, op := Go.Op.pick (Go.Operand.tmp 73) (Go.Operand.tmp 75) (Go.Operand.const (Go.Value.bool false)), type := 4, pos := "more.go:27", after := #[{ on := 1, ground := Go.Ground.data }, { on := 3, ground := Go.Ground.data }], guard := none }) (v := ?v125) rfl (by kernel_rfl) (by kernel_rfl) (by kernel_rfl) (fun _ _ _ h => h) (Or.inl ⟨by rfl, ?hy125⟩) (by assumption) ?rest125
      case hy125 => (intro w hSw; (try dsimp only at hSw); have ecxb_0 := hSw.cell cxb_0 id; have ecxb_1 := hSw.cell cxb_1 id; have ecxb_3 := hSw.cell cxb_3 id; have ecxb_2 := hSw.cell cxb_2 id; have ecqb0 := hSw.cell cqb0 id; have ecqb1 := hSw.cell cqb1 id; have ecqb2 := hSw.cell cqb2 id; have ecqb3 := hSw.cell cqb3 id; have z1 := Z1.out; have z2 := Z2.out; go_simp <;> with_reducible rfl)
      try simp only [Act.put, List.setIfInBounds_toArray, List.set_cons_zero, List.set_cons_succ]
      refine wpAnyH_take (i := 5) (oi := { dst := some 77, op := Go.Op.move (Go.Operand.tmp 76), type := 4, pos := "more.go:27", after := #[{ on := 4, ground := Go.Ground.data }, { on := 1, ground := Go.Ground.chain }], guard := none }) (v := ?v126) rfl (by kernel_rfl) (by kernel_rfl) (by kernel_rfl) (fun _ _ _ h => h) (Or.inl ⟨by rfl, ?hy126⟩) (by assumption) ?rest126
      case hy126 => (intro w hSw; (try dsimp only at hSw); have ecxb_0 := hSw.cell cxb_0 id; have ecxb_1 := hSw.cell cxb_1 id; have ecxb_3 := hSw.cell cxb_3 id; have ecxb_2 := hSw.cell cxb_2 id; have ecqb0 := hSw.cell cqb0 id; have ecqb1 := hSw.cell cqb1 id; have ecqb2 := hSw.cell cqb2 id; have ecqb3 := hSw.cell cqb3 id; have z1 := Z1.out; have z2 := Z2.out; go_simp <;> with_reducible rfl)
      try simp only [Act.put, List.setIfInBounds_toArray, List.set_cons_zero, List.set_cons_succ]
      refine wpAnyH_take (i := 6) (oi := { dst := some 78, op := Go.Op.move (Go.Operand.tmp 14), type := 29, pos := "more.go:27", after := #[{ on := 5, ground := Go.Ground.guard }], guard := some (5, true) }) (v := ?v127) rfl (by kernel_rfl) (by kernel_rfl) (by kernel_rfl) (fun _ _ _ h => h) (Or.inl ⟨by rfl, ?hy127⟩) (by assumption) ?rest127
      case hy127 => (intro w hSw; (try dsimp only at hSw); have ecxb_0 := hSw.cell cxb_0 id; have ecxb_1 := hSw.cell cxb_1 id; have ecxb_3 := hSw.cell cxb_3 id; have ecxb_2 := hSw.cell cxb_2 id; have ecqb0 := hSw.cell cqb0 id; have ecqb1 := hSw.cell cqb1 id; have ecqb2 := hSw.cell cqb2 id; have ecqb3 := hSw.cell cqb3 id; have z1 := Z1.out; have z2 := Z2.out; go_simp <;> with_reducible rfl)
      try simp only [Act.put, List.setIfInBounds_toArray, List.set_cons_zero, List.set_cons_succ]
      refine wpAnyH_take (i := 7) (oi := { dst := some 79, op := Go.Op.binOp Go.BinOp.eql 29 (Go.Operand.tmp 78) (Go.Operand.const Go.Value.nilIface) 29, type := 4, pos := "more.go:27", after := #[{ on := 6, ground := Go.Ground.data }, { on := 5, ground := Go.Ground.guard }], guard := some (5, true) }) (v := ?v128) rfl (by kernel_rfl) (by kernel_rfl) (by kernel_rfl) (fun _ _ _ h => h) (Or.inl ⟨by rfl, ?hy128⟩) (by assumption) ?rest128
      case hy128 => (intro w hSw; (try dsimp only at hSw); have ecxb_0 := hSw.cell cxb_0 id; have ecxb_1 := hSw.cell cxb_1 id; have ecxb_3 := hSw.cell cxb_3 id; have ecxb_2 := hSw.cell cxb_2 id; have ecqb0 := hSw.cell cqb0 id; have ecqb1 := hSw.cell cqb1 id; have ecqb2 := hSw.cell cqb2 id; have ecqb3 := hSw.cell cqb3 id; have z1 := Z1.out; have z2 := Z2.out; go_simp <;> with_reducible rfl)
      try simp only [Act.put, List.setIfInBounds_toArray, List.set_cons_zero, List.set_cons_succ]
      refine wpAnyH_take (i := 8) (oi := { dst := some 80, op := Go.Op.pick (Go.Operand.tmp 77) (Go.Operand.tmp 79) (Go.Operand.const (Go.Value.bool false)), type := 4, pos := "more.go:27", after := #[{ on := 5, ground := Go.Ground.data }, { on := 7, ground := Go.Ground.data }], guard := none }) (v := ?v129) rfl (by kernel_rfl) (by kernel_rfl) (by kernel_rfl) (fun _ _ _ h => h) (Or.inl ⟨by rfl, ?hy129⟩) (by assumption) ?rest129
      case hy129 => (intro w hSw; (try dsimp only at hSw); have ecxb_0 := hSw.cell cxb_0 id; have ecxb_1 := hSw.cell cxb_1 id; have ecxb_3 := hSw.cell cxb_3 id; have ecxb_2 := hSw.cell cxb_2 id; have ecqb0 := hSw.cell cqb0 id; have ecqb1 := hSw.cell cqb1 id; have ecqb2 := hSw.cell cqb2 id; have ecqb3 := hSw.cell cqb3 id; have z1 := Z1.out; have z2 := Z2.out; go_simp <;> with_reducible rfl)
      try simp only [Act.put, List.setIfInBounds_toArray, List.set_cons_zero, List.set_cons_succ]
      refine wpAnyH_take (i := 9) (oi := { dst := some 81, op := Go.Op.move (Go.Operand.tmp 80), type := 4, pos := "more.go:27", after := #[{ on := 8, ground := Go.Ground.data }, { on := 5, ground := Go.Ground.chain }], guard := none }) (v := ?v130) rfl (by kernel_rfl) (by kernel_rfl) (by kernel_rfl) (fun _ _ _ h => h) (Or.inl ⟨by rfl, ?hy130⟩) (by assumption) ?rest130
      case hy130 => (intro w hSw; (try dsimp only at hSw); have ecxb_0 := hSw.cell cxb_0 id; have ecxb_1 := hSw.cell cxb_1 id; have ecxb_3 := hSw.cell cxb_3 id; have ecxb_2 := hSw.cell cxb_2 id; have ecqb0 := hSw.cell cqb0 id; have ecqb1 := hSw.cell cqb1 id; have ecqb2 := hSw.cell cqb2 id; have ecqb3 := hSw.cell cqb3 id; have z1 := Z1.out; have z2 := Z2.out; go_simp <;> with_reducible rfl)
      try simp only [Act.put, List.setIfInBounds_toArray, List.set_cons_zero, List.set_cons_succ]
      refine wpAnyH_take (i := 10) (oi := { dst := some 82, op := Go.Op.load 25 (Go.Operand.tmp 13), type := 25, pos := "more.go:27", after := #[{ on := 9, ground := Go.Ground.guard }], guard := some (9, true) }) (v := ?v131) rfl (by kernel_rfl) (by kernel_rfl) (by kernel_rfl) (fun _ _ _ h => h) (Or.inl ⟨by rfl, ?hy131⟩) (by assumption) ?rest131
      case hy131 => (intro w hSw; (try dsimp only at hSw); have ecxb_0 := hSw.cell cxb_0 id; have ecxb_1 := hSw.cell cxb_1 id; have ecxb_3 := hSw.cell cxb_3 id; have ecxb_2 := hSw.cell cxb_2 id; have ecqb0 := hSw.cell cqb0 id; have ecqb1 := hSw.cell cqb1 id; have ecqb2 := hSw.cell cqb2 id; have ecqb3 := hSw.cell cqb3 id; have z1 := Z1.out; have z2 := Z2.out; go_simp <;> with_reducible rfl)
      try simp only [Act.put, List.setIfInBounds_toArray, List.set_cons_zero, List.set_cons_succ]
      refine wpAnyH_take (i := 12) (oi := { dst := some 84, op := Go.Op.load 25 (Go.Operand.tmp 4), type := 25, pos := "more.go:27", after := #[{ on := 9, ground := Go.Ground.guard }], guard := some (9, true) }) (v := ?v132) rfl (by kernel_rfl) (by kernel_rfl) (by kernel_rfl) (fun _ _ _ h => h) (Or.inl ⟨by rfl, ?hy132⟩) (by assumption) ?rest132
      case hy132 => (intro w hSw; (try dsimp only at hSw); have ecxb_0 := hSw.cell cxb_0 id; have ecxb_1 := hSw.cell cxb_1 id; have ecxb_3 := hSw.cell cxb_3 id; have ecxb_2 := hSw.cell cxb_2 id; have ecqb0 := hSw.cell cqb0 id; have ecqb1 := hSw.cell cqb1 id; have ecqb2 := hSw.cell cqb2 id; have ecqb3 := hSw.cell cqb3 id; have z1 := Z1.out; have z2 := Z2.out; go_simp <;> with_reducible rfl)
      try simp only [Act.put, List.setIfInBounds_toArray, List.set_cons_zero, List.set_cons_succ]
      refine wpAnyH_ready (rs := [11]) (by kernel_rfl) (by simp) ?_
      refine AllReadyH.cons (o := { dst := some 83, op := Go.Op.call { callee := Go.Callee.value (Go.Operand.func 19), args := #[Go.Operand.tmp 82], argTypes := #[25] }, type := 34, pos := "more.go:27", after := #[{ on := 10, ground := Go.Ground.data }, { on := 9, ground := Go.Ground.chain }, { on := 9, ground := Go.Ground.guard }], guard := some (9, true) }) rfl (fun K hK => ?_) AllReadyH.nil
      go_simp
      refine (of6_any _ (⟨xsrc, xdst, true, xl⟩ : Dg) A5 xl.length _ OKX.out (HB6.out.keep hS0 (fun _ _ _ => id))).mono ?_
      rintro e w8 ⟨rfl, hx⟩
      have hS1 := hS0.trans hx
      clear hx
      refine hK.out _ _ hS1 (fun _ => ?_)
      refine wpAnyH_ready (rs := [13]) (by kernel_rfl) (by simp) ?_
      refine AllReadyH.cons (o := { dst := some 85, op := Go.Op.call { callee := Go.Callee.value (Go.Operand.func 19), args := #[Go.Operand.tmp 84], argTypes := #[25] }, type := 34, pos := "more.go:27", after := #[{ on := 12, ground := Go.Ground.data }, { on := 11, ground := Go.Ground.chain }, { on := 9, ground := Go.Ground.guard }], guard := some (9, true) }) rfl (fun K hK => ?_) AllReadyH.nil
      go_simp
      refine (of6_any _ (⟨xsrc, xdst, true, xl⟩ : Dg) A c _ OKX.out (HM.out.keep hS1 (fun _ _ _ => id))).mono ?_
      rintro e w9 ⟨rfl, hx⟩
      have hS2 := hS1.trans hx
      clear hx
      refine hK.out _ _ hS2 (fun _ => ?_)
      refine wpAnyH_take (i := 14) (oi := { dst := some 86, op := Go.Op.binOp Go.BinOp.eql 34 (Go.Operand.tmp 83) (Go.Operand.tmp 85) 34, type := 4, pos := "more.go:27", after := #[{ on := 11, ground := Go.Ground.data }, { on := 13, ground := Go.Ground.data }, { on := 9, ground := Go.Ground.guard }], guard := some (9, true) }) (v := ?v133) rfl (by kernel_rfl) (by kernel_rfl) (by kernel_rfl) (fun _ _ _ h => h) (Or.inl ⟨by rfl, ?hy133⟩) (by assumption) ?rest133
      case hy133 => (intro w hSw; (try dsimp only at hSw); have ecxb_0 := hSw.cell cxb_0 id; have ecxb_1 := hSw.cell cxb_1 id; have ecxb_3 := hSw.cell cxb_3 id; have ecxb_2 := hSw.cell cxb_2 id; have ecqb0 := hSw.cell cqb0 id; have ecqb1 := hSw.cell cqb1 id; have ecqb2 := hSw.cell cqb2 id; have ecqb3 := hSw.cell cqb3 id; have z1 := Z1.out; have z2 := Z2.out; go_simp <;> with_reducible rfl)
      try simp only [Act.put, List.setIfInBounds_toArray, List.set_cons_zero, List.set_cons_succ]
      refine wpAnyH_take (i := 15) (oi := { dst := some 87, op := Go.Op.pick (Go.Operand.tmp 81) (Go.Operand.tmp 86) (Go.Operand.const (Go.Value.bool false)), type := 4, pos := "more.go:27", after := #[{ on := 9, ground := Go.Ground.data }, { on := 14, ground := Go.Ground.data }], guard := none }) (v := ?v134) rfl (by kernel_rfl) (by kernel_rfl) (by kernel_rfl) (fun _ _ _ h => h) (Or.inl ⟨by rfl, ?hy134⟩) (by assumption) ?rest134
      case hy134 => (intro w hSw; (try dsimp only at hSw); have ecxb_0 := hSw.cell cxb_0 id; have ecxb_1 := hSw.cell cxb_1 id; have ecxb_3 := hSw.cell cxb_3 id; have ecxb_2 := hSw.cell cxb_2 id; have ecqb0 := hSw.cell cqb0 id; have ecqb1 := hSw.cell cqb1 id; have ecqb2 := hSw.cell cqb2 id; have ecqb3 := hSw.cell cqb3 id; have z1 := Z1.out; have z2 := Z2.out; go_simp <;> with_reducible rfl)
      try simp only [Act.put, List.setIfInBounds_toArray, List.set_cons_zero, List.set_cons_succ]
      refine wpAnyH_take (i := 16) (oi := { dst := some 8, op := Go.Op.assign (Go.Operand.tmp 87), type := 4, pos := "more.go:27", after := #[{ on := 15, ground := Go.Ground.data }, { on := 13, ground := Go.Ground.chain }, { on := 0, ground := Go.Ground.phase }, { on := 1, ground := Go.Ground.phase }, { on := 2, ground := Go.Ground.phase }, { on := 3, ground := Go.Ground.phase }, { on := 4, ground := Go.Ground.phase }, { on := 5, ground := Go.Ground.phase }, { on := 6, ground := Go.Ground.phase }, { on := 7, ground := Go.Ground.phase }, { on := 8, ground := Go.Ground.phase }, { on := 9, ground := Go.Ground.phase }, { on := 10, ground := Go.Ground.phase }, { on := 11, ground := Go.Ground.phase }, { on := 12, ground := Go.Ground.phase }, { on := 13, ground := Go.Ground.phase }, { on := 14, ground := Go.Ground.phase }, { on := 15, ground := Go.Ground.phase }], guard := none }) (v := ?v135) rfl (by kernel_rfl) (by kernel_rfl) (by kernel_rfl) (fun _ _ _ h => h) (Or.inl ⟨by rfl, ?hy135⟩) (by assumption) ?rest135
      case hy135 => (intro w hSw; (try dsimp only at hSw); have ecxb_0 := hSw.cell cxb_0 id; have ecxb_1 := hSw.cell cxb_1 id; have ecxb_3 := hSw.cell cxb_3 id; have ecxb_2 := hSw.cell cxb_2 id; have ecqb0 := hSw.cell cqb0 id; have ecqb1 := hSw.cell cqb1 id; have ecqb2 := hSw.cell cqb2 id; have ecqb3 := hSw.cell cqb3 id; have z1 := Z1.out; have z2 := Z2.out; go_simp <;> with_reducible rfl)
      try simp only [Act.put, List.setIfInBounds_toArray, List.set_cons_zero, List.set_cons_succ]
      refine wpAnyH_done (by kernel_rfl) ?_ _
      have hx := hS2
      clear hS0 hS1 hS2 cxb_0 cxb_1 cxb_3 cxb_2 cqb0 cqb1 cqb2 cqb3
      have HX_w9 := Lib.hid hx
      clear hx
      go_wp2_with fail
      go_ret
      exact ⟨rfl, ((((((HX_w1.out.trans HX_w2.out).andThen HX_w3.out (fun i hi e => by have := hb_xb_; omega)).trans HX_w4.out).trans HX_w5.out).trans HX_w6.out).trans HX_w9.out)⟩
end Go.Proofs.YtfcfpkhcpijkfaaDoor
