/-
 The walk of FragBack. By an AI agent.
-/
import Derived.Test.YtabjihchcmjdmaaDoorGh10
import Derived.Test.YtabjihchcmjdmaaDoorBko10
import Derived.Test.YtabjihchcmjdmaaDoorGb10
import Derived.Test.YtabjihchcmjdmaaDoorGi10
import Derived.Test.YtabjihchcmjdmaaDoorOpenBool
namespace Go.Proofs.YtabjihchcmjdmaaDoor
open Go.RowKit

theorem and8 (x : Int) : ∃ v : Nat, bits .and .i64 x 255 = (v : Int) ∧ v ≤ 255 := by
 obtain ⟨v, h, hv⟩ := and_mask x 255 (by omega)
 exact ⟨v, h, hv⟩
theorem msrK {n i k : Nat} (h : n - i ≤ k) (hl : i < n) : n - (i + 1) < k := by omega
theorem i_ltk {i l : Nat} (h : (i : Int) < (l : Int)) : i < l := by omega
theorem i_endk {i l : Nat} (h : ¬ (i : Int) < (l : Int)) (h2 : i ≤ l) : i = l := by omega
theorem wrap_k {i n : Nat} (h : i < n) (hn : n ≤ 83) : wrap64 ((i : Int) + 1) = (i : Int) + 1 := by unfold wrap64; omega
theorem wrap_k2 {i n : Nat} (h : i < n) (hn : n ≤ 83) : wrap64 ((i : Int) + 1) = ((i + 1 : Nat) : Int) := by unfold wrap64; omega
theorem RW.keep {w w' : World} {P : Nat → Prop} {v : Value} {l : List UInt16} (h : RW w P v l) (hx : Ex (fun _ => False) w w') : RW w' P v l := by
 obtain ⟨h1, A, c, h2, h3, h4⟩ := h
 refine ⟨h1, A, c, h2, h3, fun i hi => ?_⟩
 obtain ⟨b, off, e, hp, hc⟩ := h4 i hi
 exact ⟨b, off, e, hp, hx.cell hc id⟩
theorem ord_row {w : World} {P : Nat → Prop} {A : Option Addr} {c : Nat} {l : List UInt16} (h : RW w P (.slice A l.length c) l) {i : Nat} (hi : i < l.length) : ∃ b off, A = some ⟨b, off, none⟩ ∧ ∃ v : Nat, v ≤ 65535 ∧ w.cell? ⟨b, off + i, none⟩ = some (.int .u16 (v : Int)) := by
 obtain ⟨_, A', c', e, _, hr⟩ := h
 injection e with e _ _
 subst e
 obtain ⟨b, off, e, _, hc⟩ := hr i hi
 exact ⟨b, off, e, l[i].toNat, by have := l[i].toNat_lt; omega, hc⟩
theorem turn_row {w : World} {A : Option Addr} {c : Nat} {l : List Bool} (h : RBL w (.slice A l.length c) l) {i : Nat} (hi : i < l.length) : ∃ b off, A = some ⟨b, off, none⟩ ∧ w.cell? ⟨b, off + i, none⟩ = some (.bool l[i]) := by
 obtain ⟨_, A', c', e, _, hr⟩ := h
 injection e with e _ _
 subst e
 exact hr i hi
theorem RBL.keep {w w' : World} {v : Value} {l : List Bool} (h : RBL w v l) (hx : Ex (fun _ => False) w w') : RBL w' v l := by
 obtain ⟨h1, A, c, h2, h3, h4⟩ := h
 refine ⟨h1, A, c, h2, h3, fun i hi => ?_⟩
 obtain ⟨b, off, e, hc⟩ := h4 i hi
 exact ⟨b, off, e, hx.cell hc id⟩
theorem ord_k {nn i v : Nat} (hi : i < nn) (hn : nn ≤ 83) (_hv : v ≤ 65535) : ∃ d r k : Nat, wrap64 ((nn : Int) - (i : Int)) = (d : Int) ∧ (v : Int).tmod (d : Int) = (r : Int) ∧ wrap64 ((i : Int) + (r : Int)) = (k : Int) ∧ k < nn ∧ d ≠ 0 := by
 obtain ⟨r, hr, hrb⟩ := rem_nat v (nn - i) (by omega)
 exact ⟨nn - i, r, i + r, by unfold wrap64; omega, hr, by unfold wrap64; omega, by omega, by omega⟩
theorem conv16 {v : Nat} (h : v ≤ 65535) : IntKind.i64.wrap (v : Int) = (v : Int) := by rw [IntKind.wrap_i64]; omega
theorem n_1 {n1 : Nat} (h : 0 < n1 ∧ n1 ≤ 83) : ∃ m : Nat, IntKind.i64.wrap ((n1 : Int) - 1) = (m : Int) ∧ m + 1 = n1 := ⟨n1 - 1, by rw [IntKind.wrap_i64]; omega, by omega⟩
theorem eq_no {i m n1 : Nat} (h : m + 1 = n1) (h2 : i + 1 < n1) : ((i : Int) == (m : Int)) = false := by rw [beq_eq_false_iff_ne]; omega
theorem eq_yes {i m n1 : Nat} (h : m + 1 = n1) (h2 : i + 1 = n1) : ((i : Int) == (m : Int)) = true := by simp; omega
theorem eq_no2 {i m n1 : Nat} (h : m + 1 = n1) (h2 : i + 1 < n1) : (i == m) = false := by rw [beq_eq_false_iff_ne]; omega
theorem eq_yes2 {i m n1 : Nat} (h : m + 1 = n1) (h2 : i + 1 = n1) : (i == m) = true := by simp; omega
theorem eq_no3 {i m n1 : Nat} (h : m + 1 = n1) (h2 : i + 1 < n1) : ¬ i = m := by omega
theorem eq_yes3 {i m n1 : Nat} (h : m + 1 = n1) (h2 : i + 1 = n1) : i = m := by omega
theorem m_190 {M i n1 : Nat} (h : M ≤ 2 * i) (h2 : i < n1) (h3 : n1 ≤ 83) : M < 190 ∧ M + 1 < 190 := by omega
theorem m_1 {M i : Nat} (h : M ≤ 2 * i) : M + 1 ≤ 2 * (i + 1) ∧ M + 1 + 1 ≤ 2 * (i + 1) := by omega
theorem split_all (P : Nat → Prop) (p : Pk) (A : Option Addr) (c : Nat) (m : Int) (w : World) (hr : RB w P (.slice A p.b.length c) p.b) (hA : A = none → c = 0) (hl : p.b.length ≤ 4000) (h : spe p m = none) :
  Calls Tryd.prog 15 #[pkv p (.slice A p.b.length c), .int .i64 m] w fun e w' => ∃ A' n' c' os, e = .returned (.tuple #[.slice A' n' c', .nilIface]) ∧ n' = os.length ∧ os.map Prod.fst = parts p m ∧ OP w' w.heap.size (.slice A' n' c') os ∧ (∀ o ∈ os, OB w' w.heap.size (ov o) o.1.b) ∧ Ex (fun _ => False) w w' := by
 refine (split_yes P p A c m w hr hA hl h).mono ?_
 rintro e w' ⟨A', c', os, rfl, hos, hop, hobs, hx⟩
 exact ⟨A', os.length, c', os, rfl, rfl, hos, hop, hobs.1, hx⟩
set_option maxRecDepth 100000 in
set_option maxHeartbeats 16000000 in
theorem back10_any (p : Pk) (A : Option Addr) (c : Nat) (m0 less : Int) (qA gA : Option Addr) (qn qc gn gc : Nat) (ql : List UInt16) (gl : List Bool) (w : World) (ok : p.ok) (hp : RB w (fun _ => True) (.slice A p.b.length c) p.b) (hq : RW w (fun _ => True) (.slice qA qn qc) ql) (ha : RBL w (.slice gA gn gc) gl) (hg : ET w) :
  Calls Tryd.prog 4 #[pkv p (.slice A p.b.length c), .int .i64 m0, .slice qA qn qc, .slice gA gn gc, .int .i64 less] w fun e w' => e = .returned (.bool true) ∧ Ex (fun _ => False) w w' := by
 have hqn : qn = ql.length := by obtain ⟨_, _, _, e, _⟩ := hq; injection e
 have hgn : gn = gl.length := by obtain ⟨_, _, _, e, _⟩ := ha; injection e
 subst hqn hgn
 have HQL := Lib.hid hq
 have HGA := Lib.hid ha
 obtain ⟨k1, hk1, hk1b⟩ := and16 m0
 obtain ⟨r1, hr1, hr1b⟩ := rem15 k1
 obtain ⟨k4, hk4, hk4b⟩ := and8 less
 have HKB := Lib.hid hr1b
 have HR1 := Lib.hid hr1
 have HK1 := Lib.hid hk1
 have HK4 := Lib.hid hk4
 have HK4B := Lib.hid hk4b
 clear hk1b hr1b hk1 hr1 hk4 hk4b hq ha
 obtain ⟨xtos, xid, xdf, xmf, xoff, xttl, xpr, xsrc, xdst, xb⟩ := p
 simp only at hp
 have HG := Lib.hid hg
 have HP := Lib.hid hp
 have OKP := Lib.hid ok
 clear hp ok hg
 show Calls Tryd.prog 4 #[.agg #[.int .u8 xtos, .int .u16 xid, .bool xdf, .bool xmf, .int .i64 xoff, .int .u8 xttl, .int .u8 xpr, .int .u32 xsrc, .int .u32 xdst, .slice A xb.length c], .int .i64 m0, .slice qA ql.length qc, .slice gA gl.length gc, .int .i64 less] w _
 go_enter Tryd.func4, Tryd.ntmps4
 go_upto_region 1 with fail
 have hx : Ex (fun _ => False) w (w.alloc (.cells #[.int .u8 xtos, .int .u16 xid, .bool xdf, .bool xmf, .int .i64 xoff, .int .u8 xttl, .int .u8 xpr, .int .u32 xsrc, .int .u32 xdst, .slice A xb.length c] 27)) := (Ex.refl _ w).alloc _
 have hb : (w.alloc (.cells #[.int .u8 xtos, .int .u16 xid, .bool xdf, .bool xmf, .int .i64 xoff, .int .u8 xttl, .int .u8 xpr, .int .u32 xsrc, .int .u32 xdst, .slice A xb.length c] 27)).heap[w.heap.size]? = some (.cells #[.int .u8 xtos, .int .u16 xid, .bool xdf, .bool xmf, .int .i64 xoff, .int .u8 xttl, .int .u8 xpr, .int .u32 xsrc, .int .u32 xdst, .slice A xb.length c] 27) := heap_alloc_new w _
 obtain ⟨bp, hbp⟩ : ∃ bp, bp = w.heap.size := ⟨_, rfl⟩
 have hb_bp : w.heap.size ≤ bp := by omega
 rw [← hbp] at hb
 try simp only [← hbp]
 generalize w.alloc (.cells #[.int .u8 xtos, .int .u16 xid, .bool xdf, .bool xmf, .int .i64 xoff, .int .u8 xttl, .int .u8 xpr, .int .u32 xsrc, .int .u32 xdst, .slice A xb.length c] 27) = w1 at hx hb ⊢
 clear hbp
 have HX_w1 := Lib.hid hx
 clear hx
 have B_bp := Lib.hid hb
 clear hb
 have hlp := row_lt B_bp.out
 go_wp2_with fail
 refine (shown10_any w1 (HG.out.keep HX_w1.out id)).mono ?_
 rintro e w2 ⟨rfl, hx⟩
 have hz12 := hx.size
 have HX_w2 := Lib.hid hx
 clear hx
 replace B_bp := Lib.hid ((HX_w2.out.block bp (row_lt B_bp.out) id).trans B_bp.out)
 have cbp0 := row_cell (k := 0) (v := .int .u8 xtos) B_bp.out rfl
 have cbp1 := row_cell (k := 1) (v := .int .u16 xid) B_bp.out rfl
 have cbp2 := row_cell (k := 2) (v := .bool xdf) B_bp.out rfl
 have cbp3 := row_cell (k := 3) (v := .bool xmf) B_bp.out rfl
 have cbp4 := row_cell (k := 4) (v := .int .i64 xoff) B_bp.out rfl
 have cbp5 := row_cell (k := 5) (v := .int .u8 xttl) B_bp.out rfl
 have cbp6 := row_cell (k := 6) (v := .int .u8 xpr) B_bp.out rfl
 have cbp7 := row_cell (k := 7) (v := .int .u32 xsrc) B_bp.out rfl
 have cbp8 := row_cell (k := 8) (v := .int .u32 xdst) B_bp.out rfl
 have cbp9 := row_cell (k := 9) (v := .slice A xb.length c) B_bp.out rfl
 have fbp0 := row_frozen B_bp.out 0
 have fbp1 := row_frozen B_bp.out 1
 have fbp2 := row_frozen B_bp.out 2
 have fbp3 := row_frozen B_bp.out 3
 have fbp4 := row_frozen B_bp.out 4
 have fbp5 := row_frozen B_bp.out 5
 have fbp6 := row_frozen B_bp.out 6
 have fbp7 := row_frozen B_bp.out 7
 have fbp8 := row_frozen B_bp.out 8
 have fbp9 := row_frozen B_bp.out 9
 go_wp2_with fail
 refine (few10_any (fun _ => True) (⟨xtos, xid, xdf, xmf, xoff, xttl, xpr, xsrc, xdst, xb⟩ : Pk) A c w2 (RB.keep HP.out (HX_w1.out.trans HX_w2.out) (fun _ _ _ => id))).mono ?_
 rintro e w3 ⟨xA, xc, rfl, ho, hx⟩
 obtain ⟨xl, hxl⟩ : ∃ l, l = xb.take 2000 := ⟨_, rfl⟩
 have hfw : (⟨xtos, xid, xdf, xmf, xoff, xttl, xpr, xsrc, xdst, xb⟩ : Pk).few 2000 = (⟨xtos, xid, xdf, xmf, xoff, xttl, xpr, xsrc, xdst, xl⟩ : Pk) := by rw [hxl]; rfl
 rw [hfw] at ho ⊢
 have hxn : xl.length ≤ 2000 := by rw [hxl, List.length_take]; omega
 have hv : pkv (⟨xtos, xid, xdf, xmf, xoff, xttl, xpr, xsrc, xdst, xl⟩ : Pk) (.slice (some xA) (⟨xtos, xid, xdf, xmf, xoff, xttl, xpr, xsrc, xdst, xl⟩ : Pk).b.length xc) = .agg #[.int .u8 xtos, .int .u16 xid, .bool xdf, .bool xmf, .int .i64 xoff, .int .u8 xttl, .int .u8 xpr, .int .u32 xsrc, .int .u32 xdst, .slice (some xA) xl.length xc] := rfl
 rw [hv]
 have ho' : OB w3 w2.heap.size (.slice (some xA) xl.length xc) xl := ho
 clear hv hfw hxl ho cbp0 cbp1 cbp2 cbp3 cbp4 cbp5 cbp6 cbp7 cbp8 cbp9 fbp0 fbp1 fbp2 fbp3 fbp4 fbp5 fbp6 fbp7 fbp8 fbp9
 have HX_w3 := Lib.hid hx
 clear hx
 have HO_x := Lib.hid ho'
 clear ho'
 have hbl_bp := row_lt B_bp.out
 replace B_bp := Lib.hid ((HX_w3.out.block bp (row_lt B_bp.out) id).trans B_bp.out)
 have cbp0 := row_cell (k := 0) (v := .int .u8 xtos) B_bp.out rfl
 have cbp1 := row_cell (k := 1) (v := .int .u16 xid) B_bp.out rfl
 have cbp2 := row_cell (k := 2) (v := .bool xdf) B_bp.out rfl
 have cbp3 := row_cell (k := 3) (v := .bool xmf) B_bp.out rfl
 have cbp4 := row_cell (k := 4) (v := .int .i64 xoff) B_bp.out rfl
 have cbp5 := row_cell (k := 5) (v := .int .u8 xttl) B_bp.out rfl
 have cbp6 := row_cell (k := 6) (v := .int .u8 xpr) B_bp.out rfl
 have cbp7 := row_cell (k := 7) (v := .int .u32 xsrc) B_bp.out rfl
 have cbp8 := row_cell (k := 8) (v := .int .u32 xdst) B_bp.out rfl
 have cbp9 := row_cell (k := 9) (v := .slice A xb.length c) B_bp.out rfl
 have fbp0 := row_frozen B_bp.out 0
 have fbp1 := row_frozen B_bp.out 1
 have fbp2 := row_frozen B_bp.out 2
 have fbp3 := row_frozen B_bp.out 3
 have fbp4 := row_frozen B_bp.out 4
 have fbp5 := row_frozen B_bp.out 5
 have fbp6 := row_frozen B_bp.out 6
 have fbp7 := row_frozen B_bp.out 7
 have fbp8 := row_frozen B_bp.out 8
 have fbp9 := row_frozen B_bp.out 9
 go_upto_region 3 with fail
 have r0 : (w3.setCell ⟨bp, 0, none⟩ (.int .u8 xtos)).heap[bp]? = some (.cells #[.int .u8 xtos, .int .u16 xid, .bool xdf, .bool xmf, .int .i64 xoff, .int .u8 xttl, .int .u8 xpr, .int .u32 xsrc, .int .u32 xdst, .slice A xb.length c] 27) := row_set B_bp.out 0 (.int .u8 xtos)
 have r1 : ((w3.setCell ⟨bp, 0, none⟩ (.int .u8 xtos)).setCell ⟨bp, 1, none⟩ (.int .u16 xid)).heap[bp]? = some (.cells #[.int .u8 xtos, .int .u16 xid, .bool xdf, .bool xmf, .int .i64 xoff, .int .u8 xttl, .int .u8 xpr, .int .u32 xsrc, .int .u32 xdst, .slice A xb.length c] 27) := row_set r0 1 (.int .u16 xid)
 clear r0
 have r2 : (((w3.setCell ⟨bp, 0, none⟩ (.int .u8 xtos)).setCell ⟨bp, 1, none⟩ (.int .u16 xid)).setCell ⟨bp, 2, none⟩ (.bool xdf)).heap[bp]? = some (.cells #[.int .u8 xtos, .int .u16 xid, .bool xdf, .bool xmf, .int .i64 xoff, .int .u8 xttl, .int .u8 xpr, .int .u32 xsrc, .int .u32 xdst, .slice A xb.length c] 27) := row_set r1 2 (.bool xdf)
 clear r1
 have r3 : ((((w3.setCell ⟨bp, 0, none⟩ (.int .u8 xtos)).setCell ⟨bp, 1, none⟩ (.int .u16 xid)).setCell ⟨bp, 2, none⟩ (.bool xdf)).setCell ⟨bp, 3, none⟩ (.bool xmf)).heap[bp]? = some (.cells #[.int .u8 xtos, .int .u16 xid, .bool xdf, .bool xmf, .int .i64 xoff, .int .u8 xttl, .int .u8 xpr, .int .u32 xsrc, .int .u32 xdst, .slice A xb.length c] 27) := row_set r2 3 (.bool xmf)
 clear r2
 have r4 : (((((w3.setCell ⟨bp, 0, none⟩ (.int .u8 xtos)).setCell ⟨bp, 1, none⟩ (.int .u16 xid)).setCell ⟨bp, 2, none⟩ (.bool xdf)).setCell ⟨bp, 3, none⟩ (.bool xmf)).setCell ⟨bp, 4, none⟩ (.int .i64 xoff)).heap[bp]? = some (.cells #[.int .u8 xtos, .int .u16 xid, .bool xdf, .bool xmf, .int .i64 xoff, .int .u8 xttl, .int .u8 xpr, .int .u32 xsrc, .int .u32 xdst, .slice A xb.length c] 27) := row_set r3 4 (.int .i64 xoff)
 clear r3
 have r5 : ((((((w3.setCell ⟨bp, 0, none⟩ (.int .u8 xtos)).setCell ⟨bp, 1, none⟩ (.int .u16 xid)).setCell ⟨bp, 2, none⟩ (.bool xdf)).setCell ⟨bp, 3, none⟩ (.bool xmf)).setCell ⟨bp, 4, none⟩ (.int .i64 xoff)).setCell ⟨bp, 5, none⟩ (.int .u8 xttl)).heap[bp]? = some (.cells #[.int .u8 xtos, .int .u16 xid, .bool xdf, .bool xmf, .int .i64 xoff, .int .u8 xttl, .int .u8 xpr, .int .u32 xsrc, .int .u32 xdst, .slice A xb.length c] 27) := row_set r4 5 (.int .u8 xttl)
 clear r4
 have r6 : (((((((w3.setCell ⟨bp, 0, none⟩ (.int .u8 xtos)).setCell ⟨bp, 1, none⟩ (.int .u16 xid)).setCell ⟨bp, 2, none⟩ (.bool xdf)).setCell ⟨bp, 3, none⟩ (.bool xmf)).setCell ⟨bp, 4, none⟩ (.int .i64 xoff)).setCell ⟨bp, 5, none⟩ (.int .u8 xttl)).setCell ⟨bp, 6, none⟩ (.int .u8 xpr)).heap[bp]? = some (.cells #[.int .u8 xtos, .int .u16 xid, .bool xdf, .bool xmf, .int .i64 xoff, .int .u8 xttl, .int .u8 xpr, .int .u32 xsrc, .int .u32 xdst, .slice A xb.length c] 27) := row_set r5 6 (.int .u8 xpr)
 clear r5
 have r7 : ((((((((w3.setCell ⟨bp, 0, none⟩ (.int .u8 xtos)).setCell ⟨bp, 1, none⟩ (.int .u16 xid)).setCell ⟨bp, 2, none⟩ (.bool xdf)).setCell ⟨bp, 3, none⟩ (.bool xmf)).setCell ⟨bp, 4, none⟩ (.int .i64 xoff)).setCell ⟨bp, 5, none⟩ (.int .u8 xttl)).setCell ⟨bp, 6, none⟩ (.int .u8 xpr)).setCell ⟨bp, 7, none⟩ (.int .u32 xsrc)).heap[bp]? = some (.cells #[.int .u8 xtos, .int .u16 xid, .bool xdf, .bool xmf, .int .i64 xoff, .int .u8 xttl, .int .u8 xpr, .int .u32 xsrc, .int .u32 xdst, .slice A xb.length c] 27) := row_set r6 7 (.int .u32 xsrc)
 clear r6
 have r8 : (((((((((w3.setCell ⟨bp, 0, none⟩ (.int .u8 xtos)).setCell ⟨bp, 1, none⟩ (.int .u16 xid)).setCell ⟨bp, 2, none⟩ (.bool xdf)).setCell ⟨bp, 3, none⟩ (.bool xmf)).setCell ⟨bp, 4, none⟩ (.int .i64 xoff)).setCell ⟨bp, 5, none⟩ (.int .u8 xttl)).setCell ⟨bp, 6, none⟩ (.int .u8 xpr)).setCell ⟨bp, 7, none⟩ (.int .u32 xsrc)).setCell ⟨bp, 8, none⟩ (.int .u32 xdst)).heap[bp]? = some (.cells #[.int .u8 xtos, .int .u16 xid, .bool xdf, .bool xmf, .int .i64 xoff, .int .u8 xttl, .int .u8 xpr, .int .u32 xsrc, .int .u32 xdst, .slice A xb.length c] 27) := row_set r7 8 (.int .u32 xdst)
 clear r7
 have r9 : ((((((((((w3.setCell ⟨bp, 0, none⟩ (.int .u8 xtos)).setCell ⟨bp, 1, none⟩ (.int .u16 xid)).setCell ⟨bp, 2, none⟩ (.bool xdf)).setCell ⟨bp, 3, none⟩ (.bool xmf)).setCell ⟨bp, 4, none⟩ (.int .i64 xoff)).setCell ⟨bp, 5, none⟩ (.int .u8 xttl)).setCell ⟨bp, 6, none⟩ (.int .u8 xpr)).setCell ⟨bp, 7, none⟩ (.int .u32 xsrc)).setCell ⟨bp, 8, none⟩ (.int .u32 xdst)).setCell ⟨bp, 9, none⟩ (.slice (some xA) xl.length xc)).heap[bp]? = some (.cells #[.int .u8 xtos, .int .u16 xid, .bool xdf, .bool xmf, .int .i64 xoff, .int .u8 xttl, .int .u8 xpr, .int .u32 xsrc, .int .u32 xdst, .slice (some xA) xl.length xc] 27) := row_set r8 9 (.slice (some xA) xl.length xc)
 clear r8
 have hx : Ex (fun j => j = bp) w3 ((((((((((w3.setCell ⟨bp, 0, none⟩ (.int .u8 xtos)).setCell ⟨bp, 1, none⟩ (.int .u16 xid)).setCell ⟨bp, 2, none⟩ (.bool xdf)).setCell ⟨bp, 3, none⟩ (.bool xmf)).setCell ⟨bp, 4, none⟩ (.int .i64 xoff)).setCell ⟨bp, 5, none⟩ (.int .u8 xttl)).setCell ⟨bp, 6, none⟩ (.int .u8 xpr)).setCell ⟨bp, 7, none⟩ (.int .u32 xsrc)).setCell ⟨bp, 8, none⟩ (.int .u32 xdst)).setCell ⟨bp, 9, none⟩ (.slice (some xA) xl.length xc)) := (((((((((((Ex.refl (fun j => j = bp) w3).setCell (p := ⟨bp, 0, none⟩) (.inl rfl) (.int .u8 xtos)).setCell (p := ⟨bp, 1, none⟩) (.inl rfl) (.int .u16 xid)).setCell (p := ⟨bp, 2, none⟩) (.inl rfl) (.bool xdf)).setCell (p := ⟨bp, 3, none⟩) (.inl rfl) (.bool xmf)).setCell (p := ⟨bp, 4, none⟩) (.inl rfl) (.int .i64 xoff)).setCell (p := ⟨bp, 5, none⟩) (.inl rfl) (.int .u8 xttl)).setCell (p := ⟨bp, 6, none⟩) (.inl rfl) (.int .u8 xpr)).setCell (p := ⟨bp, 7, none⟩) (.inl rfl) (.int .u32 xsrc)).setCell (p := ⟨bp, 8, none⟩) (.inl rfl) (.int .u32 xdst)).setCell (p := ⟨bp, 9, none⟩) (.inl rfl) (.slice (some xA) xl.length xc))
 clear cbp0 cbp1 cbp2 cbp3 cbp4 cbp5 cbp6 cbp7 cbp8 cbp9 fbp0 fbp1 fbp2 fbp3 fbp4 fbp5 fbp6 fbp7 fbp8 fbp9
 generalize ((((((((((w3.setCell ⟨bp, 0, none⟩ (.int .u8 xtos)).setCell ⟨bp, 1, none⟩ (.int .u16 xid)).setCell ⟨bp, 2, none⟩ (.bool xdf)).setCell ⟨bp, 3, none⟩ (.bool xmf)).setCell ⟨bp, 4, none⟩ (.int .i64 xoff)).setCell ⟨bp, 5, none⟩ (.int .u8 xttl)).setCell ⟨bp, 6, none⟩ (.int .u8 xpr)).setCell ⟨bp, 7, none⟩ (.int .u32 xsrc)).setCell ⟨bp, 8, none⟩ (.int .u32 xdst)).setCell ⟨bp, 9, none⟩ (.slice (some xA) xl.length xc)) = w4 at r9 hx ⊢
 replace B_bp := Lib.hid r9
 clear r9
 have HX_w4 := Lib.hid hx
 clear hx
 have HXN := Lib.hid hxn
 clear hxn
 have cbp4 := row_cell (k := 4) (v := .int .i64 xoff) B_bp.out rfl
 have fbp4 := row_frozen B_bp.out 4
 go_upto_region 4 with fail
 have hb : (w4.setCell ⟨bp, 4, none⟩ (.int .i64 0)).heap[bp]? = some (.cells #[.int .u8 xtos, .int .u16 xid, .bool xdf, .bool xmf, .int .i64 0, .int .u8 xttl, .int .u8 xpr, .int .u32 xsrc, .int .u32 xdst, .slice (some xA) xl.length xc] 27) := (row_set B_bp.out 4 (.int .i64 0))
 have hx : Ex (fun j => j = bp) w4 (w4.setCell ⟨bp, 4, none⟩ (.int .i64 0)) := ((Ex.refl (fun j => j = bp) w4).setCell (p := ⟨bp, 4, none⟩) (.inl rfl) (.int .i64 0))
 clear cbp4 fbp4
 generalize (w4.setCell ⟨bp, 4, none⟩ (.int .i64 0)) = w5 at hx hb ⊢
 clear B_bp
 have HX_w5 := Lib.hid hx
 clear hx
 have B_bp := Lib.hid hb
 clear hb
 have cbp3 := row_cell (k := 3) (v := .bool xmf) B_bp.out rfl
 have fbp3 := row_frozen B_bp.out 3
 go_upto_region 5 with fail
 have hb : (w5.setCell ⟨bp, 3, none⟩ (.bool false)).heap[bp]? = some (.cells #[.int .u8 xtos, .int .u16 xid, .bool xdf, .bool false, .int .i64 0, .int .u8 xttl, .int .u8 xpr, .int .u32 xsrc, .int .u32 xdst, .slice (some xA) xl.length xc] 27) := (row_set B_bp.out 3 (.bool false))
 have hx : Ex (fun j => j = bp) w5 (w5.setCell ⟨bp, 3, none⟩ (.bool false)) := ((Ex.refl (fun j => j = bp) w5).setCell (p := ⟨bp, 3, none⟩) (.inl rfl) (.bool false))
 clear cbp3 fbp3
 generalize (w5.setCell ⟨bp, 3, none⟩ (.bool false)) = w6 at hx hb ⊢
 clear B_bp
 have HX_w6 := Lib.hid hx
 clear hx
 have B_bp := Lib.hid hb
 clear hb
 have cbp2 := row_cell (k := 2) (v := .bool xdf) B_bp.out rfl
 have fbp2 := row_frozen B_bp.out 2
 go_upto_region 6 with fail
 have hb : (w6.setCell ⟨bp, 2, none⟩ (.bool false)).heap[bp]? = some (.cells #[.int .u8 xtos, .int .u16 xid, .bool false, .bool false, .int .i64 0, .int .u8 xttl, .int .u8 xpr, .int .u32 xsrc, .int .u32 xdst, .slice (some xA) xl.length xc] 27) := (row_set B_bp.out 2 (.bool false))
 have hx : Ex (fun j => j = bp) w6 (w6.setCell ⟨bp, 2, none⟩ (.bool false)) := ((Ex.refl (fun j => j = bp) w6).setCell (p := ⟨bp, 2, none⟩) (.inl rfl) (.bool false))
 clear cbp2 fbp2
 generalize (w6.setCell ⟨bp, 2, none⟩ (.bool false)) = w7 at hx hb ⊢
 clear B_bp
 have HX_w7 := Lib.hid hx
 clear hx
 have B_bp := Lib.hid hb
 clear hb
 replace HO_x := Lib.hid (OB.keepB (OB.keepB (OB.keepB (OB.keepB HO_x.out HX_w4.out (by omega)) HX_w5.out (by omega)) HX_w6.out (by omega)) HX_w7.out (by omega))
 have HGL := Lib.hid (HG.out.keep (HX_w1.out.trans HX_w2.out) id)
 have HPG : Hid (0 ≠ bp) := by
  intro e
  have h1 := HG.out
  have h2 := cell_lt h1
  simp only at h2
  omega
 have HG7 : Hid (ET w7) := (((((HGL.out.keep HX_w3.out id).keep HX_w4.out (fun e => HPG.out e)).keep HX_w5.out (fun e => HPG.out e)).keep HX_w6.out (fun e => HPG.out e)).keep HX_w7.out (fun e => HPG.out e))
 have OKX : Hid ((⟨xtos, xid, false, false, 0, xttl, xpr, xsrc, xdst, xl⟩ : Pk).ok) := ⟨OKP.out.1, OKP.out.2.1, ⟨by show (-9223372036854775808 : Int) ≤ 0; decide, by show (0 : Int) ≤ 9223372036854775807; decide⟩, OKP.out.2.2.2⟩
 have hrt : (⟨xtos, xid, false, false, 0, xttl, xpr, xsrc, xdst, xl⟩ : Pk).right = 0 := by
  have := HXN.out
  unfold Pk.right
  simp only
  rw [if_neg (by simp), if_neg (by omega)]
 have HRR := Lib.hid hrt
 clear hrt
 have hk1 := HK1.out
 have hr1 := HR1.out
 go_upto_region 7 with fail
 clear hk1 hr1
 obtain ⟨M, hM⟩ : ∃ M : Int, M = wrap64 (68 + (r1 : Int)) := ⟨_, rfl⟩
 try rw [← hM]
 have HM68 : Hid (68 ≤ M) := by
  show 68 ≤ M
  have := HKB.out
  rw [hM]
  unfold wrap64
  omega
 clear hM
 have cbp0 := row_cell (k := 0) (v := .int .u8 xtos) B_bp.out rfl
 have cbp1 := row_cell (k := 1) (v := .int .u16 xid) B_bp.out rfl
 have cbp2 := row_cell (k := 2) (v := .bool false) B_bp.out rfl
 have cbp3 := row_cell (k := 3) (v := .bool false) B_bp.out rfl
 have cbp4 := row_cell (k := 4) (v := .int .i64 0) B_bp.out rfl
 have cbp5 := row_cell (k := 5) (v := .int .u8 xttl) B_bp.out rfl
 have cbp6 := row_cell (k := 6) (v := .int .u8 xpr) B_bp.out rfl
 have cbp7 := row_cell (k := 7) (v := .int .u32 xsrc) B_bp.out rfl
 have cbp8 := row_cell (k := 8) (v := .int .u32 xdst) B_bp.out rfl
 have cbp9 := row_cell (k := 9) (v := .slice (some xA) xl.length xc) B_bp.out rfl
 go_wp2_with fail
 refine (split_pl _ (⟨xtos, xid, false, false, 0, xttl, xpr, xsrc, xdst, xl⟩ : Pk) (some xA) xc M w7 HO_x.out.rb (fun h => by cases h) HXN.out (spe_good HM68.out HRR.out rfl)).mono ?_
 rintro e w8 ⟨g, c5, z, n, os, rfl, hpl, hn42, hgb, hx⟩
 obtain ⟨Bp, hBp⟩ : ∃ Bp, Bp = w7.heap.size := ⟨_, rfl⟩
 rw [← hBp] at hpl hgb
 have HPL := Lib.hid hpl
 have HPD := Lib.hid hpl.pd
 have HN := Lib.hid hn42
 have HGB := Lib.hid hgb
 have HBP := Lib.hid hBp
 clear hpl hn42 hgb hBp
 have HX_w8 := Lib.hid hx
 clear hx
 clear cbp0 cbp1 cbp2 cbp3 cbp4 cbp5 cbp6 cbp7 cbp8 cbp9
 replace B_bp := Lib.hid ((HX_w8.out.block bp (row_lt B_bp.out) id).trans B_bp.out)
 replace HO_x := Lib.hid (OB.keep HO_x.out HX_w8.out (fun _ _ _ _ => id))
 have HX08 := Lib.hid (((((((HX_w1.out.trans HX_w2.out).trans HX_w3.out).andThen HX_w4.out (fun i hi e => by have := hb_bp; omega)).andThen HX_w5.out (fun i hi e => by have := hb_bp; omega)).andThen HX_w6.out (fun i hi e => by have := hb_bp; omega)).andThen HX_w7.out (fun i hi e => by have := hb_bp; omega)).trans HX_w8.out)
 have HG8 : Hid (ET w8) := HG7.out.keep HX_w8.out id
 obtain ⟨B0, hB0⟩ : ∃ B0, B0 = w8.heap.size := ⟨_, rfl⟩
 have HB0 := Lib.hid hB0
 clear hB0
 have HBPL := Lib.hid (show bp < B0 by rw [HB0.out]; exact row_lt B_bp.out)
 go_wp2_with fail
 go_loopg [14, 15, 16, 17] n (fun kx s14 s15 _ _ wr => ∃ (i : Nat) (A1 : Option Addr) (n1 c1 : Nat) (os1 : List Po), s15 = .int .i64 i ∧ s14 = .slice A1 n1 c1 ∧ i ≤ n ∧ n - i ≤ kx ∧ Hid (n1 = os1.length) ∧ Hid (AllR wr B0 (.slice A1 n1 c1) os1) ∧ Hid (Pcn (⟨xtos, xid, false, false, 0, xttl, xpr, xsrc, xdst, xl⟩ : Pk) z i (os1.map Prod.fst)) ∧ Hid (Ex (fun _ => False) w8 wr))
 case atStart => exact ⟨0, none, 0, 0, [], rfl, rfl, Nat.zero_le _, Nat.le_refl _, Lib.hid rfl, Lib.hid (AllR.nil _ _), Lib.hid (Pcn.start _ _), Lib.hid (Ex.refl _ _)⟩
 case round =>
  obtain ⟨i, A1, n1, c1, os1, rfl, rfl, hin, hkx, HN1, HAR, HPC, HXR⟩ := hrel
  by_cases hlt : (i : Int) < (n : Int)
  ·
   have hin2 := i_ltk hlt
   have HIN := Lib.hid hin2
   obtain ⟨omf, ooff, ob, oA, oc, hpe_o, hbl_o, hob_o, hrow_o⟩ := ((HPL.out.keep HXR.out)).row hin2
   have lc0 : wr.cell? ⟨g, i * 10, none⟩ = some (.int .u8 xtos) := hrow_o 0 _ rfl
   have lc1 : wr.cell? ⟨g, i * 10 + 1, none⟩ = some (.int .u16 xid) := hrow_o 1 _ rfl
   have lc2 : wr.cell? ⟨g, i * 10 + 2, none⟩ = some (.bool false) := hrow_o 2 _ rfl
   have lc3 : wr.cell? ⟨g, i * 10 + 3, none⟩ = some (.bool omf) := hrow_o 3 _ rfl
   have lc4 : wr.cell? ⟨g, i * 10 + 4, none⟩ = some (.int .i64 ooff) := hrow_o 4 _ rfl
   have lc5 : wr.cell? ⟨g, i * 10 + 5, none⟩ = some (.int .u8 xttl) := hrow_o 5 _ rfl
   have lc6 : wr.cell? ⟨g, i * 10 + 6, none⟩ = some (.int .u8 xpr) := hrow_o 6 _ rfl
   have lc7 : wr.cell? ⟨g, i * 10 + 7, none⟩ = some (.int .u32 xsrc) := hrow_o 7 _ rfl
   have lc8 : wr.cell? ⟨g, i * 10 + 8, none⟩ = some (.int .u32 xdst) := hrow_o 8 _ rfl
   have lc9 : wr.cell? ⟨g, i * 10 + 9, none⟩ = some (.slice oA ob.length oc) := hrow_o 9 _ rfl
   have HPE_o : Hid (pti (⟨xtos, xid, false, false, 0, xttl, xpr, xsrc, xdst, xl⟩ : Pk) z n i = (⟨xtos, xid, false, omf, ooff, xttl, xpr, xsrc, xdst, ob⟩ : Pk)) := hpe_o
   have HOB_o := Lib.hid hob_o
   have HBL_o : Hid (ob.length ≤ xl.length) := hbl_o
   clear hrow_o hpe_o hob_o hbl_o
   have hk4 := HK4.out
   clear hin
   go_wp2_with fail
   clear hk4
   obtain ⟨M2, hM2⟩ : ∃ M2 : Int, M2 = max (wrap64 (M - (k4 : Int))) 68 := ⟨_, rfl⟩
   rw [← hM2]
   have HM2 : Hid (68 ≤ M2) := by
    show 68 ≤ M2
    rw [hM2]
    exact Int.le_max_right _ _
   clear hM2
   have hspe : spe (pti (⟨xtos, xid, false, false, 0, xttl, xpr, xsrc, xdst, xl⟩ : Pk) z n i) M2 = none := spe_good HM2.out (HPD.out.right HRR.out hin2) rfl
   have HPN := Lib.hid (Pcn.step HPD.out OKX.out rfl rfl HRR.out HXN.out hin2 HPC.out HM2.out hspe)
   rw [HPE_o.out] at hspe HPN
   refine (split_all _ (⟨xtos, xid, false, omf, ooff, xttl, xpr, xsrc, xdst, ob⟩ : Pk) oA oc M2 wr HOB_o.out.rb HOB_o.out.anyA (Nat.le_trans HBL_o.out (Nat.le_trans HXN.out (by decide))) hspe).mono ?_
   rintro e ws ⟨A2, n2, c2, os2, rfl, hn2, hos2, hop2, hob2, hx⟩
   rw [← hos2] at HPN
   have HN2 := Lib.hid hn2
   have HOP2 := Lib.hid hop2
   have HBW := Lib.hid (show B0 ≤ wr.heap.size by rw [HB0.out]; exact HXR.out.size)
   have HOB2 := Lib.hid (fun o (ho : o ∈ os2) => (hob2 o ho).mono HBW.out)
   have hlen : os1.length + os2.length ≤ 300 := by
    have h1 := HPN.out.len
    rw [List.length_append, List.length_map, List.length_map] at h1
    have h2 := HN.out
    have h3 : min ((i + 1) * z) xl.length ≤ 2000 := Nat.le_trans (Nat.min_le_right _ _) HXN.out
    have h4 : min ((i + 1) * z) xl.length / 48 ≤ 2000 / 48 := Nat.div_le_div_right h3
    change os1.length + os2.length ≤ i + 1 + min ((i + 1) * z) xl.length / 48 at h1
    omega
   have HLEN := Lib.hid hlen
   clear hspe hn2 hos2 hop2 hob2 hlen hin2 lc0 lc1 lc2 lc3 lc4 lc5 lc6 lc7 lc8 lc9
   have HX_ws := Lib.hid hx
   clear hx
   have HARS := Lib.hid (HAR.out.keep HX_ws.out)
   have HBS := Lib.hid (Nat.le_trans HBW.out HX_ws.out.size)
   obtain ⟨i1, hj, hy0, hy1, hy2⟩ := info_parts Tryd.info27
   go_wp2_with (at_builtin; refine wpList_append_all i1 33 _ 56 Tryd.underlying33 hj hy0 rfl hy1 hy2 (by decide) rfl (.tmp 68) (.tmp 69) rfl B0 wr.heap.size (.slice A1 n1 c1) os1 os2 rfl A2 n2 c2 rfl HN2.out n1 HN1.out HARS.out HOP2.out HOB2.out HLEN.out HBS.out ?_; intro A7 c7 w7 har7 hx7)
   have HAR7 := Lib.hid har7
   have HX7 : Hid (Ex (fun _ => False) w8 w7) := (HXR.out.trans HX_ws.out).andThen hx7 (fun k h1 e => by
    have h2 := (HARS.out.op.lt k e).1
    have h3 := HB0.out
    omega)
   clear har7 hx7 hj hy0 hy1 hy2
   have hwi := wrap_k HIN.out (Nat.le_trans HN.out.2 (by decide))
   go_wp2_with fail
   go_roundg (n - (i + 1))
   case measure => exact msrK hkx HIN.out
   case rel => exact ⟨i + 1, A7, n1 + n2, c7, os1 ++ os2, by first | (simp; done) | (rw [wrap_k2 HIN.out (Nat.le_trans HN.out.2 (by decide))]), rfl, HIN.out, Nat.le_refl _, Lib.hid (by rw [List.length_append, ← HN1.out, ← HN2.out]), HAR7, Lib.hid (by rw [List.map_append]; exact HPN.out), HX7⟩
  ·
   obtain rfl := i_endk hlt hin
   have HPS := Lib.hid (HPC.out.done HPD.out HN.out.2 rfl rfl HXN.out)
   have hpos : 0 < os1.length := by have h := HPS.out.pos; rw [List.length_map] at h; exact h
   have hn83 : os1.length ≤ 83 := by have h := HPS.out.len; rw [List.length_map] at h; exact h
   have hop : OP wr B0 (.slice A1 os1.length c1) os1 := by have h := HAR.out.op; rw [HN1.out] at h; exact h
   obtain ⟨ga, cga, e, hcap, hgc⟩ := hop.get 0 hpos
   clear hgc
   injection e with e _ e2
   subst e e2
   obtain ⟨wq, rfl⟩ : ∃ W, W = wr := ⟨_, rfl⟩
   obtain ⟨nn, hnn⟩ : ∃ nn, nn = os1.length := ⟨_, rfl⟩
   have hn1 : n1 = nn := by rw [HN1.out, hnn]
   subst hn1
   have HNN := Lib.hid (show 0 < n1 ∧ n1 ≤ 83 by omega)
   have HON := Lib.hid hnn.symm
   clear hpos hn83 hop hcap hnn hlt hin hkx
   go_upto_block 2 with fail
   go_cut [14] (fun x14 wx => ∃ os2 : List Po, x14 = .slice (some ⟨ga, 0, none⟩) n1 c1 ∧ Hid (AllR wx B0 (.slice (some ⟨ga, 0, none⟩) n1 c1) os2) ∧ Hid (os2.length = n1) ∧ Hid (Pcs (⟨xtos, xid, false, false, 0, xttl, xpr, xsrc, xdst, xl⟩ : Pk) (os2.map Prod.fst)) ∧ Hid (Ex (fun _ => False) w8 wx))
   case first =>
    go_wp2_with fail
    go_loopg [18, 19, 20] n1 (fun kx s18 _ _ wr => ∃ (i : Nat) (os2 : List Po), s18 = .int .i64 i ∧ i ≤ n1 ∧ n1 - i ≤ kx ∧ Hid (AllR wr B0 (.slice (some ⟨ga, 0, none⟩) n1 c1) os2) ∧ Hid (os2.length = n1) ∧ Hid (Pcs (⟨xtos, xid, false, false, 0, xttl, xpr, xsrc, xdst, xl⟩ : Pk) (os2.map Prod.fst)) ∧ Hid (Ex (fun _ => False) w8 wr))
    case atStart => exact ⟨0, os1, rfl, Nat.zero_le _, Nat.le_refl _, HAR, HON, HPS, HXR⟩
    case round =>
     clear HAR HON HPS HXR HN1 HPC
     obtain ⟨i, os2, rfl, hin, hkx, HAR, HON, HPS, HXR⟩ := hrel
     by_cases hlt : (i : Int) < (n1 : Int)
     ·
      by_cases hlq : (i : Int) < (ql.length : Int)
      ·
       have HIN := Lib.hid (i_ltk hlt)
       have hio : i < os2.length := by rw [HON.out]; exact HIN.out
       obtain ⟨bo, oo, rfl, v, hv, hcq⟩ := ord_row (HQL.out.keep (HX08.out.trans HXR.out)) (i_ltk hlq)
       obtain ⟨d, r, k, hd, hr, hk, hkn, hd0⟩ := ord_k HIN.out HNN.out.2 hv
       have hcv := conv16 hv
       have hdz : ¬ d = 0 := hd0
       have HKN := Lib.hid hkn
       have HKO := Lib.hid (show k < os2.length by rw [HON.out]; exact hkn)
       have HIO := Lib.hid hio
       clear hv hkn hd0 hio hin
       go_upto_region 22 with fail
       try rw [hk]
       clear hd hr hk hcv hdz hcq
       obtain ⟨umf, uoff, ub, uA, uc, heu, _, _, hru⟩ := HAR.out.row HPS.out HIO.out
       obtain ⟨tmf, toff, tb, tA, tc, het, _, _, hrt⟩ := HAR.out.row HPS.out HKO.out
       have HEU : Hid (os2[i]'(HIO.out) = ((⟨xtos, xid, false, umf, uoff, xttl, xpr, xsrc, xdst, ub⟩ : Pk), uA, uc)) := heu
       have HET : Hid (os2[k]'(HKO.out) = ((⟨xtos, xid, false, tmf, toff, xttl, xpr, xsrc, xdst, tb⟩ : Pk), tA, tc)) := het
       have lu0 : wr.cell? ⟨ga, i * 10, none⟩ = some (.int .u8 xtos) := hru 0 _ rfl
       have lu1 : wr.cell? ⟨ga, i * 10 + 1, none⟩ = some (.int .u16 xid) := hru 1 _ rfl
       have lu2 : wr.cell? ⟨ga, i * 10 + 2, none⟩ = some (.bool false) := hru 2 _ rfl
       have lu3 : wr.cell? ⟨ga, i * 10 + 3, none⟩ = some (.bool umf) := hru 3 _ rfl
       have lu4 : wr.cell? ⟨ga, i * 10 + 4, none⟩ = some (.int .i64 uoff) := hru 4 _ rfl
       have lu5 : wr.cell? ⟨ga, i * 10 + 5, none⟩ = some (.int .u8 xttl) := hru 5 _ rfl
       have lu6 : wr.cell? ⟨ga, i * 10 + 6, none⟩ = some (.int .u8 xpr) := hru 6 _ rfl
       have lu7 : wr.cell? ⟨ga, i * 10 + 7, none⟩ = some (.int .u32 xsrc) := hru 7 _ rfl
       have lu8 : wr.cell? ⟨ga, i * 10 + 8, none⟩ = some (.int .u32 xdst) := hru 8 _ rfl
       have lu9 : wr.cell? ⟨ga, i * 10 + 9, none⟩ = some (.slice uA ub.length uc) := hru 9 _ rfl
       clear hru hrt heu het
       go_upto_region 23 with fail
       clear lu0 lu1 lu2 lu3 lu4 lu5 lu6 lu7 lu8 lu9
       have hx : Ex (fun _ => False) wr (wr.alloc (.cells #[.int .u8 xtos, .int .u16 xid, .bool false, .bool umf, .int .i64 uoff, .int .u8 xttl, .int .u8 xpr, .int .u32 xsrc, .int .u32 xdst, .slice uA ub.length uc] 27)) := (Ex.refl _ wr).alloc _
       have hb : (wr.alloc (.cells #[.int .u8 xtos, .int .u16 xid, .bool false, .bool umf, .int .i64 uoff, .int .u8 xttl, .int .u8 xpr, .int .u32 xsrc, .int .u32 xdst, .slice uA ub.length uc] 27)).heap[wr.heap.size]? = some (.cells #[.int .u8 xtos, .int .u16 xid, .bool false, .bool umf, .int .i64 uoff, .int .u8 xttl, .int .u8 xpr, .int .u32 xsrc, .int .u32 xdst, .slice uA ub.length uc] 27) := heap_alloc_new wr _
       obtain ⟨sx, hsx⟩ : ∃ sx, sx = wr.heap.size := ⟨_, rfl⟩
       have hb_sx : wr.heap.size ≤ sx := by omega
       rw [← hsx] at hb
       try simp only [← hsx]
       generalize wr.alloc (.cells #[.int .u8 xtos, .int .u16 xid, .bool false, .bool umf, .int .i64 uoff, .int .u8 xttl, .int .u8 xpr, .int .u32 xsrc, .int .u32 xdst, .slice uA ub.length uc] 27) = wa at hx hb ⊢
       clear hsx
       have HX_wa := Lib.hid hx
       clear hx
       have B_sx := Lib.hid hb
       clear hb
       have HARA := Lib.hid (HAR.out.keep HX_wa.out)
       have hru := HARA.out.op.cells10 HIO.out HEU.out
       have hrt := HARA.out.op.cells10 HKO.out HET.out
       have lu0 : wa.cell? ⟨ga, i * 10, none⟩ = some (.int .u8 xtos) := hru 0 _ rfl
       have lu1 : wa.cell? ⟨ga, i * 10 + 1, none⟩ = some (.int .u16 xid) := hru 1 _ rfl
       have lu2 : wa.cell? ⟨ga, i * 10 + 2, none⟩ = some (.bool false) := hru 2 _ rfl
       have lu3 : wa.cell? ⟨ga, i * 10 + 3, none⟩ = some (.bool umf) := hru 3 _ rfl
       have lu4 : wa.cell? ⟨ga, i * 10 + 4, none⟩ = some (.int .i64 uoff) := hru 4 _ rfl
       have lu5 : wa.cell? ⟨ga, i * 10 + 5, none⟩ = some (.int .u8 xttl) := hru 5 _ rfl
       have lu6 : wa.cell? ⟨ga, i * 10 + 6, none⟩ = some (.int .u8 xpr) := hru 6 _ rfl
       have lu7 : wa.cell? ⟨ga, i * 10 + 7, none⟩ = some (.int .u32 xsrc) := hru 7 _ rfl
       have lu8 : wa.cell? ⟨ga, i * 10 + 8, none⟩ = some (.int .u32 xdst) := hru 8 _ rfl
       have lu9 : wa.cell? ⟨ga, i * 10 + 9, none⟩ = some (.slice uA ub.length uc) := hru 9 _ rfl
       have lt0 : wa.cell? ⟨ga, k * 10, none⟩ = some (.int .u8 xtos) := hrt 0 _ rfl
       have lt1 : wa.cell? ⟨ga, k * 10 + 1, none⟩ = some (.int .u16 xid) := hrt 1 _ rfl
       have lt2 : wa.cell? ⟨ga, k * 10 + 2, none⟩ = some (.bool false) := hrt 2 _ rfl
       have lt3 : wa.cell? ⟨ga, k * 10 + 3, none⟩ = some (.bool tmf) := hrt 3 _ rfl
       have lt4 : wa.cell? ⟨ga, k * 10 + 4, none⟩ = some (.int .i64 toff) := hrt 4 _ rfl
       have lt5 : wa.cell? ⟨ga, k * 10 + 5, none⟩ = some (.int .u8 xttl) := hrt 5 _ rfl
       have lt6 : wa.cell? ⟨ga, k * 10 + 6, none⟩ = some (.int .u8 xpr) := hrt 6 _ rfl
       have lt7 : wa.cell? ⟨ga, k * 10 + 7, none⟩ = some (.int .u32 xsrc) := hrt 7 _ rfl
       have lt8 : wa.cell? ⟨ga, k * 10 + 8, none⟩ = some (.int .u32 xdst) := hrt 8 _ rfl
       have lt9 : wa.cell? ⟨ga, k * 10 + 9, none⟩ = some (.slice tA tb.length tc) := hrt 9 _ rfl
       have lf0 := HARA.out.op.frozenA (i * 10)
       have lf1 := HARA.out.op.frozenA (i * 10 + 1)
       have lf2 := HARA.out.op.frozenA (i * 10 + 2)
       have lf3 := HARA.out.op.frozenA (i * 10 + 3)
       have lf4 := HARA.out.op.frozenA (i * 10 + 4)
       have lf5 := HARA.out.op.frozenA (i * 10 + 5)
       have lf6 := HARA.out.op.frozenA (i * 10 + 6)
       have lf7 := HARA.out.op.frozenA (i * 10 + 7)
       have lf8 := HARA.out.op.frozenA (i * 10 + 8)
       have lf9 := HARA.out.op.frozenA (i * 10 + 9)
       clear hru hrt
       have hkn2 : (k : Int) < (n1 : Int) := Int.ofNat_lt.2 HKN.out
       go_upto_region 24 with fail
       clear lu0 lu1 lu2 lu3 lu4 lu5 lu6 lu7 lu8 lu9 lt0 lt1 lt2 lt3 lt4 lt5 lt6 lt7 lt8 lt9 lf0 lf1 lf2 lf3 lf4 lf5 lf6 lf7 lf8 lf9
       have hop : OP ((((((((((wa.setCell ⟨ga, i * 10, none⟩ (.int .u8 xtos)).setCell ⟨ga, i * 10 + 1, none⟩ (.int .u16 xid)).setCell ⟨ga, i * 10 + 2, none⟩ (.bool false)).setCell ⟨ga, i * 10 + 3, none⟩ (.bool tmf)).setCell ⟨ga, i * 10 + 4, none⟩ (.int .i64 toff)).setCell ⟨ga, i * 10 + 5, none⟩ (.int .u8 xttl)).setCell ⟨ga, i * 10 + 6, none⟩ (.int .u8 xpr)).setCell ⟨ga, i * 10 + 7, none⟩ (.int .u32 xsrc)).setCell ⟨ga, i * 10 + 8, none⟩ (.int .u32 xdst)).setCell ⟨ga, i * 10 + 9, none⟩ (.slice tA tb.length tc)) B0 (.slice (some ⟨ga, 0, none⟩) n1 c1) (os2.set i (os2[k]'(HKO.out))) := by
        rw [HET.out]
        exact HARA.out.op.put10 HIO.out xtos xid xttl xpr false tmf toff xsrc xdst tb tA tc
       have hx : Ex (fun k => k = ga) wa ((((((((((wa.setCell ⟨ga, i * 10, none⟩ (.int .u8 xtos)).setCell ⟨ga, i * 10 + 1, none⟩ (.int .u16 xid)).setCell ⟨ga, i * 10 + 2, none⟩ (.bool false)).setCell ⟨ga, i * 10 + 3, none⟩ (.bool tmf)).setCell ⟨ga, i * 10 + 4, none⟩ (.int .i64 toff)).setCell ⟨ga, i * 10 + 5, none⟩ (.int .u8 xttl)).setCell ⟨ga, i * 10 + 6, none⟩ (.int .u8 xpr)).setCell ⟨ga, i * 10 + 7, none⟩ (.int .u32 xsrc)).setCell ⟨ga, i * 10 + 8, none⟩ (.int .u32 xdst)).setCell ⟨ga, i * 10 + 9, none⟩ (.slice tA tb.length tc)) := ex10 wa ga i _ _ _ _ _ _ _ _ _ _
       generalize ((((((((((wa.setCell ⟨ga, i * 10, none⟩ (.int .u8 xtos)).setCell ⟨ga, i * 10 + 1, none⟩ (.int .u16 xid)).setCell ⟨ga, i * 10 + 2, none⟩ (.bool false)).setCell ⟨ga, i * 10 + 3, none⟩ (.bool tmf)).setCell ⟨ga, i * 10 + 4, none⟩ (.int .i64 toff)).setCell ⟨ga, i * 10 + 5, none⟩ (.int .u8 xttl)).setCell ⟨ga, i * 10 + 6, none⟩ (.int .u8 xpr)).setCell ⟨ga, i * 10 + 7, none⟩ (.int .u32 xsrc)).setCell ⟨ga, i * 10 + 8, none⟩ (.int .u32 xdst)).setCell ⟨ga, i * 10 + 9, none⟩ (.slice tA tb.length tc)) = wb at hop hx ⊢
       have HOPB := Lib.hid hop
       have HGA0 := Lib.hid (HARA.out.op.lt ga rfl)
       have ne_sx_ga : sx ≠ ga := by
        intro e
        have h1 := (HAR.out.op.lt ga rfl).2
        have h2 := hb_sx
        omega
       clear hop
       have HX_wb := Lib.hid hx
       clear hx
       replace B_sx := Lib.hid ((HX_wb.out.block sx (row_lt B_sx.out) ne_sx_ga).trans B_sx.out)
       have csx0 := row_cell (k := 0) (v := .int .u8 xtos) B_sx.out rfl
       have csx1 := row_cell (k := 1) (v := .int .u16 xid) B_sx.out rfl
       have csx2 := row_cell (k := 2) (v := .bool false) B_sx.out rfl
       have csx3 := row_cell (k := 3) (v := .bool umf) B_sx.out rfl
       have csx4 := row_cell (k := 4) (v := .int .i64 uoff) B_sx.out rfl
       have csx5 := row_cell (k := 5) (v := .int .u8 xttl) B_sx.out rfl
       have csx6 := row_cell (k := 6) (v := .int .u8 xpr) B_sx.out rfl
       have csx7 := row_cell (k := 7) (v := .int .u32 xsrc) B_sx.out rfl
       have csx8 := row_cell (k := 8) (v := .int .u32 xdst) B_sx.out rfl
       have csx9 := row_cell (k := 9) (v := .slice uA ub.length uc) B_sx.out rfl
       have hkl : k < (os2.set i (os2[k]'(HKO.out))).length := by rw [List.length_set]; exact HKO.out
       have hrt := HOPB.out.cells10 hkl ((set_at HKO.out).trans HET.out)
       have lt0 : wb.cell? ⟨ga, k * 10, none⟩ = some (.int .u8 xtos) := hrt 0 _ rfl
       have lt1 : wb.cell? ⟨ga, k * 10 + 1, none⟩ = some (.int .u16 xid) := hrt 1 _ rfl
       have lt2 : wb.cell? ⟨ga, k * 10 + 2, none⟩ = some (.bool false) := hrt 2 _ rfl
       have lt3 : wb.cell? ⟨ga, k * 10 + 3, none⟩ = some (.bool tmf) := hrt 3 _ rfl
       have lt4 : wb.cell? ⟨ga, k * 10 + 4, none⟩ = some (.int .i64 toff) := hrt 4 _ rfl
       have lt5 : wb.cell? ⟨ga, k * 10 + 5, none⟩ = some (.int .u8 xttl) := hrt 5 _ rfl
       have lt6 : wb.cell? ⟨ga, k * 10 + 6, none⟩ = some (.int .u8 xpr) := hrt 6 _ rfl
       have lt7 : wb.cell? ⟨ga, k * 10 + 7, none⟩ = some (.int .u32 xsrc) := hrt 7 _ rfl
       have lt8 : wb.cell? ⟨ga, k * 10 + 8, none⟩ = some (.int .u32 xdst) := hrt 8 _ rfl
       have lt9 : wb.cell? ⟨ga, k * 10 + 9, none⟩ = some (.slice tA tb.length tc) := hrt 9 _ rfl
       have lf0 := HOPB.out.frozenA (k * 10)
       have lf1 := HOPB.out.frozenA (k * 10 + 1)
       have lf2 := HOPB.out.frozenA (k * 10 + 2)
       have lf3 := HOPB.out.frozenA (k * 10 + 3)
       have lf4 := HOPB.out.frozenA (k * 10 + 4)
       have lf5 := HOPB.out.frozenA (k * 10 + 5)
       have lf6 := HOPB.out.frozenA (k * 10 + 6)
       have lf7 := HOPB.out.frozenA (k * 10 + 7)
       have lf8 := HOPB.out.frozenA (k * 10 + 8)
       have lf9 := HOPB.out.frozenA (k * 10 + 9)
       have HKL := Lib.hid hkl
       clear hrt hkl
       go_upto_region 20 with fail
       clear csx0 csx1 csx2 csx3 csx4 csx5 csx6 csx7 csx8 csx9 lt0 lt1 lt2 lt3 lt4 lt5 lt6 lt7 lt8 lt9 lf0 lf1 lf2 lf3 lf4 lf5 lf6 lf7 lf8 lf9
       have hop : OP ((((((((((wb.setCell ⟨ga, k * 10, none⟩ (.int .u8 xtos)).setCell ⟨ga, k * 10 + 1, none⟩ (.int .u16 xid)).setCell ⟨ga, k * 10 + 2, none⟩ (.bool false)).setCell ⟨ga, k * 10 + 3, none⟩ (.bool umf)).setCell ⟨ga, k * 10 + 4, none⟩ (.int .i64 uoff)).setCell ⟨ga, k * 10 + 5, none⟩ (.int .u8 xttl)).setCell ⟨ga, k * 10 + 6, none⟩ (.int .u8 xpr)).setCell ⟨ga, k * 10 + 7, none⟩ (.int .u32 xsrc)).setCell ⟨ga, k * 10 + 8, none⟩ (.int .u32 xdst)).setCell ⟨ga, k * 10 + 9, none⟩ (.slice uA ub.length uc)) B0 (.slice (some ⟨ga, 0, none⟩) n1 c1) ((os2.set i (os2[k]'(HKO.out))).set k (os2[i]'(HIO.out))) := by
        rw [HEU.out]
        exact HOPB.out.put10 HKL.out xtos xid xttl xpr false umf uoff xsrc xdst ub uA uc
       have hx : Ex (fun k => k = ga) wb ((((((((((wb.setCell ⟨ga, k * 10, none⟩ (.int .u8 xtos)).setCell ⟨ga, k * 10 + 1, none⟩ (.int .u16 xid)).setCell ⟨ga, k * 10 + 2, none⟩ (.bool false)).setCell ⟨ga, k * 10 + 3, none⟩ (.bool umf)).setCell ⟨ga, k * 10 + 4, none⟩ (.int .i64 uoff)).setCell ⟨ga, k * 10 + 5, none⟩ (.int .u8 xttl)).setCell ⟨ga, k * 10 + 6, none⟩ (.int .u8 xpr)).setCell ⟨ga, k * 10 + 7, none⟩ (.int .u32 xsrc)).setCell ⟨ga, k * 10 + 8, none⟩ (.int .u32 xdst)).setCell ⟨ga, k * 10 + 9, none⟩ (.slice uA ub.length uc)) := ex10 wb ga k _ _ _ _ _ _ _ _ _ _
       generalize ((((((((((wb.setCell ⟨ga, k * 10, none⟩ (.int .u8 xtos)).setCell ⟨ga, k * 10 + 1, none⟩ (.int .u16 xid)).setCell ⟨ga, k * 10 + 2, none⟩ (.bool false)).setCell ⟨ga, k * 10 + 3, none⟩ (.bool umf)).setCell ⟨ga, k * 10 + 4, none⟩ (.int .i64 uoff)).setCell ⟨ga, k * 10 + 5, none⟩ (.int .u8 xttl)).setCell ⟨ga, k * 10 + 6, none⟩ (.int .u8 xpr)).setCell ⟨ga, k * 10 + 7, none⟩ (.int .u32 xsrc)).setCell ⟨ga, k * 10 + 8, none⟩ (.int .u32 xdst)).setCell ⟨ga, k * 10 + 9, none⟩ (.slice uA ub.length uc)) = wd at hop hx ⊢
       have HARD := Lib.hid (HARA.out.of (HX_wb.out.trans hx) (swap_mem HIO.out HKO.out) hop)
       have HXD : Hid (Ex (fun _ => False) w8 wd) := (HXR.out.trans HX_wa.out).andThen (HX_wb.out.trans hx) (fun j h1 e => by
        have e : j = ga := e
        have h2 := HGA0.out.1
        have h3 := HB0.out
        omega)
       have HOND := Lib.hid (show ((os2.set i (os2[k]'(HKO.out))).set k (os2[i]'(HIO.out))).length = n1 by rw [List.length_set, List.length_set]; exact HON.out)
       have HPSD := Lib.hid (HPS.out.perm (AllR.swap HIO.out HKO.out))
       clear hop hx
       have hwi := wrap_k HIN.out HNN.out.2
       go_wp2_with fail
       go_roundg (n1 - (i + 1))
       case measure => exact msrK hkx HIN.out
       case rel => exact ⟨i + 1, _, by first | (simp; done) | (rw [wrap_k2 HIN.out HNN.out.2]), HIN.out, Nat.le_refl _, HARD, HOND, HPSD, HXD⟩
      ·
       have hlqd : decide ((i : Int) < (ql.length : Int)) = false := decide_eq_false hlq
       clear hin hkx
       go_wp2_with fail
       go_meet
       exact ⟨os2, rfl, HAR, HON, HPS, HXR⟩
     ·
      have hltd : decide ((i : Int) < (n1 : Int)) = false := decide_eq_false hlt
      clear hin hkx
      go_wp2_with fail
      go_meet
      exact ⟨os2, rfl, HAR, HON, HPS, HXR⟩
   case rest =>
    obtain ⟨os2, rfl, HAQ, HOQ, HPQ, HXQ⟩ := hcut
    clear HAR HON HPS HXR HN1 HPC
    go_wp2_with fail
    refine (new_any 9 wc).mono ?_
    rintro e w9 ⟨rb, bm, rfl, hrs, hx⟩
    obtain ⟨B, hBe⟩ : ∃ B, B = wc.heap.size := ⟨_, rfl⟩
    rw [← hBe] at hrs
    have HBE := Lib.hid hBe
    have HLP : Hid ((os2.map Prod.fst).length = n1) := by show (os2.map Prod.fst).length = n1; rw [List.length_map]; exact HOQ.out
    have HBS0 : Hid (BackS w9 B rb bm 9 (⟨xtos, xid, false, false, 0, xttl, xpr, xsrc, xdst, xl⟩ : Pk) (os2.map Prod.fst) 0 0) := BackS.start hrs HPQ.out.pos
    have HU0 : Hid (Up B wc w9) := hx.mono (fun _ _ h => h.elim)
    clear hrs hBe hx
    go_wp2_with fail
    go_loopg [22, 23, 24, 25, 26, 27, 28] n1 (fun kx s22 _ _ _ _ _ _ wr => ∃ (i Mn : Nat), s22 = .int .i64 i ∧ i ≤ n1 ∧ n1 - i ≤ kx ∧ Hid (Mn ≤ 2 * i) ∧ Hid (BackS wr B rb bm 9 (⟨xtos, xid, false, false, 0, xttl, xpr, xsrc, xdst, xl⟩ : Pk) (os2.map Prod.fst) i Mn) ∧ Hid (Up B wc wr))
    case atStart => exact ⟨0, 0, rfl, Nat.zero_le _, Nat.le_refl _, Lib.hid (Nat.le_refl _), HBS0, HU0⟩
    case round =>
     clear HBS0 HU0
     obtain ⟨i, Mn, rfl, hin, hkx, HMN, HBS, HU⟩ := hrel
     by_cases hlt : (i : Int) < (n1 : Int)
     ·
      have HIN := Lib.hid (i_ltk hlt)
      have HIO := Lib.hid (show i < os2.length by rw [HOQ.out]; exact HIN.out)
      have HIP := Lib.hid (show i < (os2.map Prod.fst).length by rw [HLP.out]; exact HIN.out)
      obtain ⟨n0, hn0, hn0e⟩ := n_1 HNN.out
      have HN0 := Lib.hid hn0
      have HN0E := Lib.hid hn0e
      clear hn0 hn0e hin
      have HARR := Lib.hid (HAQ.out.up HU.out (Nat.le_of_eq HBE.out.symm))
      obtain ⟨umf, uoff, ub, uA, uc, heu, hbu, hou, hru⟩ := HARR.out.row HPQ.out HIO.out
      have HXE : Hid ((⟨xtos, xid, false, umf, uoff, xttl, xpr, xsrc, xdst, ub⟩ : Pk) = (os2.map Prod.fst)[i]'(HIP.out)) := by
       show _ = (os2.map Prod.fst)[i]'(HIP.out)
       rw [List.getElem_map, heu]
      have HEU3 : Hid (os2[i]'(HIO.out) = ((⟨xtos, xid, false, umf, uoff, xttl, xpr, xsrc, xdst, ub⟩ : Pk), uA, uc)) := heu
      have HRU := Lib.hid (show RB wr (fun _ => True) (.slice uA ub.length uc) ub from RB.any hou.rb)
      have HAU := Lib.hid hou.anyA
      have hcall := back_take HPQ.out OKX.out rfl rfl HRR.out HXN.out HIP.out (m_190 HMN.out HIN.out HNN.out.2).1 (⟨xtos, xid, false, umf, uoff, xttl, xpr, xsrc, xdst, ub⟩ : Pk) HXE.out uA uc 5 B rb bm 9 wr HBS.out HRU.out HAU.out
      rw [HLP.out] at hcall
      have HC := Lib.hid hcall
      clear hcall hbu hou heu
      have lu0 : wr.cell? ⟨ga, i * 10, none⟩ = some (.int .u8 xtos) := hru 0 _ rfl
      have lu1 : wr.cell? ⟨ga, i * 10 + 1, none⟩ = some (.int .u16 xid) := hru 1 _ rfl
      have lu2 : wr.cell? ⟨ga, i * 10 + 2, none⟩ = some (.bool false) := hru 2 _ rfl
      have lu3 : wr.cell? ⟨ga, i * 10 + 3, none⟩ = some (.bool umf) := hru 3 _ rfl
      have lu4 : wr.cell? ⟨ga, i * 10 + 4, none⟩ = some (.int .i64 uoff) := hru 4 _ rfl
      have lu5 : wr.cell? ⟨ga, i * 10 + 5, none⟩ = some (.int .u8 xttl) := hru 5 _ rfl
      have lu6 : wr.cell? ⟨ga, i * 10 + 6, none⟩ = some (.int .u8 xpr) := hru 6 _ rfl
      have lu7 : wr.cell? ⟨ga, i * 10 + 7, none⟩ = some (.int .u32 xsrc) := hru 7 _ rfl
      have lu8 : wr.cell? ⟨ga, i * 10 + 8, none⟩ = some (.int .u32 xdst) := hru 8 _ rfl
      have lu9 : wr.cell? ⟨ga, i * 10 + 9, none⟩ = some (.slice uA ub.length uc) := hru 9 _ rfl
      clear hru
      go_wp2_with fail
      refine HC.out.mono ?_
      rintro e wt ⟨hbs, hup, ⟨hl2, rfl⟩ | ⟨heq, A9, c9, rfl, hob9⟩⟩
      ·
       have HBT := Lib.hid hbs
       have HUT : Hid (Up B wc wt) := HU.out.trans hup
       have hiN := eq_no HN0E.out hl2
       have HIZ := Lib.hid hiN
       have HIZ3 := Lib.hid (eq_no3 HN0E.out hl2)
       have HIZ2 := Lib.hid (eq_no2 HN0E.out hl2)
       have HL2 := Lib.hid hl2
       clear hl2
       clear hbs hup hiN HC lu0 lu1 lu2 lu3 lu4 lu5 lu6 lu7 lu8 lu9
       go_upto_region 32 with fail
       have hx : Ex (fun _ => False) wt (wt.alloc (.cells #[.int .u8 0, .int .u16 0, .bool false, .bool false, .int .i64 0, .int .u8 0, .int .u8 0, .int .u32 0, .int .u32 0, .slice none 0 0] 27)) := (Ex.refl _ wt).alloc _
       have hb : (wt.alloc (.cells #[.int .u8 0, .int .u16 0, .bool false, .bool false, .int .i64 0, .int .u8 0, .int .u8 0, .int .u32 0, .int .u32 0, .slice none 0 0] 27)).heap[wt.heap.size]? = some (.cells #[.int .u8 0, .int .u16 0, .bool false, .bool false, .int .i64 0, .int .u8 0, .int .u8 0, .int .u32 0, .int .u32 0, .slice none 0 0] 27) := heap_alloc_new wt _
       obtain ⟨xq, hxq⟩ : ∃ xq, xq = wt.heap.size := ⟨_, rfl⟩
       have hb_xq : wt.heap.size ≤ xq := by omega
       rw [← hxq] at hb
       try simp only [← hxq]
       generalize wt.alloc (.cells #[.int .u8 0, .int .u16 0, .bool false, .bool false, .int .i64 0, .int .u8 0, .int .u8 0, .int .u32 0, .int .u32 0, .slice none 0 0] 27) = wu at hx hb ⊢
       clear hxq
       have HX_wu := Lib.hid hx
       clear hx
       have B_xq := Lib.hid hb
       clear hb
       have HUU : Hid (Up B wc wu) := HUT.out.andThen HX_wu.out (fun k _ h => h.elim)
       have hS0 : Ex (fun _ => False) wu wu.drew := (Ex.refl _ wu).drew
       refine wp_region_held_drew (S := fun W => Ex (fun _ => False) wu W) (by kernel_rfl) hS0 (fun _ => ?_)
       refine wpAnyH_take (i := 0) (oi := { dst := some 129, op := .move (.tmp 25), type := 35, pos := "law.go:147", after := #[], guard := none }) (v := ?v1) rfl (by kernel_rfl) (by kernel_rfl) (by kernel_rfl) (fun _ _ _ h => h) (Or.inl ⟨by rfl, ?hy1⟩) (by assumption) ?rest1
       case hy1 => (intro w hSw; (try dsimp only at hSw); go_simp <;> with_reducible rfl)
       try simp only [Act.put, List.setIfInBounds_toArray, List.set_cons_zero, List.set_cons_succ]
       refine wpAnyH_take (i := 1) (oi := { dst := some 130, op := .binOp .neq 35 (.tmp 129) (.const .nilIface) 35, type := 4, pos := "law.go:147", after := #[{ on := 0, ground := .data }], guard := none }) (v := ?v2) rfl (by kernel_rfl) (by kernel_rfl) (by kernel_rfl) (fun _ _ _ h => h) (Or.inl ⟨by rfl, ?hy2⟩) (by assumption) ?rest2
       case hy2 => (intro w hSw; (try dsimp only at hSw); go_simp <;> with_reducible rfl)
       try simp only [Act.put, List.setIfInBounds_toArray, List.set_cons_zero, List.set_cons_succ]
       refine wpAnyH_take (i := 2) (oi := { dst := some 131, op := .move (.tmp 130), type := 4, pos := "law.go:147", after := #[{ on := 1, ground := .data }], guard := none }) (v := ?v3) rfl (by kernel_rfl) (by kernel_rfl) (by kernel_rfl) (fun _ _ _ h => h) (Or.inl ⟨by rfl, ?hy3⟩) (by assumption) ?rest3
       case hy3 => (intro w hSw; (try dsimp only at hSw); go_simp <;> with_reducible rfl)
       try simp only [Act.put, List.setIfInBounds_toArray, List.set_cons_zero, List.set_cons_succ]
       refine wpAnyH_take (i := 3) (oi := { dst := some 132, op := .move (.tmp 24), type := 4, pos := "law.go:147", after := #[{ on := 2, ground := .guard }], guard := some (2, false) }) (v := ?v4) rfl (by kernel_rfl) (by kernel_rfl) (by kernel_rfl) (fun _ _ _ h => h) (Or.inl ⟨by rfl, ?hy4⟩) (by assumption) ?rest4
       case hy4 => (intro w hSw; (try dsimp only at hSw); go_simp <;> with_reducible rfl)
       try simp only [Act.put, List.setIfInBounds_toArray, List.set_cons_zero, List.set_cons_succ]
       refine wpAnyH_take (i := 4) (oi := { dst := some 133, op := .move (.tmp 22), type := 3, pos := "law.go:147", after := #[{ on := 2, ground := .guard }], guard := some (2, false) }) (v := ?v5) rfl (by kernel_rfl) (by kernel_rfl) (by kernel_rfl) (fun _ _ _ h => h) (Or.inl ⟨by rfl, ?hy5⟩) (by assumption) ?rest5
       case hy5 => (intro w hSw; (try dsimp only at hSw); go_simp <;> with_reducible rfl)
       try simp only [Act.put, List.setIfInBounds_toArray, List.set_cons_zero, List.set_cons_succ]
       refine wpAnyH_take (i := 5) (oi := { dst := some 134, op := .move (.tmp 14), type := 33, pos := "law.go:147", after := #[{ on := 2, ground := .guard }], guard := some (2, false) }) (v := ?v6) rfl (by kernel_rfl) (by kernel_rfl) (by kernel_rfl) (fun _ _ _ h => h) (Or.inl ⟨by rfl, ?hy6⟩) (by assumption) ?rest6
       case hy6 => (intro w hSw; (try dsimp only at hSw); go_simp <;> with_reducible rfl)
       try simp only [Act.put, List.setIfInBounds_toArray, List.set_cons_zero, List.set_cons_succ]
       refine wpAnyH_take (i := 6) (oi := { dst := some 135, op := .call { callee := .builtin .len, args := #[.tmp 134], argTypes := #[33] }, type := 3, pos := "law.go:147", after := #[{ on := 5, ground := .data }, { on := 2, ground := .guard }], guard := some (2, false) }) (v := ?v7) rfl (by kernel_rfl) (by kernel_rfl) (by kernel_rfl) (fun _ _ _ h => h) (Or.inl ⟨by rfl, ?hy7⟩) (by assumption) ?rest7
       case hy7 => (intro w hSw; (try dsimp only at hSw); go_simp <;> with_reducible rfl)
       try simp only [Act.put, List.setIfInBounds_toArray, List.set_cons_zero, List.set_cons_succ]
       refine wpAnyH_take (i := 7) (oi := { dst := some 136, op := .binOp .sub 3 (.tmp 135) (.const (.int .i64 1)) 3, type := 3, pos := "law.go:147", after := #[{ on := 6, ground := .data }, { on := 2, ground := .guard }], guard := some (2, false) }) (v := ?v8) rfl (by kernel_rfl) (by kernel_rfl) (by kernel_rfl) (fun _ _ _ h => h) (Or.inl ⟨by rfl, ?hy8⟩) (by assumption) ?rest8
       case hy8 => (intro w hSw; (try dsimp only at hSw); have hn0 := HN0.out; go_simp <;> with_reducible rfl)
       try simp only [Act.put, List.setIfInBounds_toArray, List.set_cons_zero, List.set_cons_succ]
       refine wpAnyH_take (i := 8) (oi := { dst := some 137, op := .binOp .eql 3 (.tmp 133) (.tmp 136) 3, type := 4, pos := "law.go:147", after := #[{ on := 4, ground := .data }, { on := 7, ground := .data }, { on := 2, ground := .guard }], guard := some (2, false) }) (v := ?v9) rfl (by kernel_rfl) (by kernel_rfl) (by kernel_rfl) (fun _ _ _ h => h) (Or.inl ⟨by rfl, ?hy9⟩) (by assumption) ?rest9
       case hy9 => (intro w hSw; (try dsimp only at hSw); have hiz := HIZ.out; have hiz2 := HIZ2.out; have hiz3 := HIZ3.out; go_simp <;> with_reducible rfl)
       try simp only [Act.put, List.setIfInBounds_toArray, List.set_cons_zero, List.set_cons_succ]
       refine wpAnyH_take (i := 9) (oi := { dst := some 138, op := .binOp .neq 4 (.tmp 132) (.tmp 137) 4, type := 4, pos := "law.go:147", after := #[{ on := 3, ground := .data }, { on := 8, ground := .data }, { on := 2, ground := .guard }], guard := some (2, false) }) (v := ?v10) rfl (by kernel_rfl) (by kernel_rfl) (by kernel_rfl) (fun _ _ _ h => h) (Or.inl ⟨by rfl, ?hy10⟩) (by assumption) ?rest10
       case hy10 => (intro w hSw; (try dsimp only at hSw); go_simp <;> with_reducible rfl)
       try simp only [Act.put, List.setIfInBounds_toArray, List.set_cons_zero, List.set_cons_succ]
       refine wpAnyH_take (i := 10) (oi := { dst := some 139, op := .pick (.tmp 131) (.const (.bool true)) (.tmp 138), type := 4, pos := "law.go:147", after := #[{ on := 2, ground := .data }, { on := 9, ground := .data }], guard := none }) (v := ?v11) rfl (by kernel_rfl) (by kernel_rfl) (by kernel_rfl) (fun _ _ _ h => h) (Or.inl ⟨by rfl, ?hy11⟩) (by assumption) ?rest11
       case hy11 => (intro w hSw; (try dsimp only at hSw); go_simp <;> with_reducible rfl)
       try simp only [Act.put, List.setIfInBounds_toArray, List.set_cons_zero, List.set_cons_succ]
       refine wpAnyH_take (i := 11) (oi := { dst := some 140, op := .move (.tmp 139), type := 4, pos := "law.go:147", after := #[{ on := 10, ground := .data }, { on := 2, ground := .chain }], guard := none }) (v := ?v12) rfl (by kernel_rfl) (by kernel_rfl) (by kernel_rfl) (fun _ _ _ h => h) (Or.inl ⟨by rfl, ?hy12⟩) (by assumption) ?rest12
       case hy12 => (intro w hSw; (try dsimp only at hSw); go_simp <;> with_reducible rfl)
       try simp only [Act.put, List.setIfInBounds_toArray, List.set_cons_zero, List.set_cons_succ]
       refine wpAnyH_take (i := 12) (oi := { dst := some 141, op := .move (.tmp 24), type := 4, pos := "law.go:147", after := #[{ on := 11, ground := .guard }], guard := some (11, false) }) (v := ?v13) rfl (by kernel_rfl) (by kernel_rfl) (by kernel_rfl) (fun _ _ _ h => h) (Or.inl ⟨by rfl, ?hy13⟩) (by assumption) ?rest13
       case hy13 => (intro w hSw; (try dsimp only at hSw); go_simp <;> with_reducible rfl)
       try simp only [Act.put, List.setIfInBounds_toArray, List.set_cons_zero, List.set_cons_succ]
       refine wpAnyH_take (i := 13) (oi := { dst := some 142, op := .move (.tmp 141), type := 4, pos := "law.go:147", after := #[{ on := 12, ground := .data }, { on := 11, ground := .chain }, { on := 11, ground := .guard }], guard := some (11, false) }) (v := ?v14) rfl (by kernel_rfl) (by kernel_rfl) (by kernel_rfl) (fun _ _ _ h => h) (Or.inl ⟨by rfl, ?hy14⟩) (by assumption) ?rest14
       case hy14 => (intro w hSw; (try dsimp only at hSw); go_simp <;> with_reducible rfl)
       try simp only [Act.put, List.setIfInBounds_toArray, List.set_cons_zero, List.set_cons_succ]
       refine wpAnyH_take (i := 14) (oi := { dst := some 143, op := .load 27 (.tmp 23), type := 27, pos := "law.go:147", after := #[{ on := 13, ground := .guard }], guard := some (13, true) }) (v := undef) rfl (by kernel_rfl) (by kernel_rfl) (by kernel_rfl) (fun _ _ _ h => h) (Or.inr ⟨by rfl, rfl⟩) (by assumption) ?rest15
       try simp only [Act.put, List.setIfInBounds_toArray, List.set_cons_zero, List.set_cons_succ]
       refine wpAnyH_take (i := 15) (oi := { dst := some 144, op := .call { callee := .value (.func 14), args := #[.tmp 143], argTypes := #[27] }, type := 31, pos := "law.go:147", after := #[{ on := 14, ground := .data }, { on := 13, ground := .chain }, { on := 13, ground := .guard }], guard := some (13, true) }) (v := undef) rfl (by kernel_rfl) (by kernel_rfl) (by kernel_rfl) (fun _ _ _ h => h) (Or.inr ⟨by rfl, rfl⟩) (by assumption) ?rest16
       try simp only [Act.put, List.setIfInBounds_toArray, List.set_cons_zero, List.set_cons_succ]
       refine wpAnyH_take (i := 16) (oi := { dst := some 145, op := .load 27 (.tmp 5), type := 27, pos := "law.go:147", after := #[{ on := 13, ground := .guard }], guard := some (13, true) }) (v := undef) rfl (by kernel_rfl) (by kernel_rfl) (by kernel_rfl) (fun _ _ _ h => h) (Or.inr ⟨by rfl, rfl⟩) (by assumption) ?rest17
       try simp only [Act.put, List.setIfInBounds_toArray, List.set_cons_zero, List.set_cons_succ]
       refine wpAnyH_take (i := 17) (oi := { dst := some 146, op := .call { callee := .value (.func 14), args := #[.tmp 145], argTypes := #[27] }, type := 31, pos := "law.go:147", after := #[{ on := 16, ground := .data }, { on := 15, ground := .chain }, { on := 13, ground := .guard }], guard := some (13, true) }) (v := undef) rfl (by kernel_rfl) (by kernel_rfl) (by kernel_rfl) (fun _ _ _ h => h) (Or.inr ⟨by rfl, rfl⟩) (by assumption) ?rest18
       try simp only [Act.put, List.setIfInBounds_toArray, List.set_cons_zero, List.set_cons_succ]
       refine wpAnyH_take (i := 18) (oi := { dst := some 147, op := .binOp .neq 31 (.tmp 144) (.tmp 146) 31, type := 4, pos := "law.go:147", after := #[{ on := 15, ground := .data }, { on := 17, ground := .data }, { on := 13, ground := .guard }], guard := some (13, true) }) (v := undef) rfl (by kernel_rfl) (by kernel_rfl) (by kernel_rfl) (fun _ _ _ h => h) (Or.inr ⟨by rfl, rfl⟩) (by assumption) ?rest19
       try simp only [Act.put, List.setIfInBounds_toArray, List.set_cons_zero, List.set_cons_succ]
       refine wpAnyH_take (i := 19) (oi := { dst := some 148, op := .pick (.tmp 142) (.tmp 147) (.const (.bool false)), type := 4, pos := "law.go:147", after := #[{ on := 13, ground := .data }, { on := 18, ground := .data }, { on := 11, ground := .guard }], guard := some (11, false) }) (v := ?v20) rfl (by kernel_rfl) (by kernel_rfl) (by kernel_rfl) (fun _ _ _ h => h) (Or.inl ⟨by rfl, ?hy20⟩) (by assumption) ?rest20
       case hy20 => (intro w hSw; (try dsimp only at hSw); go_simp <;> with_reducible rfl)
       try simp only [Act.put, List.setIfInBounds_toArray, List.set_cons_zero, List.set_cons_succ]
       refine wpAnyH_take (i := 20) (oi := { dst := some 149, op := .pick (.tmp 140) (.const (.bool true)) (.tmp 148), type := 4, pos := "law.go:147", after := #[{ on := 11, ground := .data }, { on := 19, ground := .data }], guard := none }) (v := ?v21) rfl (by kernel_rfl) (by kernel_rfl) (by kernel_rfl) (fun _ _ _ h => h) (Or.inl ⟨by rfl, ?hy21⟩) (by assumption) ?rest21
       case hy21 => (intro w hSw; (try dsimp only at hSw); go_simp <;> with_reducible rfl)
       try simp only [Act.put, List.setIfInBounds_toArray, List.set_cons_zero, List.set_cons_succ]
       refine wpAnyH_done (by kernel_rfl) ?_ _
       have HXE2 : Hid (Ex (fun _ => False) wu wu.drew) := hS0
       clear hS0
       have HBV := Lib.hid ((HBT.out.keep HX_wu.out).keep HXE2.out)
       have HUV : Hid (Up B wc wu.drew) := HUU.out.andThen HXE2.out (fun k _ h => h.elim)
       generalize wu.drew = wv at HXE2 HBV HUV ⊢
       have HWV := Lib.hid (HX08.out.trans (HXQ.out.andThen HUV.out (fun k h1 e => by have h2 := HBE.out; have h3 := HXQ.out.size; omega)))
       have hwi := wrap_k HIN.out HNN.out.2
       by_cases hlg : (i : Int) < (gl.length : Int)
       ·
        obtain ⟨bt, off, rfl, hcg⟩ := turn_row (HGA.out.keep HWV.out) (i_ltk hlg)
        generalize gl[i]'(i_ltk hlg) = gb at hcg
        cases gb with
        | true =>
         have HARV := Lib.hid (HAQ.out.up HUV.out (Nat.le_of_eq HBE.out.symm))
         have hrv := HARV.out.op.cells10 HIO.out HEU3.out
         have hbv := HARV.out.byt _ (List.getElem_mem HIO.out)
         rw [HEU3.out] at hbv
         have HRV := Lib.hid (show RB wv (fun _ => True) (.slice uA ub.length uc) ub from RB.any hbv.rb)
         clear hbv
         have hcall := back_again HPQ.out rfl rfl HXN.out (i := i) (by rw [HLP.out]; exact HL2.out) (m_190 HMN.out HIN.out HNN.out.2).2 (⟨xtos, xid, false, umf, uoff, xttl, xpr, xsrc, xdst, ub⟩ : Pk) HXE.out uA uc 6 B rb bm 9 wv HBV.out HRV.out HAU.out
         have HC := Lib.hid hcall
         clear hcall
         have lv0 : wv.cell? ⟨ga, i * 10, none⟩ = some (.int .u8 xtos) := hrv 0 _ rfl
         have lv1 : wv.cell? ⟨ga, i * 10 + 1, none⟩ = some (.int .u16 xid) := hrv 1 _ rfl
         have lv2 : wv.cell? ⟨ga, i * 10 + 2, none⟩ = some (.bool false) := hrv 2 _ rfl
         have lv3 : wv.cell? ⟨ga, i * 10 + 3, none⟩ = some (.bool umf) := hrv 3 _ rfl
         have lv4 : wv.cell? ⟨ga, i * 10 + 4, none⟩ = some (.int .i64 uoff) := hrv 4 _ rfl
         have lv5 : wv.cell? ⟨ga, i * 10 + 5, none⟩ = some (.int .u8 xttl) := hrv 5 _ rfl
         have lv6 : wv.cell? ⟨ga, i * 10 + 6, none⟩ = some (.int .u8 xpr) := hrv 6 _ rfl
         have lv7 : wv.cell? ⟨ga, i * 10 + 7, none⟩ = some (.int .u32 xsrc) := hrv 7 _ rfl
         have lv8 : wv.cell? ⟨ga, i * 10 + 8, none⟩ = some (.int .u32 xdst) := hrv 8 _ rfl
         have lv9 : wv.cell? ⟨ga, i * 10 + 9, none⟩ = some (.slice uA ub.length uc) := hrv 9 _ rfl
         clear hrv
         go_wp2_with fail
         refine HC.out.mono ?_
         rintro e wx ⟨hbs, hup, rfl⟩
         have HBX := Lib.hid hbs
         have HUX : Hid (Up B wc wx) := HUV.out.trans hup
         clear hbs hup HC hcg lv0 lv1 lv2 lv3 lv4 lv5 lv6 lv7 lv8 lv9
         go_wp2_with fail
         go_roundg (n1 - (i + 1))
         case measure => exact msrK hkx HIN.out
         case rel => exact ⟨i + 1, Mn + 1 + 1, by first | (simp; done) | (rw [wrap_k2 HIN.out HNN.out.2]), HIN.out, Nat.le_refl _, Lib.hid (m_1 HMN.out).2, Lib.hid (HBX.out.keep ((Ex.refl _ _).alloc _)), Lib.hid (HUX.out.andThen ((Ex.refl (fun _ => False) _).alloc _) (fun k _ h => h.elim))⟩
        | false =>
         go_wp2_with fail
         go_roundg (n1 - (i + 1))
         case measure => exact msrK hkx HIN.out
         case rel => exact ⟨i + 1, Mn + 1, by first | (simp; done) | (rw [wrap_k2 HIN.out HNN.out.2]), HIN.out, Nat.le_refl _, Lib.hid (m_1 HMN.out).1, HBV, HUV⟩
       ·
        have hlgd : decide ((i : Int) < (gl.length : Int)) = false := decide_eq_false hlg
        go_wp2_with fail
        go_roundg (n1 - (i + 1))
        case measure => exact msrK hkx HIN.out
        case rel => exact ⟨i + 1, Mn + 1, by first | (simp; done) | (rw [wrap_k2 HIN.out HNN.out.2]), HIN.out, Nat.le_refl _, Lib.hid (m_1 HMN.out).1, HBV, HUV⟩
      ·
       have HBT := Lib.hid hbs
       have HUT : Hid (Up B wc wt) := HU.out.trans hup
       have hiN := eq_yes HN0E.out heq
       have HIZ := Lib.hid hiN
       have HIZ3 := Lib.hid (eq_yes3 HN0E.out heq)
       have HIZ2 := Lib.hid (eq_yes2 HN0E.out heq)
       have HO9 := Lib.hid (show OB wt wr.heap.size (.slice A9 xl.length c9) xl from hob9)
       have HEQ := Lib.hid heq
       have hv : pkv (⟨xtos, xid, false, false, 0, xttl, xpr, xsrc, xdst, xl⟩ : Pk) (.slice A9 (⟨xtos, xid, false, false, 0, xttl, xpr, xsrc, xdst, xl⟩ : Pk).b.length c9) = .agg #[.int .u8 xtos, .int .u16 xid, .bool false, .bool false, .int .i64 0, .int .u8 xttl, .int .u8 xpr, .int .u32 xsrc, .int .u32 xdst, .slice A9 xl.length c9] := rfl
       rw [hv]
       clear hv hob9 heq
       clear hbs hup hiN HC lu0 lu1 lu2 lu3 lu4 lu5 lu6 lu7 lu8 lu9
       go_upto_region 32 with fail
       have hx : Ex (fun _ => False) wt (wt.alloc (.cells #[.int .u8 xtos, .int .u16 xid, .bool false, .bool false, .int .i64 0, .int .u8 xttl, .int .u8 xpr, .int .u32 xsrc, .int .u32 xdst, .slice A9 xl.length c9] 27)) := (Ex.refl _ wt).alloc _
       have hb : (wt.alloc (.cells #[.int .u8 xtos, .int .u16 xid, .bool false, .bool false, .int .i64 0, .int .u8 xttl, .int .u8 xpr, .int .u32 xsrc, .int .u32 xdst, .slice A9 xl.length c9] 27)).heap[wt.heap.size]? = some (.cells #[.int .u8 xtos, .int .u16 xid, .bool false, .bool false, .int .i64 0, .int .u8 xttl, .int .u8 xpr, .int .u32 xsrc, .int .u32 xdst, .slice A9 xl.length c9] 27) := heap_alloc_new wt _
       obtain ⟨xq, hxq⟩ : ∃ xq, xq = wt.heap.size := ⟨_, rfl⟩
       have hb_xq : wt.heap.size ≤ xq := by omega
       rw [← hxq] at hb
       try simp only [← hxq]
       generalize wt.alloc (.cells #[.int .u8 xtos, .int .u16 xid, .bool false, .bool false, .int .i64 0, .int .u8 xttl, .int .u8 xpr, .int .u32 xsrc, .int .u32 xdst, .slice A9 xl.length c9] 27) = wu at hx hb ⊢
       clear hxq
       have HX_wu := Lib.hid hx
       clear hx
       have B_xq := Lib.hid hb
       clear hb
       have HUU : Hid (Up B wc wu) := HUT.out.andThen HX_wu.out (fun k _ h => h.elim)
       have HWU := Lib.hid (HXQ.out.andThen HUU.out (fun k h1 e => by have h2 := HBE.out; have h3 := HXQ.out.size; omega))
       have HBPU := Lib.hid ((HWU.out.block bp (row_lt B_bp.out) id).trans B_bp.out)
       have HOXU := Lib.hid (HO_x.out.keep HWU.out (fun _ _ _ _ => id))
       have HO9U := Lib.hid (HO9.out.keep HX_wu.out (fun _ _ _ _ => id))
       have hS0 : Ex (fun _ => False) wu wu.drew := (Ex.refl _ wu).drew
       have cxq0 := row_cell (k := 0) (v := .int .u8 xtos) B_xq.out rfl
       have cxq1 := row_cell (k := 1) (v := .int .u16 xid) B_xq.out rfl
       have cxq2 := row_cell (k := 2) (v := .bool false) B_xq.out rfl
       have cxq3 := row_cell (k := 3) (v := .bool false) B_xq.out rfl
       have cxq4 := row_cell (k := 4) (v := .int .i64 0) B_xq.out rfl
       have cxq5 := row_cell (k := 5) (v := .int .u8 xttl) B_xq.out rfl
       have cxq6 := row_cell (k := 6) (v := .int .u8 xpr) B_xq.out rfl
       have cxq7 := row_cell (k := 7) (v := .int .u32 xsrc) B_xq.out rfl
       have cxq8 := row_cell (k := 8) (v := .int .u32 xdst) B_xq.out rfl
       have cxq9 := row_cell (k := 9) (v := .slice A9 xl.length c9) B_xq.out rfl
       have cb0 := row_cell (k := 0) (v := .int .u8 xtos) HBPU.out rfl
       have cb1 := row_cell (k := 1) (v := .int .u16 xid) HBPU.out rfl
       have cb2 := row_cell (k := 2) (v := .bool false) HBPU.out rfl
       have cb3 := row_cell (k := 3) (v := .bool false) HBPU.out rfl
       have cb4 := row_cell (k := 4) (v := .int .i64 0) HBPU.out rfl
       have cb5 := row_cell (k := 5) (v := .int .u8 xttl) HBPU.out rfl
       have cb6 := row_cell (k := 6) (v := .int .u8 xpr) HBPU.out rfl
       have cb7 := row_cell (k := 7) (v := .int .u32 xsrc) HBPU.out rfl
       have cb8 := row_cell (k := 8) (v := .int .u32 xdst) HBPU.out rfl
       have cb9 := row_cell (k := 9) (v := .slice (some xA) xl.length xc) HBPU.out rfl
       have z1 : ∀ w, (binOp .neq 31 (rpv (⟨xtos, xid, false, false, 0, xttl, xpr, xsrc, xdst, xl⟩ : Pk)) (rpv (⟨xtos, xid, false, false, 0, xttl, xpr, xsrc, xdst, xl⟩ : Pk))).run Tryd.prog w = .ok (.bool false) w := fun w => by have h := rpv_neq (⟨xtos, xid, false, false, 0, xttl, xpr, xsrc, xdst, xl⟩ : Pk) (⟨xtos, xid, false, false, 0, xttl, xpr, xsrc, xdst, xl⟩ : Pk) w; rw [Pk.eqB_self] at h; exact h
       have z2 : ∀ w, (eqGuard .neq 31 (.tmp 144) (.tmp 146) (rpv (⟨xtos, xid, false, false, 0, xttl, xpr, xsrc, xdst, xl⟩ : Pk)) (rpv (⟨xtos, xid, false, false, 0, xttl, xpr, xsrc, xdst, xl⟩ : Pk))).run Tryd.prog w = .ok () w := fun w => rpv_guard .neq (.tmp 144) (.tmp 146) (⟨xtos, xid, false, false, 0, xttl, xpr, xsrc, xdst, xl⟩ : Pk) (⟨xtos, xid, false, false, 0, xttl, xpr, xsrc, xdst, xl⟩ : Pk) w
       have Z1 := Lib.hid z1
       have Z2 := Lib.hid z2
       clear z1 z2
       refine wp_region_held_drew (S := fun W => Ex (fun _ => False) wu W) (by kernel_rfl) hS0 (fun _ => ?_)
       refine wpAnyH_take (i := 0) (oi := { dst := some 129, op := .move (.tmp 25), type := 35, pos := "law.go:147", after := #[], guard := none }) (v := ?v22) rfl (by kernel_rfl) (by kernel_rfl) (by kernel_rfl) (fun _ _ _ h => h) (Or.inl ⟨by rfl, ?hy22⟩) (by assumption) ?rest22
       case hy22 => (intro w hSw; (try dsimp only at hSw); go_simp <;> with_reducible rfl)
       try simp only [Act.put, List.setIfInBounds_toArray, List.set_cons_zero, List.set_cons_succ]
       refine wpAnyH_take (i := 1) (oi := { dst := some 130, op := .binOp .neq 35 (.tmp 129) (.const .nilIface) 35, type := 4, pos := "law.go:147", after := #[{ on := 0, ground := .data }], guard := none }) (v := ?v23) rfl (by kernel_rfl) (by kernel_rfl) (by kernel_rfl) (fun _ _ _ h => h) (Or.inl ⟨by rfl, ?hy23⟩) (by assumption) ?rest23
       case hy23 => (intro w hSw; (try dsimp only at hSw); go_simp <;> with_reducible rfl)
       try simp only [Act.put, List.setIfInBounds_toArray, List.set_cons_zero, List.set_cons_succ]
       refine wpAnyH_take (i := 2) (oi := { dst := some 131, op := .move (.tmp 130), type := 4, pos := "law.go:147", after := #[{ on := 1, ground := .data }], guard := none }) (v := ?v24) rfl (by kernel_rfl) (by kernel_rfl) (by kernel_rfl) (fun _ _ _ h => h) (Or.inl ⟨by rfl, ?hy24⟩) (by assumption) ?rest24
       case hy24 => (intro w hSw; (try dsimp only at hSw); go_simp <;> with_reducible rfl)
       try simp only [Act.put, List.setIfInBounds_toArray, List.set_cons_zero, List.set_cons_succ]
       refine wpAnyH_take (i := 3) (oi := { dst := some 132, op := .move (.tmp 24), type := 4, pos := "law.go:147", after := #[{ on := 2, ground := .guard }], guard := some (2, false) }) (v := ?v25) rfl (by kernel_rfl) (by kernel_rfl) (by kernel_rfl) (fun _ _ _ h => h) (Or.inl ⟨by rfl, ?hy25⟩) (by assumption) ?rest25
       case hy25 => (intro w hSw; (try dsimp only at hSw); go_simp <;> with_reducible rfl)
       try simp only [Act.put, List.setIfInBounds_toArray, List.set_cons_zero, List.set_cons_succ]
       refine wpAnyH_take (i := 4) (oi := { dst := some 133, op := .move (.tmp 22), type := 3, pos := "law.go:147", after := #[{ on := 2, ground := .guard }], guard := some (2, false) }) (v := ?v26) rfl (by kernel_rfl) (by kernel_rfl) (by kernel_rfl) (fun _ _ _ h => h) (Or.inl ⟨by rfl, ?hy26⟩) (by assumption) ?rest26
       case hy26 => (intro w hSw; (try dsimp only at hSw); go_simp <;> with_reducible rfl)
       try simp only [Act.put, List.setIfInBounds_toArray, List.set_cons_zero, List.set_cons_succ]
       refine wpAnyH_take (i := 5) (oi := { dst := some 134, op := .move (.tmp 14), type := 33, pos := "law.go:147", after := #[{ on := 2, ground := .guard }], guard := some (2, false) }) (v := ?v27) rfl (by kernel_rfl) (by kernel_rfl) (by kernel_rfl) (fun _ _ _ h => h) (Or.inl ⟨by rfl, ?hy27⟩) (by assumption) ?rest27
       case hy27 => (intro w hSw; (try dsimp only at hSw); go_simp <;> with_reducible rfl)
       try simp only [Act.put, List.setIfInBounds_toArray, List.set_cons_zero, List.set_cons_succ]
       refine wpAnyH_take (i := 6) (oi := { dst := some 135, op := .call { callee := .builtin .len, args := #[.tmp 134], argTypes := #[33] }, type := 3, pos := "law.go:147", after := #[{ on := 5, ground := .data }, { on := 2, ground := .guard }], guard := some (2, false) }) (v := ?v28) rfl (by kernel_rfl) (by kernel_rfl) (by kernel_rfl) (fun _ _ _ h => h) (Or.inl ⟨by rfl, ?hy28⟩) (by assumption) ?rest28
       case hy28 => (intro w hSw; (try dsimp only at hSw); go_simp <;> with_reducible rfl)
       try simp only [Act.put, List.setIfInBounds_toArray, List.set_cons_zero, List.set_cons_succ]
       refine wpAnyH_take (i := 7) (oi := { dst := some 136, op := .binOp .sub 3 (.tmp 135) (.const (.int .i64 1)) 3, type := 3, pos := "law.go:147", after := #[{ on := 6, ground := .data }, { on := 2, ground := .guard }], guard := some (2, false) }) (v := ?v29) rfl (by kernel_rfl) (by kernel_rfl) (by kernel_rfl) (fun _ _ _ h => h) (Or.inl ⟨by rfl, ?hy29⟩) (by assumption) ?rest29
       case hy29 => (intro w hSw; (try dsimp only at hSw); have hn0 := HN0.out; go_simp <;> with_reducible rfl)
       try simp only [Act.put, List.setIfInBounds_toArray, List.set_cons_zero, List.set_cons_succ]
       refine wpAnyH_take (i := 8) (oi := { dst := some 137, op := .binOp .eql 3 (.tmp 133) (.tmp 136) 3, type := 4, pos := "law.go:147", after := #[{ on := 4, ground := .data }, { on := 7, ground := .data }, { on := 2, ground := .guard }], guard := some (2, false) }) (v := ?v30) rfl (by kernel_rfl) (by kernel_rfl) (by kernel_rfl) (fun _ _ _ h => h) (Or.inl ⟨by rfl, ?hy30⟩) (by assumption) ?rest30
       case hy30 => (intro w hSw; (try dsimp only at hSw); have hiz := HIZ.out; have hiz2 := HIZ2.out; have hiz3 := HIZ3.out; go_simp <;> with_reducible rfl)
       try simp only [Act.put, List.setIfInBounds_toArray, List.set_cons_zero, List.set_cons_succ]
       refine wpAnyH_take (i := 9) (oi := { dst := some 138, op := .binOp .neq 4 (.tmp 132) (.tmp 137) 4, type := 4, pos := "law.go:147", after := #[{ on := 3, ground := .data }, { on := 8, ground := .data }, { on := 2, ground := .guard }], guard := some (2, false) }) (v := ?v31) rfl (by kernel_rfl) (by kernel_rfl) (by kernel_rfl) (fun _ _ _ h => h) (Or.inl ⟨by rfl, ?hy31⟩) (by assumption) ?rest31
       case hy31 => (intro w hSw; (try dsimp only at hSw); go_simp <;> with_reducible rfl)
       try simp only [Act.put, List.setIfInBounds_toArray, List.set_cons_zero, List.set_cons_succ]
       refine wpAnyH_take (i := 10) (oi := { dst := some 139, op := .pick (.tmp 131) (.const (.bool true)) (.tmp 138), type := 4, pos := "law.go:147", after := #[{ on := 2, ground := .data }, { on := 9, ground := .data }], guard := none }) (v := ?v32) rfl (by kernel_rfl) (by kernel_rfl) (by kernel_rfl) (fun _ _ _ h => h) (Or.inl ⟨by rfl, ?hy32⟩) (by assumption) ?rest32
       case hy32 => (intro w hSw; (try dsimp only at hSw); go_simp <;> with_reducible rfl)
       try simp only [Act.put, List.setIfInBounds_toArray, List.set_cons_zero, List.set_cons_succ]
       refine wpAnyH_take (i := 11) (oi := { dst := some 140, op := .move (.tmp 139), type := 4, pos := "law.go:147", after := #[{ on := 10, ground := .data }, { on := 2, ground := .chain }], guard := none }) (v := ?v33) rfl (by kernel_rfl) (by kernel_rfl) (by kernel_rfl) (fun _ _ _ h => h) (Or.inl ⟨by rfl, ?hy33⟩) (by assumption) ?rest33
       case hy33 => (intro w hSw; (try dsimp only at hSw); go_simp <;> with_reducible rfl)
       try simp only [Act.put, List.setIfInBounds_toArray, List.set_cons_zero, List.set_cons_succ]
       refine wpAnyH_take (i := 12) (oi := { dst := some 141, op := .move (.tmp 24), type := 4, pos := "law.go:147", after := #[{ on := 11, ground := .guard }], guard := some (11, false) }) (v := ?v34) rfl (by kernel_rfl) (by kernel_rfl) (by kernel_rfl) (fun _ _ _ h => h) (Or.inl ⟨by rfl, ?hy34⟩) (by assumption) ?rest34
       case hy34 => (intro w hSw; (try dsimp only at hSw); go_simp <;> with_reducible rfl)
       try simp only [Act.put, List.setIfInBounds_toArray, List.set_cons_zero, List.set_cons_succ]
       refine wpAnyH_take (i := 13) (oi := { dst := some 142, op := .move (.tmp 141), type := 4, pos := "law.go:147", after := #[{ on := 12, ground := .data }, { on := 11, ground := .chain }, { on := 11, ground := .guard }], guard := some (11, false) }) (v := ?v35) rfl (by kernel_rfl) (by kernel_rfl) (by kernel_rfl) (fun _ _ _ h => h) (Or.inl ⟨by rfl, ?hy35⟩) (by assumption) ?rest35
       case hy35 => (intro w hSw; (try dsimp only at hSw); go_simp <;> with_reducible rfl)
       try simp only [Act.put, List.setIfInBounds_toArray, List.set_cons_zero, List.set_cons_succ]
       refine wpAnyH_take (i := 14) (oi := { dst := some 143, op := .load 27 (.tmp 23), type := 27, pos := "law.go:147", after := #[{ on := 13, ground := .guard }], guard := some (13, true) }) (v := ?v36) rfl (by kernel_rfl) (by kernel_rfl) (by kernel_rfl) (fun _ _ _ h => h) (Or.inl ⟨by rfl, ?hy36⟩) (by assumption) ?rest36
       case hy36 => (intro w hSw; (try dsimp only at hSw); have ecxq0 := hSw.cell cxq0 id; have ecxq1 := hSw.cell cxq1 id; have ecxq2 := hSw.cell cxq2 id; have ecxq3 := hSw.cell cxq3 id; have ecxq4 := hSw.cell cxq4 id; have ecxq5 := hSw.cell cxq5 id; have ecxq6 := hSw.cell cxq6 id; have ecxq7 := hSw.cell cxq7 id; have ecxq8 := hSw.cell cxq8 id; have ecxq9 := hSw.cell cxq9 id; go_simp <;> with_reducible rfl)
       try simp only [Act.put, List.setIfInBounds_toArray, List.set_cons_zero, List.set_cons_succ]
       refine wpAnyH_take (i := 16) (oi := { dst := some 145, op := .load 27 (.tmp 5), type := 27, pos := "law.go:147", after := #[{ on := 13, ground := .guard }], guard := some (13, true) }) (v := ?v37) rfl (by kernel_rfl) (by kernel_rfl) (by kernel_rfl) (fun _ _ _ h => h) (Or.inl ⟨by rfl, ?hy37⟩) (by assumption) ?rest37
       case hy37 => (intro w hSw; (try dsimp only at hSw); have ecb0 := hSw.cell cb0 id; have ecb1 := hSw.cell cb1 id; have ecb2 := hSw.cell cb2 id; have ecb3 := hSw.cell cb3 id; have ecb4 := hSw.cell cb4 id; have ecb5 := hSw.cell cb5 id; have ecb6 := hSw.cell cb6 id; have ecb7 := hSw.cell cb7 id; have ecb8 := hSw.cell cb8 id; have ecb9 := hSw.cell cb9 id; go_simp <;> with_reducible rfl)
       try simp only [Act.put, List.setIfInBounds_toArray, List.set_cons_zero, List.set_cons_succ]
       refine wpAnyH_ready (rs := [15]) (by kernel_rfl) (by simp) ?_
       refine AllReadyH.cons (o := { dst := some 144, op := .call { callee := .value (.func 14), args := #[.tmp 143], argTypes := #[27] }, type := 31, pos := "law.go:147", after := #[{ on := 14, ground := .data }, { on := 13, ground := .chain }, { on := 13, ground := .guard }], guard := some (13, true) }) rfl (fun K hK => ?_) AllReadyH.nil
       go_simp
       refine (of10_any _ (⟨xtos, xid, false, false, 0, xttl, xpr, xsrc, xdst, xl⟩ : Pk) A9 c9 _ OKX.out (HO9U.out.keep (Ex.refl (fun _ => False) wu).drew (fun _ _ _ _ => id)).rb).mono ?_
       rintro e wx ⟨rfl, hx⟩
       have hS1 := hS0.trans hx
       have HS1 := Lib.hid hS1
       clear hx
       refine hK.out _ _ hS1 (fun _ => ?_)
       refine wpAnyH_ready (rs := [17]) (by kernel_rfl) (by simp) ?_
       refine AllReadyH.cons (o := { dst := some 146, op := .call { callee := .value (.func 14), args := #[.tmp 145], argTypes := #[27] }, type := 31, pos := "law.go:147", after := #[{ on := 16, ground := .data }, { on := 15, ground := .chain }, { on := 13, ground := .guard }], guard := some (13, true) }) rfl (fun K hK => ?_) AllReadyH.nil
       go_simp
       refine (of10_any _ (⟨xtos, xid, false, false, 0, xttl, xpr, xsrc, xdst, xl⟩ : Pk) (some xA) xc _ OKX.out (HOXU.out.keep HS1.out (fun _ _ _ _ => id)).rb).mono ?_
       rintro e wy ⟨rfl, hx⟩
       have hS2 := hS1.trans hx
       clear hx
       refine hK.out _ _ hS2 (fun _ => ?_)
       refine wpAnyH_take (i := 18) (oi := { dst := some 147, op := .binOp .neq 31 (.tmp 144) (.tmp 146) 31, type := 4, pos := "law.go:147", after := #[{ on := 15, ground := .data }, { on := 17, ground := .data }, { on := 13, ground := .guard }], guard := some (13, true) }) (v := ?v38) rfl (by kernel_rfl) (by kernel_rfl) (by kernel_rfl) (fun _ _ _ h => h) (Or.inl ⟨by rfl, ?hy38⟩) (by assumption) ?rest38
       case hy38 => (intro w hSw; (try dsimp only at hSw); have z1 := Z1.out; have z2 := Z2.out; go_simp <;> with_reducible rfl)
       try simp only [Act.put, List.setIfInBounds_toArray, List.set_cons_zero, List.set_cons_succ]
       refine wpAnyH_take (i := 19) (oi := { dst := some 148, op := .pick (.tmp 142) (.tmp 147) (.const (.bool false)), type := 4, pos := "law.go:147", after := #[{ on := 13, ground := .data }, { on := 18, ground := .data }, { on := 11, ground := .guard }], guard := some (11, false) }) (v := ?v39) rfl (by kernel_rfl) (by kernel_rfl) (by kernel_rfl) (fun _ _ _ h => h) (Or.inl ⟨by rfl, ?hy39⟩) (by assumption) ?rest39
       case hy39 => (intro w hSw; (try dsimp only at hSw); go_simp <;> with_reducible rfl)
       try simp only [Act.put, List.setIfInBounds_toArray, List.set_cons_zero, List.set_cons_succ]
       refine wpAnyH_take (i := 20) (oi := { dst := some 149, op := .pick (.tmp 140) (.const (.bool true)) (.tmp 148), type := 4, pos := "law.go:147", after := #[{ on := 11, ground := .data }, { on := 19, ground := .data }], guard := none }) (v := ?v40) rfl (by kernel_rfl) (by kernel_rfl) (by kernel_rfl) (fun _ _ _ h => h) (Or.inl ⟨by rfl, ?hy40⟩) (by assumption) ?rest40
       case hy40 => (intro w hSw; (try dsimp only at hSw); go_simp <;> with_reducible rfl)
       try simp only [Act.put, List.setIfInBounds_toArray, List.set_cons_zero, List.set_cons_succ]
       refine wpAnyH_done (by kernel_rfl) ?_ _
       have HBV := Lib.hid ((HBT.out.keep HX_wu.out).keep hS2)
       have HUV : Hid (Up B wc wy) := HUU.out.andThen hS2 (fun k _ h => h.elim)
       clear hS0 hS1 hS2 cxq0 cxq1 cxq2 cxq3 cxq4 cxq5 cxq6 cxq7 cxq8 cxq9 cb0 cb1 cb2 cb3 cb4 cb5 cb6 cb7 cb8 cb9
       have hwi := wrap_k HIN.out HNN.out.2
       go_wp2_with fail
       go_roundg (n1 - (i + 1))
       case measure => exact msrK hkx HIN.out
       case rel => exact ⟨i + 1, Mn + 1, by first | (simp; done) | (rw [wrap_k2 HIN.out HNN.out.2]), HIN.out, Nat.le_refl _, Lib.hid (m_1 HMN.out).1, HBV, HUV⟩
     ·
      obtain rfl := i_endk hlt hin
      have HRZ : Hid (RS wr B rb bm 9 []) := by
       have h := HBS.out
       rw [show BackS wr B rb bm 9 (⟨xtos, xid, false, false, 0, xttl, xpr, xsrc, xdst, xl⟩ : Pk) (os2.map Prod.fst) i Mn = BackS wr B rb bm 9 (⟨xtos, xid, false, false, 0, xttl, xpr, xsrc, xdst, xl⟩ : Pk) (os2.map Prod.fst) (os2.map Prod.fst).length Mn by rw [HLP.out]] at h
       exact h.done
      clear hin hkx hlt
      go_wp2_with fail
      refine (len_any B rb bm 9 [] wr HRZ.out).mono ?_
      rintro e wl ⟨rfl, hwl⟩
      obtain rfl : wr = wl := hwl.symm
      rw [show ((([] : List Hp).length : Int)) = 0 from rfl]
      go_wp2_with fail
      go_ret
      exact ⟨rfl, HX08.out.trans (HXQ.out.andThen HU.out (fun k h1 e => by have h2 := HBE.out; have h3 := HXQ.out.size; omega))⟩
end Go.Proofs.YtabjihchcmjdmaaDoor
