/-
  The walk of FragTwice. By an AI agent.
-/
import Derived.Test.YtabjihchcmjdmaaDoorGh10
import Derived.Test.YtabjihchcmjdmaaDoorGb10
import Derived.Test.YtabjihchcmjdmaaDoorMask10
namespace Go.Proofs.YtabjihchcmjdmaaDoor
open Go.RowKit

set_option maxRecDepth 100000 in
set_option maxHeartbeats 16000000 in
theorem twice10_any (p : Pk) (A : Option Addr) (c : Nat) (m0 more : Int) (w : World) (ok : p.ok) (hp : RB w (fun _ => True) (.slice A p.b.length c) p.b) (hg : ET w) :
    Calls Tryd.prog 11 #[pkv p (.slice A p.b.length c), .int .i64 m0, .int .i64 more] w fun e w' => e = .returned (.bool true) ∧ Ex (fun _ => False) w w' := by
  obtain ⟨k1, hk1, hk1b⟩ := and16 m0
  obtain ⟨r1, hr1, hr1b⟩ := rem15 k1
  obtain ⟨k2, hk2, hk2b⟩ := and12 more
  have HKB := Lib.hid (And.intro hr1b hk2b)
  clear hk1b hr1b hk2b
  obtain ⟨xtos, xid, xdf, xmf, xoff, xttl, xpr, xsrc, xdst, xb⟩ := p
  simp only at hp
  have HG := Lib.hid hg
  have HP := Lib.hid hp
  have OKP := Lib.hid ok
  clear hp ok hg
  show Calls Tryd.prog 11 #[.agg #[.int .u8 xtos, .int .u16 xid, .bool xdf, .bool xmf, .int .i64 xoff, .int .u8 xttl, .int .u8 xpr, .int .u32 xsrc, .int .u32 xdst, .slice A xb.length c], .int .i64 m0, .int .i64 more] w _
  go_enter Tryd.func11, Tryd.ntmps11
  go_upto_region 1 with fail
  have hx : Ex (fun _ => False) w (w.alloc (.cells #[.int .u8 xtos, .int .u16 xid, .bool xdf, .bool xmf, .int .i64 xoff, .int .u8 xttl, .int .u8 xpr, .int .u32 xsrc, .int .u32 xdst, .slice A xb.length c] 27)) := (Ex.refl _ w).alloc _
  have hb : (w.alloc (.cells #[.int .u8 xtos, .int .u16 xid, .bool xdf, .bool xmf, .int .i64 xoff, .int .u8 xttl, .int .u8 xpr, .int .u32 xsrc, .int .u32 xdst, .slice A xb.length c] 27)).heap[w.heap.size]? = some (.cells #[.int .u8 xtos, .int .u16 xid, .bool xdf, .bool xmf, .int .i64 xoff, .int .u8 xttl, .int .u8 xpr, .int .u32 xsrc, .int .u32 xdst, .slice A xb.length c] 27) := heap_alloc_new w _
  obtain ⟨bp, hbp⟩ : ∃ bp, bp = w.heap.size := ⟨_, rfl⟩
  have hb_bp : w.heap.size ≤ bp := by omega
  rw [← hbp] at hb
  try simp only [← hbp]
  generalize w.alloc (.cells #[.int .u8 xtos, .int .u16 xid, .bool xdf, .bool xmf, .int .i64 xoff, .int .u8 xttl, .int .u8 xpr, .int .u32 xsrc, .int .u32 xdst, .slice A xb.length c] 27) = w1 at hx hb ⊢
  clear hbp
  have HX_w1 := Lib.hid hx
  clear hx
  have B_bp := Lib.hid hb
  clear hb
  have hlp := row_lt B_bp.out
  go_wp2_with fail
  refine (shown10_any w1 (HG.out.keep HX_w1.out id)).mono ?_
  rintro e w2 ⟨rfl, hx⟩
  have hz12 := hx.size
  have HX_w2 := Lib.hid hx
  clear hx
  replace B_bp := Lib.hid ((HX_w2.out.block bp (row_lt B_bp.out) id).trans B_bp.out)
  have cbp0 := row_cell (k := 0) (v := .int .u8 xtos) B_bp.out rfl
  have cbp1 := row_cell (k := 1) (v := .int .u16 xid) B_bp.out rfl
  have cbp2 := row_cell (k := 2) (v := .bool xdf) B_bp.out rfl
  have cbp3 := row_cell (k := 3) (v := .bool xmf) B_bp.out rfl
  have cbp4 := row_cell (k := 4) (v := .int .i64 xoff) B_bp.out rfl
  have cbp5 := row_cell (k := 5) (v := .int .u8 xttl) B_bp.out rfl
  have cbp6 := row_cell (k := 6) (v := .int .u8 xpr) B_bp.out rfl
  have cbp7 := row_cell (k := 7) (v := .int .u32 xsrc) B_bp.out rfl
  have cbp8 := row_cell (k := 8) (v := .int .u32 xdst) B_bp.out rfl
  have cbp9 := row_cell (k := 9) (v := .slice A xb.length c) B_bp.out rfl
  have fbp0 := row_frozen B_bp.out 0
  have fbp1 := row_frozen B_bp.out 1
  have fbp2 := row_frozen B_bp.out 2
  have fbp3 := row_frozen B_bp.out 3
  have fbp4 := row_frozen B_bp.out 4
  have fbp5 := row_frozen B_bp.out 5
  have fbp6 := row_frozen B_bp.out 6
  have fbp7 := row_frozen B_bp.out 7
  have fbp8 := row_frozen B_bp.out 8
  have fbp9 := row_frozen B_bp.out 9
  go_wp2_with fail
  refine (few10_any (fun _ => True) (⟨xtos, xid, xdf, xmf, xoff, xttl, xpr, xsrc, xdst, xb⟩ : Pk) A c w2 (RB.keep HP.out (HX_w1.out.trans HX_w2.out) (fun _ _ _ => id))).mono ?_
  rintro e w3 ⟨xA, xc, rfl, ho, hx⟩
  obtain ⟨xl, hxl⟩ : ∃ l, l = xb.take 2000 := ⟨_, rfl⟩
  have hfw : (⟨xtos, xid, xdf, xmf, xoff, xttl, xpr, xsrc, xdst, xb⟩ : Pk).few 2000 = (⟨xtos, xid, xdf, xmf, xoff, xttl, xpr, xsrc, xdst, xl⟩ : Pk) := by rw [hxl]; rfl
  rw [hfw] at ho ⊢
  have hxn : xl.length ≤ 2000 := by rw [hxl, List.length_take]; omega
  have hv : pkv (⟨xtos, xid, xdf, xmf, xoff, xttl, xpr, xsrc, xdst, xl⟩ : Pk) (.slice (some xA) (⟨xtos, xid, xdf, xmf, xoff, xttl, xpr, xsrc, xdst, xl⟩ : Pk).b.length xc) = .agg #[.int .u8 xtos, .int .u16 xid, .bool xdf, .bool xmf, .int .i64 xoff, .int .u8 xttl, .int .u8 xpr, .int .u32 xsrc, .int .u32 xdst, .slice (some xA) xl.length xc] := rfl
  rw [hv]
  have ho' : OB w3 w2.heap.size (.slice (some xA) xl.length xc) xl := ho
  clear hv hfw hxl ho cbp0 cbp1 cbp2 cbp3 cbp4 cbp5 cbp6 cbp7 cbp8 cbp9 fbp0 fbp1 fbp2 fbp3 fbp4 fbp5 fbp6 fbp7 fbp8 fbp9
  have HX_w3 := Lib.hid hx
  clear hx
  have HO_x := Lib.hid ho'
  clear ho'
  have hbl_bp := row_lt B_bp.out
  replace B_bp := Lib.hid ((HX_w3.out.block bp (row_lt B_bp.out) id).trans B_bp.out)
  have cbp0 := row_cell (k := 0) (v := .int .u8 xtos) B_bp.out rfl
  have cbp1 := row_cell (k := 1) (v := .int .u16 xid) B_bp.out rfl
  have cbp2 := row_cell (k := 2) (v := .bool xdf) B_bp.out rfl
  have cbp3 := row_cell (k := 3) (v := .bool xmf) B_bp.out rfl
  have cbp4 := row_cell (k := 4) (v := .int .i64 xoff) B_bp.out rfl
  have cbp5 := row_cell (k := 5) (v := .int .u8 xttl) B_bp.out rfl
  have cbp6 := row_cell (k := 6) (v := .int .u8 xpr) B_bp.out rfl
  have cbp7 := row_cell (k := 7) (v := .int .u32 xsrc) B_bp.out rfl
  have cbp8 := row_cell (k := 8) (v := .int .u32 xdst) B_bp.out rfl
  have cbp9 := row_cell (k := 9) (v := .slice A xb.length c) B_bp.out rfl
  have fbp0 := row_frozen B_bp.out 0
  have fbp1 := row_frozen B_bp.out 1
  have fbp2 := row_frozen B_bp.out 2
  have fbp3 := row_frozen B_bp.out 3
  have fbp4 := row_frozen B_bp.out 4
  have fbp5 := row_frozen B_bp.out 5
  have fbp6 := row_frozen B_bp.out 6
  have fbp7 := row_frozen B_bp.out 7
  have fbp8 := row_frozen B_bp.out 8
  have fbp9 := row_frozen B_bp.out 9
  go_upto_region 3 with fail
  have r0 : (w3.setCell ⟨bp, 0, none⟩ (.int .u8 xtos)).heap[bp]? = some (.cells #[.int .u8 xtos, .int .u16 xid, .bool xdf, .bool xmf, .int .i64 xoff, .int .u8 xttl, .int .u8 xpr, .int .u32 xsrc, .int .u32 xdst, .slice A xb.length c] 27) := row_set B_bp.out 0 (.int .u8 xtos)
  have r1 : ((w3.setCell ⟨bp, 0, none⟩ (.int .u8 xtos)).setCell ⟨bp, 1, none⟩ (.int .u16 xid)).heap[bp]? = some (.cells #[.int .u8 xtos, .int .u16 xid, .bool xdf, .bool xmf, .int .i64 xoff, .int .u8 xttl, .int .u8 xpr, .int .u32 xsrc, .int .u32 xdst, .slice A xb.length c] 27) := row_set r0 1 (.int .u16 xid)
  clear r0
  have r2 : (((w3.setCell ⟨bp, 0, none⟩ (.int .u8 xtos)).setCell ⟨bp, 1, none⟩ (.int .u16 xid)).setCell ⟨bp, 2, none⟩ (.bool xdf)).heap[bp]? = some (.cells #[.int .u8 xtos, .int .u16 xid, .bool xdf, .bool xmf, .int .i64 xoff, .int .u8 xttl, .int .u8 xpr, .int .u32 xsrc, .int .u32 xdst, .slice A xb.length c] 27) := row_set r1 2 (.bool xdf)
  clear r1
  have r3 : ((((w3.setCell ⟨bp, 0, none⟩ (.int .u8 xtos)).setCell ⟨bp, 1, none⟩ (.int .u16 xid)).setCell ⟨bp, 2, none⟩ (.bool xdf)).setCell ⟨bp, 3, none⟩ (.bool xmf)).heap[bp]? = some (.cells #[.int .u8 xtos, .int .u16 xid, .bool xdf, .bool xmf, .int .i64 xoff, .int .u8 xttl, .int .u8 xpr, .int .u32 xsrc, .int .u32 xdst, .slice A xb.length c] 27) := row_set r2 3 (.bool xmf)
  clear r2
  have r4 : (((((w3.setCell ⟨bp, 0, none⟩ (.int .u8 xtos)).setCell ⟨bp, 1, none⟩ (.int .u16 xid)).setCell ⟨bp, 2, none⟩ (.bool xdf)).setCell ⟨bp, 3, none⟩ (.bool xmf)).setCell ⟨bp, 4, none⟩ (.int .i64 xoff)).heap[bp]? = some (.cells #[.int .u8 xtos, .int .u16 xid, .bool xdf, .bool xmf, .int .i64 xoff, .int .u8 xttl, .int .u8 xpr, .int .u32 xsrc, .int .u32 xdst, .slice A xb.length c] 27) := row_set r3 4 (.int .i64 xoff)
  clear r3
  have r5 : ((((((w3.setCell ⟨bp, 0, none⟩ (.int .u8 xtos)).setCell ⟨bp, 1, none⟩ (.int .u16 xid)).setCell ⟨bp, 2, none⟩ (.bool xdf)).setCell ⟨bp, 3, none⟩ (.bool xmf)).setCell ⟨bp, 4, none⟩ (.int .i64 xoff)).setCell ⟨bp, 5, none⟩ (.int .u8 xttl)).heap[bp]? = some (.cells #[.int .u8 xtos, .int .u16 xid, .bool xdf, .bool xmf, .int .i64 xoff, .int .u8 xttl, .int .u8 xpr, .int .u32 xsrc, .int .u32 xdst, .slice A xb.length c] 27) := row_set r4 5 (.int .u8 xttl)
  clear r4
  have r6 : (((((((w3.setCell ⟨bp, 0, none⟩ (.int .u8 xtos)).setCell ⟨bp, 1, none⟩ (.int .u16 xid)).setCell ⟨bp, 2, none⟩ (.bool xdf)).setCell ⟨bp, 3, none⟩ (.bool xmf)).setCell ⟨bp, 4, none⟩ (.int .i64 xoff)).setCell ⟨bp, 5, none⟩ (.int .u8 xttl)).setCell ⟨bp, 6, none⟩ (.int .u8 xpr)).heap[bp]? = some (.cells #[.int .u8 xtos, .int .u16 xid, .bool xdf, .bool xmf, .int .i64 xoff, .int .u8 xttl, .int .u8 xpr, .int .u32 xsrc, .int .u32 xdst, .slice A xb.length c] 27) := row_set r5 6 (.int .u8 xpr)
  clear r5
  have r7 : ((((((((w3.setCell ⟨bp, 0, none⟩ (.int .u8 xtos)).setCell ⟨bp, 1, none⟩ (.int .u16 xid)).setCell ⟨bp, 2, none⟩ (.bool xdf)).setCell ⟨bp, 3, none⟩ (.bool xmf)).setCell ⟨bp, 4, none⟩ (.int .i64 xoff)).setCell ⟨bp, 5, none⟩ (.int .u8 xttl)).setCell ⟨bp, 6, none⟩ (.int .u8 xpr)).setCell ⟨bp, 7, none⟩ (.int .u32 xsrc)).heap[bp]? = some (.cells #[.int .u8 xtos, .int .u16 xid, .bool xdf, .bool xmf, .int .i64 xoff, .int .u8 xttl, .int .u8 xpr, .int .u32 xsrc, .int .u32 xdst, .slice A xb.length c] 27) := row_set r6 7 (.int .u32 xsrc)
  clear r6
  have r8 : (((((((((w3.setCell ⟨bp, 0, none⟩ (.int .u8 xtos)).setCell ⟨bp, 1, none⟩ (.int .u16 xid)).setCell ⟨bp, 2, none⟩ (.bool xdf)).setCell ⟨bp, 3, none⟩ (.bool xmf)).setCell ⟨bp, 4, none⟩ (.int .i64 xoff)).setCell ⟨bp, 5, none⟩ (.int .u8 xttl)).setCell ⟨bp, 6, none⟩ (.int .u8 xpr)).setCell ⟨bp, 7, none⟩ (.int .u32 xsrc)).setCell ⟨bp, 8, none⟩ (.int .u32 xdst)).heap[bp]? = some (.cells #[.int .u8 xtos, .int .u16 xid, .bool xdf, .bool xmf, .int .i64 xoff, .int .u8 xttl, .int .u8 xpr, .int .u32 xsrc, .int .u32 xdst, .slice A xb.length c] 27) := row_set r7 8 (.int .u32 xdst)
  clear r7
  have r9 : ((((((((((w3.setCell ⟨bp, 0, none⟩ (.int .u8 xtos)).setCell ⟨bp, 1, none⟩ (.int .u16 xid)).setCell ⟨bp, 2, none⟩ (.bool xdf)).setCell ⟨bp, 3, none⟩ (.bool xmf)).setCell ⟨bp, 4, none⟩ (.int .i64 xoff)).setCell ⟨bp, 5, none⟩ (.int .u8 xttl)).setCell ⟨bp, 6, none⟩ (.int .u8 xpr)).setCell ⟨bp, 7, none⟩ (.int .u32 xsrc)).setCell ⟨bp, 8, none⟩ (.int .u32 xdst)).setCell ⟨bp, 9, none⟩ (.slice (some xA) xl.length xc)).heap[bp]? = some (.cells #[.int .u8 xtos, .int .u16 xid, .bool xdf, .bool xmf, .int .i64 xoff, .int .u8 xttl, .int .u8 xpr, .int .u32 xsrc, .int .u32 xdst, .slice (some xA) xl.length xc] 27) := row_set r8 9 (.slice (some xA) xl.length xc)
  clear r8
  have hx : Ex (fun j => j = bp) w3 ((((((((((w3.setCell ⟨bp, 0, none⟩ (.int .u8 xtos)).setCell ⟨bp, 1, none⟩ (.int .u16 xid)).setCell ⟨bp, 2, none⟩ (.bool xdf)).setCell ⟨bp, 3, none⟩ (.bool xmf)).setCell ⟨bp, 4, none⟩ (.int .i64 xoff)).setCell ⟨bp, 5, none⟩ (.int .u8 xttl)).setCell ⟨bp, 6, none⟩ (.int .u8 xpr)).setCell ⟨bp, 7, none⟩ (.int .u32 xsrc)).setCell ⟨bp, 8, none⟩ (.int .u32 xdst)).setCell ⟨bp, 9, none⟩ (.slice (some xA) xl.length xc)) := (((((((((((Ex.refl (fun j => j = bp) w3).setCell (p := ⟨bp, 0, none⟩) (.inl rfl) (.int .u8 xtos)).setCell (p := ⟨bp, 1, none⟩) (.inl rfl) (.int .u16 xid)).setCell (p := ⟨bp, 2, none⟩) (.inl rfl) (.bool xdf)).setCell (p := ⟨bp, 3, none⟩) (.inl rfl) (.bool xmf)).setCell (p := ⟨bp, 4, none⟩) (.inl rfl) (.int .i64 xoff)).setCell (p := ⟨bp, 5, none⟩) (.inl rfl) (.int .u8 xttl)).setCell (p := ⟨bp, 6, none⟩) (.inl rfl) (.int .u8 xpr)).setCell (p := ⟨bp, 7, none⟩) (.inl rfl) (.int .u32 xsrc)).setCell (p := ⟨bp, 8, none⟩) (.inl rfl) (.int .u32 xdst)).setCell (p := ⟨bp, 9, none⟩) (.inl rfl) (.slice (some xA) xl.length xc))
  clear cbp0 cbp1 cbp2 cbp3 cbp4 cbp5 cbp6 cbp7 cbp8 cbp9 fbp0 fbp1 fbp2 fbp3 fbp4 fbp5 fbp6 fbp7 fbp8 fbp9
  generalize ((((((((((w3.setCell ⟨bp, 0, none⟩ (.int .u8 xtos)).setCell ⟨bp, 1, none⟩ (.int .u16 xid)).setCell ⟨bp, 2, none⟩ (.bool xdf)).setCell ⟨bp, 3, none⟩ (.bool xmf)).setCell ⟨bp, 4, none⟩ (.int .i64 xoff)).setCell ⟨bp, 5, none⟩ (.int .u8 xttl)).setCell ⟨bp, 6, none⟩ (.int .u8 xpr)).setCell ⟨bp, 7, none⟩ (.int .u32 xsrc)).setCell ⟨bp, 8, none⟩ (.int .u32 xdst)).setCell ⟨bp, 9, none⟩ (.slice (some xA) xl.length xc)) = w4 at r9 hx ⊢
  replace B_bp := Lib.hid r9
  clear r9
  have HX_w4 := Lib.hid hx
  clear hx
  have HXN := Lib.hid hxn
  clear hxn
  have cbp2 := row_cell (k := 2) (v := .bool xdf) B_bp.out rfl
  have fbp2 := row_frozen B_bp.out 2
  go_upto_region 4 with fail
  have hb : (w4.setCell ⟨bp, 2, none⟩ (.bool false)).heap[bp]? = some (.cells #[.int .u8 xtos, .int .u16 xid, .bool false, .bool xmf, .int .i64 xoff, .int .u8 xttl, .int .u8 xpr, .int .u32 xsrc, .int .u32 xdst, .slice (some xA) xl.length xc] 27) := (row_set B_bp.out 2 (.bool false))
  have hx : Ex (fun j => j = bp) w4 (w4.setCell ⟨bp, 2, none⟩ (.bool false)) := ((Ex.refl (fun j => j = bp) w4).setCell (p := ⟨bp, 2, none⟩) (.inl rfl) (.bool false))
  clear cbp2 fbp2
  generalize (w4.setCell ⟨bp, 2, none⟩ (.bool false)) = w5 at hx hb ⊢
  clear B_bp
  have HX_w5 := Lib.hid hx
  clear hx
  have B_bp := Lib.hid hb
  clear hb
  go_upto_region 5 with fail
  have HK2E := Lib.hid hk2
  clear hk1 hr1 hk2
  obtain ⟨M, hM⟩ : ∃ M : Int, M = wrap64 (68 + (r1 : Int)) := ⟨_, rfl⟩
  try rw [← hM]
  have HM68 : Hid (68 ≤ M) := by
    show 68 ≤ M
    have := HKB.out
    rw [hM]
    unfold wrap64
    omega
  have HMB : Hid (M ≤ 1567) := by
    show M ≤ 1567
    have := HKB.out
    rw [hM]
    unfold wrap64
    omega
  have OKX := Lib.hid (show (⟨xtos, xid, false, xmf, xoff, xttl, xpr, xsrc, xdst, xl⟩ : Pk).ok from OKP.out)
  clear hM
  have cbp0 := row_cell (k := 0) (v := .int .u8 xtos) B_bp.out rfl
  have cbp1 := row_cell (k := 1) (v := .int .u16 xid) B_bp.out rfl
  have cbp2 := row_cell (k := 2) (v := .bool false) B_bp.out rfl
  have cbp3 := row_cell (k := 3) (v := .bool xmf) B_bp.out rfl
  have cbp4 := row_cell (k := 4) (v := .int .i64 xoff) B_bp.out rfl
  have cbp5 := row_cell (k := 5) (v := .int .u8 xttl) B_bp.out rfl
  have cbp6 := row_cell (k := 6) (v := .int .u8 xpr) B_bp.out rfl
  have cbp7 := row_cell (k := 7) (v := .int .u32 xsrc) B_bp.out rfl
  have cbp8 := row_cell (k := 8) (v := .int .u32 xdst) B_bp.out rfl
  have cbp9 := row_cell (k := 9) (v := .slice (some xA) xl.length xc) B_bp.out rfl
  obtain ⟨S, hS⟩ : ∃ S, S = spe (⟨xtos, xid, false, xmf, xoff, xttl, xpr, xsrc, xdst, xl⟩ : Pk) M := ⟨_, rfl⟩
  cases S with
  | some rk =>
    obtain ⟨r, k⟩ := rk
    have hl4 : xl.length ≤ 4000 := by have := HXN.out; omega
    have hr : (⟨xtos, xid, false, xmf, xoff, xttl, xpr, xsrc, xdst, xl⟩ : Pk).right ≠ 0 := by
      intro h
      unfold spe at hS
      rw [if_neg (by have := HM68.out; omega), if_neg (fun g => g h)] at hS
      split at hS
      · cases hS
      · split at hS
        · rename_i g; cases g
        · cases hS
    have HRR := Lib.hid hr
    have HSS := Lib.hid hS
    clear hr hS
    go_wp2_with fail
    refine (split_no _ (⟨xtos, xid, false, xmf, xoff, xttl, xpr, xsrc, xdst, xl⟩ : Pk) (some xA) xc M w5 (OB.keepB (OB.keepB HO_x.out HX_w4.out (by omega)) HX_w5.out (by omega)).rb (fun h => by cases h) hl4 r k HSS.out.symm).mono ?_
    rintro e w6 ⟨t5, y5, rfl, hec, hx⟩
    clear hec cbp0 cbp1 cbp2 cbp3 cbp4 cbp5 cbp6 cbp7 cbp8 cbp9
    have HX_w6 := Lib.hid hx
    clear hx
    replace B_bp := Lib.hid ((HX_w6.out.block bp (row_lt B_bp.out) id).trans B_bp.out)
    have cbp0 := row_cell (k := 0) (v := .int .u8 xtos) B_bp.out rfl
    have cbp1 := row_cell (k := 1) (v := .int .u16 xid) B_bp.out rfl
    have cbp2 := row_cell (k := 2) (v := .bool false) B_bp.out rfl
    have cbp3 := row_cell (k := 3) (v := .bool xmf) B_bp.out rfl
    have cbp4 := row_cell (k := 4) (v := .int .i64 xoff) B_bp.out rfl
    have cbp5 := row_cell (k := 5) (v := .int .u8 xttl) B_bp.out rfl
    have cbp6 := row_cell (k := 6) (v := .int .u8 xpr) B_bp.out rfl
    have cbp7 := row_cell (k := 7) (v := .int .u32 xsrc) B_bp.out rfl
    have cbp8 := row_cell (k := 8) (v := .int .u32 xdst) B_bp.out rfl
    have cbp9 := row_cell (k := 9) (v := .slice (some xA) xl.length xc) B_bp.out rfl
    go_wp2_with fail
    refine (right_no (⟨xtos, xid, false, xmf, xoff, xttl, xpr, xsrc, xdst, xl⟩ : Pk) (some xA) xc w6 (by have := HXN.out; show xl.length ≤ _; omega) HRR.out).mono ?_
    rintro e w7 ⟨t6, y6, rfl, _, hx⟩
    clear cbp0 cbp1 cbp2 cbp3 cbp4 cbp5 cbp6 cbp7 cbp8 cbp9
    have HX_w7 := Lib.hid hx
    clear hx
    go_wp2_with fail
    go_ret
    exact ⟨rfl, ((((((HX_w1.out.trans HX_w2.out).trans HX_w3.out).andThen HX_w4.out (fun i hi e => by have := hb_bp; omega)).andThen HX_w5.out (fun i hi e => by have := hb_bp; omega)).trans HX_w6.out).trans HX_w7.out)⟩
  | none =>
    have hl4 : xl.length ≤ 4000 := by have := HXN.out; omega
    obtain ⟨z, n, hpd⟩ := parts_pd hS.symm hl4
    obtain ⟨_, hright, _⟩ := spe_none hS.symm
    have HPD := Lib.hid hpd
    have HRR := Lib.hid hright
    have HMO := Lib.hid (parts_mono (p := (⟨xtos, xid, false, xmf, xoff, xttl, xpr, xsrc, xdst, xl⟩ : Pk)) (m' := M + (k2 : Int)) (show M ≤ M + (k2 : Int) by omega) HM68.out)
    have HS2 : Hid (spe (⟨xtos, xid, false, xmf, xoff, xttl, xpr, xsrc, xdst, xl⟩ : Pk) (M + (k2 : Int)) = none) := by
      show spe _ _ = none
      unfold spe
      rw [if_neg (by have := HM68.out; omega), if_neg (fun g => g hright)]
      split
      · rfl
      · rfl
    have HSS := Lib.hid hS
    clear hS hright hpd
    go_wp2_with fail
    have hpd := HPD.out
    have hright := HRR.out
    have hS := HSS.out
    refine (split_yes _ (⟨xtos, xid, false, xmf, xoff, xttl, xpr, xsrc, xdst, xl⟩ : Pk) (some xA) xc M w5 (OB.keepB (OB.keepB HO_x.out HX_w4.out (by omega)) HX_w5.out (by omega)).rb (fun h => by cases h) hl4 hS.symm).mono ?_
    rintro e w6 ⟨A5, c5, os, rfl, hos, hop, hobs, hx⟩
    have hon : os.length = n := by rw [← hpd.len, ← hos, List.length_map]
    rw [hon] at hop ⊢
    obtain ⟨g, c5', hv, hgc⟩ := hop.get 0 (by rw [hon]; exact hpd.pos)
    clear hgc
    rw [hon] at hv
    injection hv with hv _ hv2
    subst hv hv2
    have hat : ∀ i (h : i < os.length), os[i].1 = pti (⟨xtos, xid, false, xmf, xoff, xttl, xpr, xsrc, xdst, xl⟩ : Pk) z n i := by
      intro i h
      have e1 : (parts (⟨xtos, xid, false, xmf, xoff, xttl, xpr, xsrc, xdst, xl⟩ : Pk) M)[i]? = some os[i].1 := by rw [← hos, List.getElem?_map, List.getElem?_eq_getElem h]; rfl
      have e2 := hpd.one i (by rw [← hon]; exact h)
      rw [e1] at e2
      exact Option.some.inj e2
    have HAT := Lib.hid hat
    have HON := Lib.hid hon
    have HOP := Lib.hid hop
    have HOBS := Lib.hid hobs
    have hn90 : n ≤ 42 := by rw [← hpd.len]; exact parts_len hS.symm HXN.out
    have HN1 := Lib.hid hpd.len
    clear hpd hright hS hat hon hos hop hobs cbp0 cbp1 cbp2 cbp3 cbp4 cbp5 cbp6 cbp7 cbp8 cbp9
    have HX_w6 := Lib.hid hx
    clear hx
    replace B_bp := Lib.hid ((HX_w6.out.block bp (row_lt B_bp.out) id).trans B_bp.out)
    go_wp2_with fail
    have hx0 := Lib.hid (Ex.refl (fun _ => False) w6)
    go_loopg [10, 11, 12] n (fun kx s10 _ _ wr => ∃ (i : Nat), s10 = .int .i64 i ∧ i ≤ n ∧ n - i ≤ kx ∧ Hid (Ex (fun _ => False) w6 wr))
    case atStart => exact ⟨0, rfl, Nat.zero_le _, Nat.le_refl _, hx0⟩
    case round =>
      clear hx0
      obtain ⟨i, rfl, hin, hkx, hxr⟩ := hrel
      have hx := hxr.out
      clear hxr
      have HX_wr := Lib.hid hx
      clear hx
      by_cases hlt : (i : Int) < (n : Int)
      · have hilt : i < n := by omega
        have hio : i < os.length := by rw [HON.out]; exact hilt
        obtain ⟨o, ho⟩ : ∃ o, o = os[i] := ⟨_, rfl⟩
        have hoe : o.1 = pti (⟨xtos, xid, false, xmf, xoff, xttl, xpr, xsrc, xdst, xl⟩ : Pk) z n i := by rw [ho]; exact HAT.out i hio
        have hor : OB wr w5.heap.size (ov o) o.1.b := (HOBS.out.keep HX_wr.out (fun _ _ _ _ _ _ => id)).1 o (by rw [ho]; exact List.getElem_mem hio)
        have hright := HPD.out.right HRR.out hilt
        have hfit := HPD.out.fit i hilt
        obtain ⟨_, _, pl3⟩ := HPD.out.place hilt
        rw [← hoe] at hright hfit pl3
        have hok : o.1.ok := by
          rw [hoe]
          have h1 := OKX.out
          have h2 := right_off hright
          rw [hoe] at h2
          exact ⟨h1.1, h1.2.1, ⟨by omega, by omega⟩, h1.2.2.2⟩
        obtain ⟨⟨otos, oid, odf, omf, ooff, ottl, opr, osrc, odst, ob⟩, oA, oc⟩ := o
        have HOR : Hid (OB wr w5.heap.size (.slice oA ob.length oc) ob) := hor
        have HIO := Lib.hid hio
        have HOO : Hid (((⟨otos, oid, odf, omf, ooff, ottl, opr, osrc, odst, ob⟩ : Pk), oA, oc) = os[i]'(HIO.out)) := ho
        have HOK : Hid ((⟨otos, oid, odf, omf, ooff, ottl, opr, osrc, odst, ob⟩ : Pk).ok) := hok
        have HSP := Lib.hid (spe_fits HM68.out hright hfit)
        have hbl : ob.length ≤ 4000 := by change ob.length = min z (xl.length - i * z) at pl3; omega
        clear ho hoe hor hright hfit hok hio pl3
        have lcrow : ∀ k u, (ocl ((⟨otos, oid, odf, omf, ooff, ottl, opr, osrc, odst, ob⟩ : Pk), oA, oc))[k]? = some u → wr.cell? ⟨g, i * 10 + k, none⟩ = some u := by
          intro k u hu
          have h9 : OP wr w5.heap.size (.slice (some ⟨g, 0, none⟩) os.length c5) os := by rw [HON.out]; exact HOP.out.keep HX_wr.out (fun _ _ _ _ => id)
          exact h9.prow i HIO.out k u (by rw [← HOO.out]; exact hu)
        have lc0 : wr.cell? ⟨g, i * 10, none⟩ = some (.int .u8 otos) := lcrow 0 _ rfl
        have lc1 : wr.cell? ⟨g, i * 10 + 1, none⟩ = some (.int .u16 oid) := lcrow 1 _ rfl
        have lc2 : wr.cell? ⟨g, i * 10 + 2, none⟩ = some (.bool odf) := lcrow 2 _ rfl
        have lc3 : wr.cell? ⟨g, i * 10 + 3, none⟩ = some (.bool omf) := lcrow 3 _ rfl
        have lc4 : wr.cell? ⟨g, i * 10 + 4, none⟩ = some (.int .i64 ooff) := lcrow 4 _ rfl
        have lc5 : wr.cell? ⟨g, i * 10 + 5, none⟩ = some (.int .u8 ottl) := lcrow 5 _ rfl
        have lc6 : wr.cell? ⟨g, i * 10 + 6, none⟩ = some (.int .u8 opr) := lcrow 6 _ rfl
        have lc7 : wr.cell? ⟨g, i * 10 + 7, none⟩ = some (.int .u32 osrc) := lcrow 7 _ rfl
        have lc8 : wr.cell? ⟨g, i * 10 + 8, none⟩ = some (.int .u32 odst) := lcrow 8 _ rfl
        have lc9 : wr.cell? ⟨g, i * 10 + 9, none⟩ = some (.slice oA ob.length oc) := lcrow 9 _ rfl
        clear lcrow
        go_wp2_with fail
        refine (split_yes _ (⟨otos, oid, odf, omf, ooff, ottl, opr, osrc, odst, ob⟩ : Pk) oA oc M wr HOR.out.rb (HOR.out.anyA) hbl HSP.out.1).mono ?_
        rintro e ws ⟨A8, c8, os8, rfl, hos8, hop8, hobs8, hx⟩
        rw [HSP.out.2] at hos8
        obtain ⟨⟨x8, A9, c9⟩, rfl, rfl⟩ := list1 hos8
        obtain ⟨g8, c8', hv, hgc⟩ := hop8.get 0 (by simp)
        clear hgc hos8
        injection hv with hv _ hv2
        subst hv hv2
        have HOP8 := Lib.hid hop8
        have HOB8 : Hid (OB ws wr.heap.size (.slice A9 ob.length c9) ob) := hobs8.1 _ (List.mem_singleton.2 rfl)
        have hv : (.tuple #[.slice (some ⟨g8, 0, none⟩) ([((⟨otos, oid, odf, omf, ooff, ottl, opr, osrc, odst, ob⟩ : Pk), A9, c9)] : List Po).length c8, .nilIface] : Value) = .tuple #[.slice (some ⟨g8, 0, none⟩) 1 c8, .nilIface] := rfl
        rw [hv]
        clear hv hop8 hobs8 lc0 lc1 lc2 lc3 lc4 lc5 lc6 lc7 lc8 lc9
        have HX_ws := Lib.hid hx
        clear hx
        go_upto_region 12 with fail
        have ldrow : ∀ k u, (ocl ((⟨otos, oid, odf, omf, ooff, ottl, opr, osrc, odst, ob⟩ : Pk), oA, oc))[k]? = some u → ws.cell? ⟨g, i * 10 + k, none⟩ = some u := by
          intro k u hu
          have h9 : OP ws w5.heap.size (.slice (some ⟨g, 0, none⟩) os.length c5) os := by rw [HON.out]; exact HOP.out.keep (HX_wr.out.trans HX_ws.out) (fun _ _ _ _ => id)
          exact h9.prow i HIO.out k u (by rw [← HOO.out]; exact hu)
        have ld0 : ws.cell? ⟨g, i * 10, none⟩ = some (.int .u8 otos) := ldrow 0 _ rfl
        have ld1 : ws.cell? ⟨g, i * 10 + 1, none⟩ = some (.int .u16 oid) := ldrow 1 _ rfl
        have ld2 : ws.cell? ⟨g, i * 10 + 2, none⟩ = some (.bool odf) := ldrow 2 _ rfl
        have ld3 : ws.cell? ⟨g, i * 10 + 3, none⟩ = some (.bool omf) := ldrow 3 _ rfl
        have ld4 : ws.cell? ⟨g, i * 10 + 4, none⟩ = some (.int .i64 ooff) := ldrow 4 _ rfl
        have ld5 : ws.cell? ⟨g, i * 10 + 5, none⟩ = some (.int .u8 ottl) := ldrow 5 _ rfl
        have ld6 : ws.cell? ⟨g, i * 10 + 6, none⟩ = some (.int .u8 opr) := ldrow 6 _ rfl
        have ld7 : ws.cell? ⟨g, i * 10 + 7, none⟩ = some (.int .u32 osrc) := ldrow 7 _ rfl
        have ld8 : ws.cell? ⟨g, i * 10 + 8, none⟩ = some (.int .u32 odst) := ldrow 8 _ rfl
        have ld9 : ws.cell? ⟨g, i * 10 + 9, none⟩ = some (.slice oA ob.length oc) := ldrow 9 _ rfl
        clear ldrow
        have hrow8 := HOP8.out.prow
        have n0 : ws.cell? ⟨g8, 0, none⟩ = some (.int .u8 otos) := hrow8 0 (by simp) 0 _ rfl
        have n1 : ws.cell? ⟨g8, 1, none⟩ = some (.int .u16 oid) := hrow8 0 (by simp) 1 _ rfl
        have n2 : ws.cell? ⟨g8, 2, none⟩ = some (.bool odf) := hrow8 0 (by simp) 2 _ rfl
        have n3 : ws.cell? ⟨g8, 3, none⟩ = some (.bool omf) := hrow8 0 (by simp) 3 _ rfl
        have n4 : ws.cell? ⟨g8, 4, none⟩ = some (.int .i64 ooff) := hrow8 0 (by simp) 4 _ rfl
        have n5 : ws.cell? ⟨g8, 5, none⟩ = some (.int .u8 ottl) := hrow8 0 (by simp) 5 _ rfl
        have n6 : ws.cell? ⟨g8, 6, none⟩ = some (.int .u8 opr) := hrow8 0 (by simp) 6 _ rfl
        have n7 : ws.cell? ⟨g8, 7, none⟩ = some (.int .u32 osrc) := hrow8 0 (by simp) 7 _ rfl
        have n8 : ws.cell? ⟨g8, 8, none⟩ = some (.int .u32 odst) := hrow8 0 (by simp) 8 _ rfl
        have n9 : ws.cell? ⟨g8, 9, none⟩ = some (.slice A9 ob.length c9) := hrow8 0 (by simp) 9 _ rfl
        clear hrow8
        have z1 : ∀ w, (binOp .neq 31 (rpv (⟨otos, oid, odf, omf, ooff, ottl, opr, osrc, odst, ob⟩ : Pk)) (rpv (⟨otos, oid, odf, omf, ooff, ottl, opr, osrc, odst, ob⟩ : Pk))).run Tryd.prog w = .ok (.bool false) w := fun w => by have h := rpv_neq (⟨otos, oid, odf, omf, ooff, ottl, opr, osrc, odst, ob⟩ : Pk) (⟨otos, oid, odf, omf, ooff, ottl, opr, osrc, odst, ob⟩ : Pk) w; rw [Pk.eqB_self] at h; exact h
        have z2 : ∀ w, (eqGuard .neq 31 (.tmp 63) (.tmp 68) (rpv (⟨otos, oid, odf, omf, ooff, ottl, opr, osrc, odst, ob⟩ : Pk)) (rpv (⟨otos, oid, odf, omf, ooff, ottl, opr, osrc, odst, ob⟩ : Pk))).run Tryd.prog w = .ok () w := fun w => rpv_guard .neq (.tmp 63) (.tmp 68) (⟨otos, oid, odf, omf, ooff, ottl, opr, osrc, odst, ob⟩ : Pk) (⟨otos, oid, odf, omf, ooff, ottl, opr, osrc, odst, ob⟩ : Pk) w
        have Z1 := Lib.hid z1
        have Z2 := Lib.hid z2
        have HORS := Lib.hid (HOR.out.keep HX_ws.out (fun _ _ _ _ => id))
        clear z1 z2
        have hS0 : Ex (fun _ => False) ws ws.drew := (Ex.refl _ ws).drew
        refine wp_region_held_drew (S := fun W => Ex (fun _ => False) ws W) (by kernel_rfl) hS0 (fun _ => ?_)
        refine wpAnyH_take (i := 0) (oi := { dst := some 52, op := Go.Op.move (Go.Operand.tmp 12), type := 35, pos := "more.go:145", after := #[], guard := none }) (v := ?v1) rfl (by kernel_rfl) (by kernel_rfl) (by kernel_rfl) (fun _ _ _ h => h) (Or.inl ⟨by rfl, ?hy1⟩) (by assumption) ?rest1
        case hy1 => (intro w hSw; (try dsimp only at hSw); have eld0 := hSw.cell ld0 id; have eld1 := hSw.cell ld1 id; have eld2 := hSw.cell ld2 id; have eld3 := hSw.cell ld3 id; have eld4 := hSw.cell ld4 id; have eld5 := hSw.cell ld5 id; have eld6 := hSw.cell ld6 id; have eld7 := hSw.cell ld7 id; have eld8 := hSw.cell ld8 id; have eld9 := hSw.cell ld9 id; have en0 := hSw.cell n0 id; have en1 := hSw.cell n1 id; have en2 := hSw.cell n2 id; have en3 := hSw.cell n3 id; have en4 := hSw.cell n4 id; have en5 := hSw.cell n5 id; have en6 := hSw.cell n6 id; have en7 := hSw.cell n7 id; have en8 := hSw.cell n8 id; have en9 := hSw.cell n9 id; have z1 := Z1.out; have z2 := Z2.out; go_simp <;> with_reducible rfl)
        try simp only [Act.put, List.setIfInBounds_toArray, List.set_cons_zero, List.set_cons_succ]
        refine wpAnyH_take (i := 1) (oi := { dst := some 53, op := Go.Op.binOp Go.BinOp.neq 35 (Go.Operand.tmp 52) (Go.Operand.const Go.Value.nilIface) 35, type := 4, pos := "more.go:145", after := #[{ on := 0, ground := Go.Ground.data }], guard := none }) (v := ?v2) rfl (by kernel_rfl) (by kernel_rfl) (by kernel_rfl) (fun _ _ _ h => h) (Or.inl ⟨by rfl, ?hy2⟩) (by assumption) ?rest2
        case hy2 => (intro w hSw; (try dsimp only at hSw); have eld0 := hSw.cell ld0 id; have eld1 := hSw.cell ld1 id; have eld2 := hSw.cell ld2 id; have eld3 := hSw.cell ld3 id; have eld4 := hSw.cell ld4 id; have eld5 := hSw.cell ld5 id; have eld6 := hSw.cell ld6 id; have eld7 := hSw.cell ld7 id; have eld8 := hSw.cell ld8 id; have eld9 := hSw.cell ld9 id; have en0 := hSw.cell n0 id; have en1 := hSw.cell n1 id; have en2 := hSw.cell n2 id; have en3 := hSw.cell n3 id; have en4 := hSw.cell n4 id; have en5 := hSw.cell n5 id; have en6 := hSw.cell n6 id; have en7 := hSw.cell n7 id; have en8 := hSw.cell n8 id; have en9 := hSw.cell n9 id; have z1 := Z1.out; have z2 := Z2.out; go_simp <;> with_reducible rfl)
        try simp only [Act.put, List.setIfInBounds_toArray, List.set_cons_zero, List.set_cons_succ]
        refine wpAnyH_take (i := 2) (oi := { dst := some 54, op := Go.Op.move (Go.Operand.tmp 53), type := 4, pos := "more.go:145", after := #[{ on := 1, ground := Go.Ground.data }], guard := none }) (v := ?v3) rfl (by kernel_rfl) (by kernel_rfl) (by kernel_rfl) (fun _ _ _ h => h) (Or.inl ⟨by rfl, ?hy3⟩) (by assumption) ?rest3
        case hy3 => (intro w hSw; (try dsimp only at hSw); have eld0 := hSw.cell ld0 id; have eld1 := hSw.cell ld1 id; have eld2 := hSw.cell ld2 id; have eld3 := hSw.cell ld3 id; have eld4 := hSw.cell ld4 id; have eld5 := hSw.cell ld5 id; have eld6 := hSw.cell ld6 id; have eld7 := hSw.cell ld7 id; have eld8 := hSw.cell ld8 id; have eld9 := hSw.cell ld9 id; have en0 := hSw.cell n0 id; have en1 := hSw.cell n1 id; have en2 := hSw.cell n2 id; have en3 := hSw.cell n3 id; have en4 := hSw.cell n4 id; have en5 := hSw.cell n5 id; have en6 := hSw.cell n6 id; have en7 := hSw.cell n7 id; have en8 := hSw.cell n8 id; have en9 := hSw.cell n9 id; have z1 := Z1.out; have z2 := Z2.out; go_simp <;> with_reducible rfl)
        try simp only [Act.put, List.setIfInBounds_toArray, List.set_cons_zero, List.set_cons_succ]
        refine wpAnyH_take (i := 3) (oi := { dst := some 55, op := Go.Op.move (Go.Operand.tmp 11), type := 33, pos := "more.go:145", after := #[{ on := 2, ground := Go.Ground.guard }], guard := some (2, false) }) (v := ?v4) rfl (by kernel_rfl) (by kernel_rfl) (by kernel_rfl) (fun _ _ _ h => h) (Or.inl ⟨by rfl, ?hy4⟩) (by assumption) ?rest4
        case hy4 => (intro w hSw; (try dsimp only at hSw); have eld0 := hSw.cell ld0 id; have eld1 := hSw.cell ld1 id; have eld2 := hSw.cell ld2 id; have eld3 := hSw.cell ld3 id; have eld4 := hSw.cell ld4 id; have eld5 := hSw.cell ld5 id; have eld6 := hSw.cell ld6 id; have eld7 := hSw.cell ld7 id; have eld8 := hSw.cell ld8 id; have eld9 := hSw.cell ld9 id; have en0 := hSw.cell n0 id; have en1 := hSw.cell n1 id; have en2 := hSw.cell n2 id; have en3 := hSw.cell n3 id; have en4 := hSw.cell n4 id; have en5 := hSw.cell n5 id; have en6 := hSw.cell n6 id; have en7 := hSw.cell n7 id; have en8 := hSw.cell n8 id; have en9 := hSw.cell n9 id; have z1 := Z1.out; have z2 := Z2.out; go_simp <;> with_reducible rfl)
        try simp only [Act.put, List.setIfInBounds_toArray, List.set_cons_zero, List.set_cons_succ]
        refine wpAnyH_take (i := 4) (oi := { dst := some 56, op := Go.Op.call { callee := Go.Callee.builtin Go.Builtin.len, args := #[Go.Operand.tmp 55], argTypes := #[33] }, type := 3, pos := "more.go:145", after := #[{ on := 3, ground := Go.Ground.data }, { on := 2, ground := Go.Ground.guard }], guard := some (2, false) }) (v := ?v5) rfl (by kernel_rfl) (by kernel_rfl) (by kernel_rfl) (fun _ _ _ h => h) (Or.inl ⟨by rfl, ?hy5⟩) (by assumption) ?rest5
        case hy5 => (intro w hSw; (try dsimp only at hSw); have eld0 := hSw.cell ld0 id; have eld1 := hSw.cell ld1 id; have eld2 := hSw.cell ld2 id; have eld3 := hSw.cell ld3 id; have eld4 := hSw.cell ld4 id; have eld5 := hSw.cell ld5 id; have eld6 := hSw.cell ld6 id; have eld7 := hSw.cell ld7 id; have eld8 := hSw.cell ld8 id; have eld9 := hSw.cell ld9 id; have en0 := hSw.cell n0 id; have en1 := hSw.cell n1 id; have en2 := hSw.cell n2 id; have en3 := hSw.cell n3 id; have en4 := hSw.cell n4 id; have en5 := hSw.cell n5 id; have en6 := hSw.cell n6 id; have en7 := hSw.cell n7 id; have en8 := hSw.cell n8 id; have en9 := hSw.cell n9 id; have z1 := Z1.out; have z2 := Z2.out; go_simp <;> with_reducible rfl)
        try simp only [Act.put, List.setIfInBounds_toArray, List.set_cons_zero, List.set_cons_succ]
        refine wpAnyH_take (i := 5) (oi := { dst := some 57, op := Go.Op.binOp Go.BinOp.neq 3 (Go.Operand.tmp 56) (Go.Operand.const (Go.Value.int Go.IntKind.i64 1)) 3, type := 4, pos := "more.go:145", after := #[{ on := 4, ground := Go.Ground.data }, { on := 2, ground := Go.Ground.guard }], guard := some (2, false) }) (v := ?v6) rfl (by kernel_rfl) (by kernel_rfl) (by kernel_rfl) (fun _ _ _ h => h) (Or.inl ⟨by rfl, ?hy6⟩) (by assumption) ?rest6
        case hy6 => (intro w hSw; (try dsimp only at hSw); have eld0 := hSw.cell ld0 id; have eld1 := hSw.cell ld1 id; have eld2 := hSw.cell ld2 id; have eld3 := hSw.cell ld3 id; have eld4 := hSw.cell ld4 id; have eld5 := hSw.cell ld5 id; have eld6 := hSw.cell ld6 id; have eld7 := hSw.cell ld7 id; have eld8 := hSw.cell ld8 id; have eld9 := hSw.cell ld9 id; have en0 := hSw.cell n0 id; have en1 := hSw.cell n1 id; have en2 := hSw.cell n2 id; have en3 := hSw.cell n3 id; have en4 := hSw.cell n4 id; have en5 := hSw.cell n5 id; have en6 := hSw.cell n6 id; have en7 := hSw.cell n7 id; have en8 := hSw.cell n8 id; have en9 := hSw.cell n9 id; have z1 := Z1.out; have z2 := Z2.out; go_simp <;> with_reducible rfl)
        try simp only [Act.put, List.setIfInBounds_toArray, List.set_cons_zero, List.set_cons_succ]
        refine wpAnyH_take (i := 6) (oi := { dst := some 58, op := Go.Op.pick (Go.Operand.tmp 54) (Go.Operand.const (Go.Value.bool true)) (Go.Operand.tmp 57), type := 4, pos := "more.go:145", after := #[{ on := 2, ground := Go.Ground.data }, { on := 5, ground := Go.Ground.data }], guard := none }) (v := ?v7) rfl (by kernel_rfl) (by kernel_rfl) (by kernel_rfl) (fun _ _ _ h => h) (Or.inl ⟨by rfl, ?hy7⟩) (by assumption) ?rest7
        case hy7 => (intro w hSw; (try dsimp only at hSw); have eld0 := hSw.cell ld0 id; have eld1 := hSw.cell ld1 id; have eld2 := hSw.cell ld2 id; have eld3 := hSw.cell ld3 id; have eld4 := hSw.cell ld4 id; have eld5 := hSw.cell ld5 id; have eld6 := hSw.cell ld6 id; have eld7 := hSw.cell ld7 id; have eld8 := hSw.cell ld8 id; have eld9 := hSw.cell ld9 id; have en0 := hSw.cell n0 id; have en1 := hSw.cell n1 id; have en2 := hSw.cell n2 id; have en3 := hSw.cell n3 id; have en4 := hSw.cell n4 id; have en5 := hSw.cell n5 id; have en6 := hSw.cell n6 id; have en7 := hSw.cell n7 id; have en8 := hSw.cell n8 id; have en9 := hSw.cell n9 id; have z1 := Z1.out; have z2 := Z2.out; go_simp <;> with_reducible rfl)
        try simp only [Act.put, List.setIfInBounds_toArray, List.set_cons_zero, List.set_cons_succ]
        refine wpAnyH_take (i := 7) (oi := { dst := some 59, op := Go.Op.move (Go.Operand.tmp 58), type := 4, pos := "more.go:145", after := #[{ on := 6, ground := Go.Ground.data }, { on := 2, ground := Go.Ground.chain }], guard := none }) (v := ?v8) rfl (by kernel_rfl) (by kernel_rfl) (by kernel_rfl) (fun _ _ _ h => h) (Or.inl ⟨by rfl, ?hy8⟩) (by assumption) ?rest8
        case hy8 => (intro w hSw; (try dsimp only at hSw); have eld0 := hSw.cell ld0 id; have eld1 := hSw.cell ld1 id; have eld2 := hSw.cell ld2 id; have eld3 := hSw.cell ld3 id; have eld4 := hSw.cell ld4 id; have eld5 := hSw.cell ld5 id; have eld6 := hSw.cell ld6 id; have eld7 := hSw.cell ld7 id; have eld8 := hSw.cell ld8 id; have eld9 := hSw.cell ld9 id; have en0 := hSw.cell n0 id; have en1 := hSw.cell n1 id; have en2 := hSw.cell n2 id; have en3 := hSw.cell n3 id; have en4 := hSw.cell n4 id; have en5 := hSw.cell n5 id; have en6 := hSw.cell n6 id; have en7 := hSw.cell n7 id; have en8 := hSw.cell n8 id; have en9 := hSw.cell n9 id; have z1 := Z1.out; have z2 := Z2.out; go_simp <;> with_reducible rfl)
        try simp only [Act.put, List.setIfInBounds_toArray, List.set_cons_zero, List.set_cons_succ]
        refine wpAnyH_take (i := 8) (oi := { dst := some 60, op := Go.Op.move (Go.Operand.tmp 11), type := 33, pos := "more.go:145", after := #[{ on := 7, ground := Go.Ground.guard }], guard := some (7, false) }) (v := ?v9) rfl (by kernel_rfl) (by kernel_rfl) (by kernel_rfl) (fun _ _ _ h => h) (Or.inl ⟨by rfl, ?hy9⟩) (by assumption) ?rest9
        case hy9 => (intro w hSw; (try dsimp only at hSw); have eld0 := hSw.cell ld0 id; have eld1 := hSw.cell ld1 id; have eld2 := hSw.cell ld2 id; have eld3 := hSw.cell ld3 id; have eld4 := hSw.cell ld4 id; have eld5 := hSw.cell ld5 id; have eld6 := hSw.cell ld6 id; have eld7 := hSw.cell ld7 id; have eld8 := hSw.cell ld8 id; have eld9 := hSw.cell ld9 id; have en0 := hSw.cell n0 id; have en1 := hSw.cell n1 id; have en2 := hSw.cell n2 id; have en3 := hSw.cell n3 id; have en4 := hSw.cell n4 id; have en5 := hSw.cell n5 id; have en6 := hSw.cell n6 id; have en7 := hSw.cell n7 id; have en8 := hSw.cell n8 id; have en9 := hSw.cell n9 id; have z1 := Z1.out; have z2 := Z2.out; go_simp <;> with_reducible rfl)
        try simp only [Act.put, List.setIfInBounds_toArray, List.set_cons_zero, List.set_cons_succ]
        refine wpAnyH_take (i := 9) (oi := { dst := some 61, op := Go.Op.indexAddr 33 (Go.Operand.tmp 60) (Go.Operand.const (Go.Value.int Go.IntKind.i64 0)), type := 0, pos := "more.go:145", after := #[{ on := 8, ground := Go.Ground.data }, { on := 7, ground := Go.Ground.guard }], guard := some (7, false) }) (v := ?v10) rfl (by kernel_rfl) (by kernel_rfl) (by kernel_rfl) (fun _ _ _ h => h) (Or.inl ⟨by rfl, ?hy10⟩) (by assumption) ?rest10
        case hy10 => (intro w hSw; (try dsimp only at hSw); have eld0 := hSw.cell ld0 id; have eld1 := hSw.cell ld1 id; have eld2 := hSw.cell ld2 id; have eld3 := hSw.cell ld3 id; have eld4 := hSw.cell ld4 id; have eld5 := hSw.cell ld5 id; have eld6 := hSw.cell ld6 id; have eld7 := hSw.cell ld7 id; have eld8 := hSw.cell ld8 id; have eld9 := hSw.cell ld9 id; have en0 := hSw.cell n0 id; have en1 := hSw.cell n1 id; have en2 := hSw.cell n2 id; have en3 := hSw.cell n3 id; have en4 := hSw.cell n4 id; have en5 := hSw.cell n5 id; have en6 := hSw.cell n6 id; have en7 := hSw.cell n7 id; have en8 := hSw.cell n8 id; have en9 := hSw.cell n9 id; have z1 := Z1.out; have z2 := Z2.out; go_simp <;> with_reducible rfl)
        try simp only [Act.put, List.setIfInBounds_toArray, List.set_cons_zero, List.set_cons_succ]
        refine wpAnyH_take (i := 10) (oi := { dst := some 62, op := Go.Op.load 27 (Go.Operand.tmp 61), type := 27, pos := "more.go:145", after := #[{ on := 9, ground := Go.Ground.data }, { on := 7, ground := Go.Ground.guard }], guard := some (7, false) }) (v := ?v11) rfl (by kernel_rfl) (by kernel_rfl) (by kernel_rfl) (fun _ _ _ h => h) (Or.inl ⟨by rfl, ?hy11⟩) (by assumption) ?rest11
        case hy11 => (intro w hSw; (try dsimp only at hSw); have eld0 := hSw.cell ld0 id; have eld1 := hSw.cell ld1 id; have eld2 := hSw.cell ld2 id; have eld3 := hSw.cell ld3 id; have eld4 := hSw.cell ld4 id; have eld5 := hSw.cell ld5 id; have eld6 := hSw.cell ld6 id; have eld7 := hSw.cell ld7 id; have eld8 := hSw.cell ld8 id; have eld9 := hSw.cell ld9 id; have en0 := hSw.cell n0 id; have en1 := hSw.cell n1 id; have en2 := hSw.cell n2 id; have en3 := hSw.cell n3 id; have en4 := hSw.cell n4 id; have en5 := hSw.cell n5 id; have en6 := hSw.cell n6 id; have en7 := hSw.cell n7 id; have en8 := hSw.cell n8 id; have en9 := hSw.cell n9 id; have z1 := Z1.out; have z2 := Z2.out; go_simp <;> with_reducible rfl)
        try simp only [Act.put, List.setIfInBounds_toArray, List.set_cons_zero, List.set_cons_succ]
        refine wpAnyH_take (i := 12) (oi := { dst := some 64, op := Go.Op.move (Go.Operand.tmp 8), type := 33, pos := "more.go:145", after := #[{ on := 7, ground := Go.Ground.guard }], guard := some (7, false) }) (v := ?v12) rfl (by kernel_rfl) (by kernel_rfl) (by kernel_rfl) (fun _ _ _ h => h) (Or.inl ⟨by rfl, ?hy12⟩) (by assumption) ?rest12
        case hy12 => (intro w hSw; (try dsimp only at hSw); have eld0 := hSw.cell ld0 id; have eld1 := hSw.cell ld1 id; have eld2 := hSw.cell ld2 id; have eld3 := hSw.cell ld3 id; have eld4 := hSw.cell ld4 id; have eld5 := hSw.cell ld5 id; have eld6 := hSw.cell ld6 id; have eld7 := hSw.cell ld7 id; have eld8 := hSw.cell ld8 id; have eld9 := hSw.cell ld9 id; have en0 := hSw.cell n0 id; have en1 := hSw.cell n1 id; have en2 := hSw.cell n2 id; have en3 := hSw.cell n3 id; have en4 := hSw.cell n4 id; have en5 := hSw.cell n5 id; have en6 := hSw.cell n6 id; have en7 := hSw.cell n7 id; have en8 := hSw.cell n8 id; have en9 := hSw.cell n9 id; have z1 := Z1.out; have z2 := Z2.out; go_simp <;> with_reducible rfl)
        try simp only [Act.put, List.setIfInBounds_toArray, List.set_cons_zero, List.set_cons_succ]
        refine wpAnyH_take (i := 13) (oi := { dst := some 65, op := Go.Op.move (Go.Operand.tmp 10), type := 3, pos := "more.go:145", after := #[{ on := 7, ground := Go.Ground.guard }], guard := some (7, false) }) (v := ?v13) rfl (by kernel_rfl) (by kernel_rfl) (by kernel_rfl) (fun _ _ _ h => h) (Or.inl ⟨by rfl, ?hy13⟩) (by assumption) ?rest13
        case hy13 => (intro w hSw; (try dsimp only at hSw); have eld0 := hSw.cell ld0 id; have eld1 := hSw.cell ld1 id; have eld2 := hSw.cell ld2 id; have eld3 := hSw.cell ld3 id; have eld4 := hSw.cell ld4 id; have eld5 := hSw.cell ld5 id; have eld6 := hSw.cell ld6 id; have eld7 := hSw.cell ld7 id; have eld8 := hSw.cell ld8 id; have eld9 := hSw.cell ld9 id; have en0 := hSw.cell n0 id; have en1 := hSw.cell n1 id; have en2 := hSw.cell n2 id; have en3 := hSw.cell n3 id; have en4 := hSw.cell n4 id; have en5 := hSw.cell n5 id; have en6 := hSw.cell n6 id; have en7 := hSw.cell n7 id; have en8 := hSw.cell n8 id; have en9 := hSw.cell n9 id; have z1 := Z1.out; have z2 := Z2.out; go_simp <;> with_reducible rfl)
        try simp only [Act.put, List.setIfInBounds_toArray, List.set_cons_zero, List.set_cons_succ]
        refine wpAnyH_take (i := 14) (oi := { dst := some 66, op := Go.Op.indexAddr 33 (Go.Operand.tmp 64) (Go.Operand.tmp 65), type := 0, pos := "more.go:145", after := #[{ on := 12, ground := Go.Ground.data }, { on := 13, ground := Go.Ground.data }, { on := 7, ground := Go.Ground.guard }], guard := some (7, false) }) (v := ?v14) rfl (by kernel_rfl) (by kernel_rfl) (by kernel_rfl) (fun _ _ _ h => h) (Or.inl ⟨by rfl, ?hy14⟩) (by assumption) ?rest14
        case hy14 => (intro w hSw; (try dsimp only at hSw); have eld0 := hSw.cell ld0 id; have eld1 := hSw.cell ld1 id; have eld2 := hSw.cell ld2 id; have eld3 := hSw.cell ld3 id; have eld4 := hSw.cell ld4 id; have eld5 := hSw.cell ld5 id; have eld6 := hSw.cell ld6 id; have eld7 := hSw.cell ld7 id; have eld8 := hSw.cell ld8 id; have eld9 := hSw.cell ld9 id; have en0 := hSw.cell n0 id; have en1 := hSw.cell n1 id; have en2 := hSw.cell n2 id; have en3 := hSw.cell n3 id; have en4 := hSw.cell n4 id; have en5 := hSw.cell n5 id; have en6 := hSw.cell n6 id; have en7 := hSw.cell n7 id; have en8 := hSw.cell n8 id; have en9 := hSw.cell n9 id; have z1 := Z1.out; have z2 := Z2.out; go_simp <;> with_reducible rfl)
        try simp only [Act.put, List.setIfInBounds_toArray, List.set_cons_zero, List.set_cons_succ]
        refine wpAnyH_take (i := 15) (oi := { dst := some 67, op := Go.Op.load 27 (Go.Operand.tmp 66), type := 27, pos := "more.go:145", after := #[{ on := 14, ground := Go.Ground.data }, { on := 7, ground := Go.Ground.guard }], guard := some (7, false) }) (v := ?v15) rfl (by kernel_rfl) (by kernel_rfl) (by kernel_rfl) (fun _ _ _ h => h) (Or.inl ⟨by rfl, ?hy15⟩) (by assumption) ?rest15
        case hy15 => (intro w hSw; (try dsimp only at hSw); have eld0 := hSw.cell ld0 id; have eld1 := hSw.cell ld1 id; have eld2 := hSw.cell ld2 id; have eld3 := hSw.cell ld3 id; have eld4 := hSw.cell ld4 id; have eld5 := hSw.cell ld5 id; have eld6 := hSw.cell ld6 id; have eld7 := hSw.cell ld7 id; have eld8 := hSw.cell ld8 id; have eld9 := hSw.cell ld9 id; have en0 := hSw.cell n0 id; have en1 := hSw.cell n1 id; have en2 := hSw.cell n2 id; have en3 := hSw.cell n3 id; have en4 := hSw.cell n4 id; have en5 := hSw.cell n5 id; have en6 := hSw.cell n6 id; have en7 := hSw.cell n7 id; have en8 := hSw.cell n8 id; have en9 := hSw.cell n9 id; have z1 := Z1.out; have z2 := Z2.out; go_simp <;> with_reducible rfl)
        try simp only [Act.put, List.setIfInBounds_toArray, List.set_cons_zero, List.set_cons_succ]
        refine wpAnyH_ready (rs := [11]) (by kernel_rfl) (by simp) ?_
        refine AllReadyH.cons (o := { dst := some 63, op := Go.Op.call { callee := Go.Callee.value (Go.Operand.func 14), args := #[Go.Operand.tmp 62], argTypes := #[27] }, type := 31, pos := "more.go:145", after := #[{ on := 10, ground := Go.Ground.data }, { on := 7, ground := Go.Ground.chain }, { on := 7, ground := Go.Ground.guard }], guard := some (7, false) }) rfl (fun K hK => ?_) AllReadyH.nil
        go_simp
        refine (of10_any _ (⟨otos, oid, odf, omf, ooff, ottl, opr, osrc, odst, ob⟩ : Pk) A9 c9 _ HOK.out (HOB8.out.keep hS0 (fun _ _ _ _ => id)).rb).mono ?_
        rintro e wx ⟨rfl, hx⟩
        have hS1 := hS0.trans hx
        clear hx
        refine hK.out _ _ hS1 (fun _ => ?_)
        refine wpAnyH_ready (rs := [16]) (by kernel_rfl) (by simp) ?_
        refine AllReadyH.cons (o := { dst := some 68, op := Go.Op.call { callee := Go.Callee.value (Go.Operand.func 14), args := #[Go.Operand.tmp 67], argTypes := #[27] }, type := 31, pos := "more.go:145", after := #[{ on := 15, ground := Go.Ground.data }, { on := 11, ground := Go.Ground.chain }, { on := 7, ground := Go.Ground.guard }], guard := some (7, false) }) rfl (fun K hK => ?_) AllReadyH.nil
        go_simp
        refine (of10_any _ (⟨otos, oid, odf, omf, ooff, ottl, opr, osrc, odst, ob⟩ : Pk) oA oc _ HOK.out (HORS.out.keep hS1 (fun _ _ _ _ => id)).rb).mono ?_
        rintro e wy ⟨rfl, hx⟩
        have hS2 := hS1.trans hx
        clear hx
        refine hK.out _ _ hS2 (fun _ => ?_)
        refine wpAnyH_take (i := 17) (oi := { dst := some 69, op := Go.Op.binOp Go.BinOp.neq 31 (Go.Operand.tmp 63) (Go.Operand.tmp 68) 31, type := 4, pos := "more.go:145", after := #[{ on := 11, ground := Go.Ground.data }, { on := 16, ground := Go.Ground.data }, { on := 7, ground := Go.Ground.guard }], guard := some (7, false) }) (v := ?v16) rfl (by kernel_rfl) (by kernel_rfl) (by kernel_rfl) (fun _ _ _ h => h) (Or.inl ⟨by rfl, ?hy16⟩) (by assumption) ?rest16
        case hy16 => (intro w hSw; (try dsimp only at hSw); have eld0 := hSw.cell ld0 id; have eld1 := hSw.cell ld1 id; have eld2 := hSw.cell ld2 id; have eld3 := hSw.cell ld3 id; have eld4 := hSw.cell ld4 id; have eld5 := hSw.cell ld5 id; have eld6 := hSw.cell ld6 id; have eld7 := hSw.cell ld7 id; have eld8 := hSw.cell ld8 id; have eld9 := hSw.cell ld9 id; have en0 := hSw.cell n0 id; have en1 := hSw.cell n1 id; have en2 := hSw.cell n2 id; have en3 := hSw.cell n3 id; have en4 := hSw.cell n4 id; have en5 := hSw.cell n5 id; have en6 := hSw.cell n6 id; have en7 := hSw.cell n7 id; have en8 := hSw.cell n8 id; have en9 := hSw.cell n9 id; have z1 := Z1.out; have z2 := Z2.out; go_simp <;> with_reducible rfl)
        try simp only [Act.put, List.setIfInBounds_toArray, List.set_cons_zero, List.set_cons_succ]
        refine wpAnyH_take (i := 18) (oi := { dst := some 70, op := Go.Op.pick (Go.Operand.tmp 59) (Go.Operand.const (Go.Value.bool true)) (Go.Operand.tmp 69), type := 4, pos := "more.go:145", after := #[{ on := 7, ground := Go.Ground.data }, { on := 17, ground := Go.Ground.data }], guard := none }) (v := ?v17) rfl (by kernel_rfl) (by kernel_rfl) (by kernel_rfl) (fun _ _ _ h => h) (Or.inl ⟨by rfl, ?hy17⟩) (by assumption) ?rest17
        case hy17 => (intro w hSw; (try dsimp only at hSw); have eld0 := hSw.cell ld0 id; have eld1 := hSw.cell ld1 id; have eld2 := hSw.cell ld2 id; have eld3 := hSw.cell ld3 id; have eld4 := hSw.cell ld4 id; have eld5 := hSw.cell ld5 id; have eld6 := hSw.cell ld6 id; have eld7 := hSw.cell ld7 id; have eld8 := hSw.cell ld8 id; have eld9 := hSw.cell ld9 id; have en0 := hSw.cell n0 id; have en1 := hSw.cell n1 id; have en2 := hSw.cell n2 id; have en3 := hSw.cell n3 id; have en4 := hSw.cell n4 id; have en5 := hSw.cell n5 id; have en6 := hSw.cell n6 id; have en7 := hSw.cell n7 id; have en8 := hSw.cell n8 id; have en9 := hSw.cell n9 id; have z1 := Z1.out; have z2 := Z2.out; go_simp <;> with_reducible rfl)
        try simp only [Act.put, List.setIfInBounds_toArray, List.set_cons_zero, List.set_cons_succ]
        refine wpAnyH_done (by kernel_rfl) ?_ _
        have hx := hS2
        clear hS0 hS1 hS2 ld0 ld1 ld2 ld3 ld4 ld5 ld6 ld7 ld8 ld9 n0 n1 n2 n3 n4 n5 n6 n7 n8 n9
        have HX_wy := Lib.hid hx
        clear hx
        go_wp2_with fail
        go_roundg (n - (i + 1))
        case measure => omega
        case rel => exact ⟨i + 1, by simp, by omega, Nat.le_refl _, ((HX_wr.out.trans HX_ws.out).trans HX_wy.out)⟩
      · obtain rfl : i = n := by omega
        replace B_bp := Lib.hid ((HX_wr.out.block bp (row_lt B_bp.out) id).trans B_bp.out)
        have cbp0 := row_cell (k := 0) (v := .int .u8 xtos) B_bp.out rfl
        have cbp1 := row_cell (k := 1) (v := .int .u16 xid) B_bp.out rfl
        have cbp2 := row_cell (k := 2) (v := .bool false) B_bp.out rfl
        have cbp3 := row_cell (k := 3) (v := .bool xmf) B_bp.out rfl
        have cbp4 := row_cell (k := 4) (v := .int .i64 xoff) B_bp.out rfl
        have cbp5 := row_cell (k := 5) (v := .int .u8 xttl) B_bp.out rfl
        have cbp6 := row_cell (k := 6) (v := .int .u8 xpr) B_bp.out rfl
        have cbp7 := row_cell (k := 7) (v := .int .u32 xsrc) B_bp.out rfl
        have cbp8 := row_cell (k := 8) (v := .int .u32 xdst) B_bp.out rfl
        have cbp9 := row_cell (k := 9) (v := .slice (some xA) xl.length xc) B_bp.out rfl
        have HLN := Lib.hid (show (parts (⟨xtos, xid, false, xmf, xoff, xttl, xpr, xsrc, xdst, xl⟩ : Pk) M).length = i from HN1.out)
        have hk2 := HK2E.out
        obtain ⟨M2, hM2⟩ : ∃ M2 : Int, M2 = M + (k2 : Int) := ⟨_, rfl⟩
        have hw2 : wrap64 (M + (k2 : Int)) = M2 := by
          rw [hM2]
          have h1 := HKB.out
          have h2 := HMB.out
          have h3 := HM68.out
          unfold wrap64
          omega
        have HS3 : Hid (spe (⟨xtos, xid, false, xmf, xoff, xttl, xpr, xsrc, xdst, xl⟩ : Pk) M2 = none) := by rw [hM2]; exact HS2.out
        have HMO3 : Hid ((parts (⟨xtos, xid, false, xmf, xoff, xttl, xpr, xsrc, xdst, xl⟩ : Pk) M2).length ≤ (parts (⟨xtos, xid, false, xmf, xoff, xttl, xpr, xsrc, xdst, xl⟩ : Pk) M).length ∧ 1 ≤ (parts (⟨xtos, xid, false, xmf, xoff, xttl, xpr, xsrc, xdst, xl⟩ : Pk) M2).length) := by rw [hM2]; exact HMO.out
        clear OKX HPD HAT HON HOP HOBS HM68 HMB hM2 HN1 HK2E HS2 HMO HKB
        go_upto_region 14 with fail
        go_wp2_with fail
        clear hk2
        refine (split_yes _ (⟨xtos, xid, false, xmf, xoff, xttl, xpr, xsrc, xdst, xl⟩ : Pk) (some xA) xc M2 wr (OB.keep (OB.keepB (OB.keepB HO_x.out HX_w4.out (by omega)) HX_w5.out (by omega)) (HX_w6.out.trans HX_wr.out) (fun _ _ _ _ => id)).rb (fun h => by cases h) hl4 HS3.out).mono ?_
        rintro e wz ⟨A7, c7, os7, rfl, hos7, hop7, hobs7, hx⟩
        obtain ⟨n7, hn7⟩ : ∃ n7, os7.length = n7 := ⟨_, rfl⟩
        have hm1 : n7 ≤ i ∧ 1 ≤ n7 := by
          have h1 := HMO3.out
          have h2 : (parts (⟨xtos, xid, false, xmf, xoff, xttl, xpr, xsrc, xdst, xl⟩ : Pk) M2).length = n7 := by rw [← hos7, List.length_map, hn7]
          have h3 := HLN.out
          omega
        have hm2 : (n7 : Int) ≤ (i : Int) := by omega
        have hm3 : (0 : Int) < (n7 : Int) := by omega
        have hm4 : 0 < n7 := by omega
        have hm5 : n7 ≤ i := by omega
        rw [hn7]
        clear hos7 hop7 hobs7 hn7 hm1 cbp0 cbp1 cbp2 cbp3 cbp4 cbp5 cbp6 cbp7 cbp8 cbp9
        have HX_wz := Lib.hid hx
        clear hx
        go_wp2_with fail
        go_ret
        exact ⟨rfl, (((((((HX_w1.out.trans HX_w2.out).trans HX_w3.out).andThen HX_w4.out (fun i hi e => by have := hb_bp; omega)).andThen HX_w5.out (fun i hi e => by have := hb_bp; omega)).trans HX_w6.out).trans HX_wr.out).trans HX_wz.out)⟩
end Go.Proofs.YtabjihchcmjdmaaDoor
