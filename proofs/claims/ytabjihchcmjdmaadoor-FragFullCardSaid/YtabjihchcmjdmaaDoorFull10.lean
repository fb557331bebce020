/-
  The walk of FragFull. By an AI agent.
-/
import Derived.Lib.SlBytesConst
import Derived.Test.YtabjihchcmjdmaaDoorGh10
import Derived.Test.YtabjihchcmjdmaaDoorFul10
import Derived.Test.YtabjihchcmjdmaaDoorGb10
namespace Go.Proofs.YtabjihchcmjdmaaDoor
open Go.RowKit

set_option maxRecDepth 100000 in
set_option maxHeartbeats 16000000 in
theorem full10_any (p : Pk) (A : Option Addr) (c : Nat) (w : World) (ok : p.ok) (hp : RB w (fun _ => True) (.slice A p.b.length c) p.b) (hg : ET w) :
    Calls Tryd.prog 10 #[pkv p (.slice A p.b.length c)] w fun e w' => e = .returned (.bool true) ∧ Ex (fun _ => False) w w' := by
  obtain ⟨i0, hi, hz0, hz1, hz2⟩ := info_parts Tryd.info5
  have HI := Lib.hid (And.intro hi (And.intro hz0 (And.intro hz1 hz2)))
  clear hi hz0 hz1 hz2
  obtain ⟨xtos, xid, xdf, xmf, xoff, xttl, xpr, xsrc, xdst, xb⟩ := p
  simp only at hp
  have HG := Lib.hid hg
  have HP := Lib.hid hp
  have OKP := Lib.hid ok
  clear hp ok hg
  show Calls Tryd.prog 10 #[.agg #[.int .u8 xtos, .int .u16 xid, .bool xdf, .bool xmf, .int .i64 xoff, .int .u8 xttl, .int .u8 xpr, .int .u32 xsrc, .int .u32 xdst, .slice A xb.length c]] w _
  go_enter Tryd.func10, Tryd.ntmps10
  go_upto_region 1 with fail
  have hx : Ex (fun _ => False) w (w.alloc (.cells #[.int .u8 xtos, .int .u16 xid, .bool xdf, .bool xmf, .int .i64 xoff, .int .u8 xttl, .int .u8 xpr, .int .u32 xsrc, .int .u32 xdst, .slice A xb.length c] 27)) := (Ex.refl _ w).alloc _
  have hb : (w.alloc (.cells #[.int .u8 xtos, .int .u16 xid, .bool xdf, .bool xmf, .int .i64 xoff, .int .u8 xttl, .int .u8 xpr, .int .u32 xsrc, .int .u32 xdst, .slice A xb.length c] 27)).heap[w.heap.size]? = some (.cells #[.int .u8 xtos, .int .u16 xid, .bool xdf, .bool xmf, .int .i64 xoff, .int .u8 xttl, .int .u8 xpr, .int .u32 xsrc, .int .u32 xdst, .slice A xb.length c] 27) := heap_alloc_new w _
  obtain ⟨bp, hbp⟩ : ∃ bp, bp = w.heap.size := ⟨_, rfl⟩
  have hb_bp : w.heap.size ≤ bp := by omega
  rw [← hbp] at hb
  try simp only [← hbp]
  generalize w.alloc (.cells #[.int .u8 xtos, .int .u16 xid, .bool xdf, .bool xmf, .int .i64 xoff, .int .u8 xttl, .int .u8 xpr, .int .u32 xsrc, .int .u32 xdst, .slice A xb.length c] 27) = w1 at hx hb ⊢
  clear hbp
  have HX_w1 := Lib.hid hx
  clear hx
  have B_bp := Lib.hid hb
  clear hb
  have hlp := row_lt B_bp.out
  go_wp2_with fail
  refine (shown10_any w1 (HG.out.keep HX_w1.out id)).mono ?_
  rintro e w2 ⟨rfl, hx⟩
  have hz12 := hx.size
  have HX_w2 := Lib.hid hx
  clear hx
  replace B_bp := Lib.hid ((HX_w2.out.block bp (row_lt B_bp.out) id).trans B_bp.out)
  have cbp0 := row_cell (k := 0) (v := .int .u8 xtos) B_bp.out rfl
  have cbp1 := row_cell (k := 1) (v := .int .u16 xid) B_bp.out rfl
  have cbp2 := row_cell (k := 2) (v := .bool xdf) B_bp.out rfl
  have cbp3 := row_cell (k := 3) (v := .bool xmf) B_bp.out rfl
  have cbp4 := row_cell (k := 4) (v := .int .i64 xoff) B_bp.out rfl
  have cbp5 := row_cell (k := 5) (v := .int .u8 xttl) B_bp.out rfl
  have cbp6 := row_cell (k := 6) (v := .int .u8 xpr) B_bp.out rfl
  have cbp7 := row_cell (k := 7) (v := .int .u32 xsrc) B_bp.out rfl
  have cbp8 := row_cell (k := 8) (v := .int .u32 xdst) B_bp.out rfl
  have cbp9 := row_cell (k := 9) (v := .slice A xb.length c) B_bp.out rfl
  have fbp0 := row_frozen B_bp.out 0
  have fbp1 := row_frozen B_bp.out 1
  have fbp2 := row_frozen B_bp.out 2
  have fbp3 := row_frozen B_bp.out 3
  have fbp4 := row_frozen B_bp.out 4
  have fbp5 := row_frozen B_bp.out 5
  have fbp6 := row_frozen B_bp.out 6
  have fbp7 := row_frozen B_bp.out 7
  have fbp8 := row_frozen B_bp.out 8
  have fbp9 := row_frozen B_bp.out 9
  go_wp2_with fail
  refine (few10_any (fun _ => True) (⟨xtos, xid, xdf, xmf, xoff, xttl, xpr, xsrc, xdst, xb⟩ : Pk) A c w2 (RB.keep HP.out (HX_w1.out.trans HX_w2.out) (fun _ _ _ => id))).mono ?_
  rintro e w3 ⟨xA, xc, rfl, ho, hx⟩
  obtain ⟨xl, hxl⟩ : ∃ l, l = xb.take 2000 := ⟨_, rfl⟩
  have hfw : (⟨xtos, xid, xdf, xmf, xoff, xttl, xpr, xsrc, xdst, xb⟩ : Pk).few 2000 = (⟨xtos, xid, xdf, xmf, xoff, xttl, xpr, xsrc, xdst, xl⟩ : Pk) := by rw [hxl]; rfl
  rw [hfw] at ho ⊢
  have hxn : xl.length ≤ 2000 := by rw [hxl, List.length_take]; omega
  have hv : pkv (⟨xtos, xid, xdf, xmf, xoff, xttl, xpr, xsrc, xdst, xl⟩ : Pk) (.slice (some xA) (⟨xtos, xid, xdf, xmf, xoff, xttl, xpr, xsrc, xdst, xl⟩ : Pk).b.length xc) = .agg #[.int .u8 xtos, .int .u16 xid, .bool xdf, .bool xmf, .int .i64 xoff, .int .u8 xttl, .int .u8 xpr, .int .u32 xsrc, .int .u32 xdst, .slice (some xA) xl.length xc] := rfl
  rw [hv]
  have ho' : OB w3 w2.heap.size (.slice (some xA) xl.length xc) xl := ho
  clear hv hfw hxl ho cbp0 cbp1 cbp2 cbp3 cbp4 cbp5 cbp6 cbp7 cbp8 cbp9 fbp0 fbp1 fbp2 fbp3 fbp4 fbp5 fbp6 fbp7 fbp8 fbp9
  have HX_w3 := Lib.hid hx
  clear hx
  have HO_x := Lib.hid ho'
  clear ho'
  have hbl_bp := row_lt B_bp.out
  replace B_bp := Lib.hid ((HX_w3.out.block bp (row_lt B_bp.out) id).trans B_bp.out)
  have cbp0 := row_cell (k := 0) (v := .int .u8 xtos) B_bp.out rfl
  have cbp1 := row_cell (k := 1) (v := .int .u16 xid) B_bp.out rfl
  have cbp2 := row_cell (k := 2) (v := .bool xdf) B_bp.out rfl
  have cbp3 := row_cell (k := 3) (v := .bool xmf) B_bp.out rfl
  have cbp4 := row_cell (k := 4) (v := .int .i64 xoff) B_bp.out rfl
  have cbp5 := row_cell (k := 5) (v := .int .u8 xttl) B_bp.out rfl
  have cbp6 := row_cell (k := 6) (v := .int .u8 xpr) B_bp.out rfl
  have cbp7 := row_cell (k := 7) (v := .int .u32 xsrc) B_bp.out rfl
  have cbp8 := row_cell (k := 8) (v := .int .u32 xdst) B_bp.out rfl
  have cbp9 := row_cell (k := 9) (v := .slice A xb.length c) B_bp.out rfl
  have fbp0 := row_frozen B_bp.out 0
  have fbp1 := row_frozen B_bp.out 1
  have fbp2 := row_frozen B_bp.out 2
  have fbp3 := row_frozen B_bp.out 3
  have fbp4 := row_frozen B_bp.out 4
  have fbp5 := row_frozen B_bp.out 5
  have fbp6 := row_frozen B_bp.out 6
  have fbp7 := row_frozen B_bp.out 7
  have fbp8 := row_frozen B_bp.out 8
  have fbp9 := row_frozen B_bp.out 9
  go_upto_region 3 with fail
  have r0 : (w3.setCell ⟨bp, 0, none⟩ (.int .u8 xtos)).heap[bp]? = some (.cells #[.int .u8 xtos, .int .u16 xid, .bool xdf, .bool xmf, .int .i64 xoff, .int .u8 xttl, .int .u8 xpr, .int .u32 xsrc, .int .u32 xdst, .slice A xb.length c] 27) := row_set B_bp.out 0 (.int .u8 xtos)
  have r1 : ((w3.setCell ⟨bp, 0, none⟩ (.int .u8 xtos)).setCell ⟨bp, 1, none⟩ (.int .u16 xid)).heap[bp]? = some (.cells #[.int .u8 xtos, .int .u16 xid, .bool xdf, .bool xmf, .int .i64 xoff, .int .u8 xttl, .int .u8 xpr, .int .u32 xsrc, .int .u32 xdst, .slice A xb.length c] 27) := row_set r0 1 (.int .u16 xid)
  clear r0
  have r2 : (((w3.setCell ⟨bp, 0, none⟩ (.int .u8 xtos)).setCell ⟨bp, 1, none⟩ (.int .u16 xid)).setCell ⟨bp, 2, none⟩ (.bool xdf)).heap[bp]? = some (.cells #[.int .u8 xtos, .int .u16 xid, .bool xdf, .bool xmf, .int .i64 xoff, .int .u8 xttl, .int .u8 xpr, .int .u32 xsrc, .int .u32 xdst, .slice A xb.length c] 27) := row_set r1 2 (.bool xdf)
  clear r1
  have r3 : ((((w3.setCell ⟨bp, 0, none⟩ (.int .u8 xtos)).setCell ⟨bp, 1, none⟩ (.int .u16 xid)).setCell ⟨bp, 2, none⟩ (.bool xdf)).setCell ⟨bp, 3, none⟩ (.bool xmf)).heap[bp]? = some (.cells #[.int .u8 xtos, .int .u16 xid, .bool xdf, .bool xmf, .int .i64 xoff, .int .u8 xttl, .int .u8 xpr, .int .u32 xsrc, .int .u32 xdst, .slice A xb.length c] 27) := row_set r2 3 (.bool xmf)
  clear r2
  have r4 : (((((w3.setCell ⟨bp, 0, none⟩ (.int .u8 xtos)).setCell ⟨bp, 1, none⟩ (.int .u16 xid)).setCell ⟨bp, 2, none⟩ (.bool xdf)).setCell ⟨bp, 3, none⟩ (.bool xmf)).setCell ⟨bp, 4, none⟩ (.int .i64 xoff)).heap[bp]? = some (.cells #[.int .u8 xtos, .int .u16 xid, .bool xdf, .bool xmf, .int .i64 xoff, .int .u8 xttl, .int .u8 xpr, .int .u32 xsrc, .int .u32 xdst, .slice A xb.length c] 27) := row_set r3 4 (.int .i64 xoff)
  clear r3
  have r5 : ((((((w3.setCell ⟨bp, 0, none⟩ (.int .u8 xtos)).setCell ⟨bp, 1, none⟩ (.int .u16 xid)).setCell ⟨bp, 2, none⟩ (.bool xdf)).setCell ⟨bp, 3, none⟩ (.bool xmf)).setCell ⟨bp, 4, none⟩ (.int .i64 xoff)).setCell ⟨bp, 5, none⟩ (.int .u8 xttl)).heap[bp]? = some (.cells #[.int .u8 xtos, .int .u16 xid, .bool xdf, .bool xmf, .int .i64 xoff, .int .u8 xttl, .int .u8 xpr, .int .u32 xsrc, .int .u32 xdst, .slice A xb.length c] 27) := row_set r4 5 (.int .u8 xttl)
  clear r4
  have r6 : (((((((w3.setCell ⟨bp, 0, none⟩ (.int .u8 xtos)).setCell ⟨bp, 1, none⟩ (.int .u16 xid)).setCell ⟨bp, 2, none⟩ (.bool xdf)).setCell ⟨bp, 3, none⟩ (.bool xmf)).setCell ⟨bp, 4, none⟩ (.int .i64 xoff)).setCell ⟨bp, 5, none⟩ (.int .u8 xttl)).setCell ⟨bp, 6, none⟩ (.int .u8 xpr)).heap[bp]? = some (.cells #[.int .u8 xtos, .int .u16 xid, .bool xdf, .bool xmf, .int .i64 xoff, .int .u8 xttl, .int .u8 xpr, .int .u32 xsrc, .int .u32 xdst, .slice A xb.length c] 27) := row_set r5 6 (.int .u8 xpr)
  clear r5
  have r7 : ((((((((w3.setCell ⟨bp, 0, none⟩ (.int .u8 xtos)).setCell ⟨bp, 1, none⟩ (.int .u16 xid)).setCell ⟨bp, 2, none⟩ (.bool xdf)).setCell ⟨bp, 3, none⟩ (.bool xmf)).setCell ⟨bp, 4, none⟩ (.int .i64 xoff)).setCell ⟨bp, 5, none⟩ (.int .u8 xttl)).setCell ⟨bp, 6, none⟩ (.int .u8 xpr)).setCell ⟨bp, 7, none⟩ (.int .u32 xsrc)).heap[bp]? = some (.cells #[.int .u8 xtos, .int .u16 xid, .bool xdf, .bool xmf, .int .i64 xoff, .int .u8 xttl, .int .u8 xpr, .int .u32 xsrc, .int .u32 xdst, .slice A xb.length c] 27) := row_set r6 7 (.int .u32 xsrc)
  clear r6
  have r8 : (((((((((w3.setCell ⟨bp, 0, none⟩ (.int .u8 xtos)).setCell ⟨bp, 1, none⟩ (.int .u16 xid)).setCell ⟨bp, 2, none⟩ (.bool xdf)).setCell ⟨bp, 3, none⟩ (.bool xmf)).setCell ⟨bp, 4, none⟩ (.int .i64 xoff)).setCell ⟨bp, 5, none⟩ (.int .u8 xttl)).setCell ⟨bp, 6, none⟩ (.int .u8 xpr)).setCell ⟨bp, 7, none⟩ (.int .u32 xsrc)).setCell ⟨bp, 8, none⟩ (.int .u32 xdst)).heap[bp]? = some (.cells #[.int .u8 xtos, .int .u16 xid, .bool xdf, .bool xmf, .int .i64 xoff, .int .u8 xttl, .int .u8 xpr, .int .u32 xsrc, .int .u32 xdst, .slice A xb.length c] 27) := row_set r7 8 (.int .u32 xdst)
  clear r7
  have r9 : ((((((((((w3.setCell ⟨bp, 0, none⟩ (.int .u8 xtos)).setCell ⟨bp, 1, none⟩ (.int .u16 xid)).setCell ⟨bp, 2, none⟩ (.bool xdf)).setCell ⟨bp, 3, none⟩ (.bool xmf)).setCell ⟨bp, 4, none⟩ (.int .i64 xoff)).setCell ⟨bp, 5, none⟩ (.int .u8 xttl)).setCell ⟨bp, 6, none⟩ (.int .u8 xpr)).setCell ⟨bp, 7, none⟩ (.int .u32 xsrc)).setCell ⟨bp, 8, none⟩ (.int .u32 xdst)).setCell ⟨bp, 9, none⟩ (.slice (some xA) xl.length xc)).heap[bp]? = some (.cells #[.int .u8 xtos, .int .u16 xid, .bool xdf, .bool xmf, .int .i64 xoff, .int .u8 xttl, .int .u8 xpr, .int .u32 xsrc, .int .u32 xdst, .slice (some xA) xl.length xc] 27) := row_set r8 9 (.slice (some xA) xl.length xc)
  clear r8
  have hx : Ex (fun j => j = bp) w3 ((((((((((w3.setCell ⟨bp, 0, none⟩ (.int .u8 xtos)).setCell ⟨bp, 1, none⟩ (.int .u16 xid)).setCell ⟨bp, 2, none⟩ (.bool xdf)).setCell ⟨bp, 3, none⟩ (.bool xmf)).setCell ⟨bp, 4, none⟩ (.int .i64 xoff)).setCell ⟨bp, 5, none⟩ (.int .u8 xttl)).setCell ⟨bp, 6, none⟩ (.int .u8 xpr)).setCell ⟨bp, 7, none⟩ (.int .u32 xsrc)).setCell ⟨bp, 8, none⟩ (.int .u32 xdst)).setCell ⟨bp, 9, none⟩ (.slice (some xA) xl.length xc)) := (((((((((((Ex.refl (fun j => j = bp) w3).setCell (p := ⟨bp, 0, none⟩) (.inl rfl) (.int .u8 xtos)).setCell (p := ⟨bp, 1, none⟩) (.inl rfl) (.int .u16 xid)).setCell (p := ⟨bp, 2, none⟩) (.inl rfl) (.bool xdf)).setCell (p := ⟨bp, 3, none⟩) (.inl rfl) (.bool xmf)).setCell (p := ⟨bp, 4, none⟩) (.inl rfl) (.int .i64 xoff)).setCell (p := ⟨bp, 5, none⟩) (.inl rfl) (.int .u8 xttl)).setCell (p := ⟨bp, 6, none⟩) (.inl rfl) (.int .u8 xpr)).setCell (p := ⟨bp, 7, none⟩) (.inl rfl) (.int .u32 xsrc)).setCell (p := ⟨bp, 8, none⟩) (.inl rfl) (.int .u32 xdst)).setCell (p := ⟨bp, 9, none⟩) (.inl rfl) (.slice (some xA) xl.length xc))
  clear cbp0 cbp1 cbp2 cbp3 cbp4 cbp5 cbp6 cbp7 cbp8 cbp9 fbp0 fbp1 fbp2 fbp3 fbp4 fbp5 fbp6 fbp7 fbp8 fbp9
  generalize ((((((((((w3.setCell ⟨bp, 0, none⟩ (.int .u8 xtos)).setCell ⟨bp, 1, none⟩ (.int .u16 xid)).setCell ⟨bp, 2, none⟩ (.bool xdf)).setCell ⟨bp, 3, none⟩ (.bool xmf)).setCell ⟨bp, 4, none⟩ (.int .i64 xoff)).setCell ⟨bp, 5, none⟩ (.int .u8 xttl)).setCell ⟨bp, 6, none⟩ (.int .u8 xpr)).setCell ⟨bp, 7, none⟩ (.int .u32 xsrc)).setCell ⟨bp, 8, none⟩ (.int .u32 xdst)).setCell ⟨bp, 9, none⟩ (.slice (some xA) xl.length xc)) = w4 at r9 hx ⊢
  replace B_bp := Lib.hid r9
  clear r9
  have HX_w4 := Lib.hid hx
  clear hx
  have HXN := Lib.hid hxn
  clear hxn
  have cbp4 := row_cell (k := 4) (v := .int .i64 xoff) B_bp.out rfl
  have fbp4 := row_frozen B_bp.out 4
  go_upto_region 4 with fail
  have hb : (w4.setCell ⟨bp, 4, none⟩ (.int .i64 0)).heap[bp]? = some (.cells #[.int .u8 xtos, .int .u16 xid, .bool xdf, .bool xmf, .int .i64 0, .int .u8 xttl, .int .u8 xpr, .int .u32 xsrc, .int .u32 xdst, .slice (some xA) xl.length xc] 27) := (row_set B_bp.out 4 (.int .i64 0))
  have hx : Ex (fun j => j = bp) w4 (w4.setCell ⟨bp, 4, none⟩ (.int .i64 0)) := ((Ex.refl (fun j => j = bp) w4).setCell (p := ⟨bp, 4, none⟩) (.inl rfl) (.int .i64 0))
  clear cbp4 fbp4
  generalize (w4.setCell ⟨bp, 4, none⟩ (.int .i64 0)) = w5 at hx hb ⊢
  clear B_bp
  have HX_w5 := Lib.hid hx
  clear hx
  have B_bp := Lib.hid hb
  clear hb
  have cbp3 := row_cell (k := 3) (v := .bool xmf) B_bp.out rfl
  have fbp3 := row_frozen B_bp.out 3
  go_upto_region 5 with fail
  have hb : (w5.setCell ⟨bp, 3, none⟩ (.bool false)).heap[bp]? = some (.cells #[.int .u8 xtos, .int .u16 xid, .bool xdf, .bool false, .int .i64 0, .int .u8 xttl, .int .u8 xpr, .int .u32 xsrc, .int .u32 xdst, .slice (some xA) xl.length xc] 27) := (row_set B_bp.out 3 (.bool false))
  have hx : Ex (fun j => j = bp) w5 (w5.setCell ⟨bp, 3, none⟩ (.bool false)) := ((Ex.refl (fun j => j = bp) w5).setCell (p := ⟨bp, 3, none⟩) (.inl rfl) (.bool false))
  clear cbp3 fbp3
  generalize (w5.setCell ⟨bp, 3, none⟩ (.bool false)) = w6 at hx hb ⊢
  clear B_bp
  have HX_w6 := Lib.hid hx
  clear hx
  have B_bp := Lib.hid hb
  clear hb
  replace HO_x := Lib.hid (OB.keepB (OB.keepB (OB.keepB HO_x.out HX_w4.out (by omega)) HX_w5.out (by omega)) HX_w6.out (by omega))
  have HGL := Lib.hid (HG.out.keep (HX_w1.out.trans HX_w2.out) id)
  have HPG : Hid (0 ≠ bp) := by
    intro e
    have h1 := HG.out
    have h2 := cell_lt h1
    simp only at h2
    omega
  go_wp2_with fail
  refine (new_any 9 w6).mono ?_
  rintro e w7 ⟨rb, bm, rfl, hrs, hx⟩
  obtain ⟨B, hBe⟩ : ∃ B, B = w6.heap.size := ⟨_, rfl⟩
  have hrs2 : RS w7 B rb bm 9 [] := by rw [hBe]; exact hrs
  have HRS0 := Lib.hid hrs2
  have HU0 := Lib.hid (show Up B w6 w7 from hx.mono (fun _ _ h => h.elim))
  have HBE := Lib.hid hBe
  clear hrs hrs2 hx hBe
  go_wp2_with fail
  go_loopg [5, 6, 7, 8] 10 (fun kx s5 _ _ _ wr => ∃ (i : Nat) (G : List Hp), s5 = .int .i64 i ∧ i ≤ 10 ∧ 10 - i ≤ kx ∧ Hid (RS wr B rb bm 9 G) ∧ Hid (FG G (min i 8)) ∧ Hid (Up B w6 wr))
  case atStart => exact ⟨0, [], rfl, Nat.zero_le _, Nat.le_refl _, HRS0, rfl, HU0⟩
  case round =>
    clear HRS0 HU0
    obtain ⟨i, G, rfl, hi10, hkx, HRS, HFG, HU⟩ := hrel
    by_cases hlt : (i : Int) < 10
    · have hu16 : IntKind.u16.wrap (i : Int) = (i : Int) := by
        show (i : Int) % 65536 = _
        omega
      obtain ⟨hi, hz0, hz1, hz2⟩ := HI.out
      go_wp2_with (at_make; refine wpList_make_full _ rfl (.const (.int .i64 8)) (.const (.int .i64 8)) 25 rfl wr.heap.size 5 i0 (.int .u8 0) 1 Tryd.underlying25 hi hz0 hz1 .i64 .i64 (8 : Int) (8 : Int) 8 rfl rfl (by omega) (by omega) (by rw [hz2]; omega) (by simp only [maxLen]; omega) (Nat.le_refl _) ?_; intro ws hown hg8; have hx8 : Ex (fun _ => False) wr ws := (Ex.refl _ wr).grown hg8 (fun k h => by cases h))
      clear hi hz0 hz1 hz2
      have hob : OB ws wr.heap.size (.slice (some ⟨wr.heap.size, 0, none⟩) 8 8) (List.replicate 8 0) := by
        refine ⟨by decide, ?_⟩
        have e : (madeCells (Value.int .u8 0).cells (8 * 1)).toList = (List.replicate 8 (0 : UInt8)).map u8v := by
          rw [show (Value.int .u8 0).cells = #[Value.int .u8 0] from rfl, Nat.mul_one, toList_madeCells_one, List.map_replicate]
          rfl
        have hown1' := hown
        rw [e] at hown1'
        exact hown1'
      by_cases h8 : (i : Int) < 8
      · have hi8 : i < 8 := by omega
        have hfg : FG G i := by have := HFG.out; rwa [Nat.min_eq_left (by omega)] at this
        have hcall := take_new (ff i) (some ⟨wr.heap.size, 0, none⟩) 8 1 B rb bm 9 G ws (HRS.out.keep hx8) (ff_ok (by omega)) (RB.any hob.rb) (fun h => by cases h) (by show (List.replicate 8 (0 : UInt8)).length ≤ _; decide) (ff_right i) (fun h => by cases h.2) (hfg.none (Nat.le_refl _) (by omega)) (by rw [hfg.len]; omega)
        have HC := Lib.hid hcall
        have HFI := Lib.hid hfg
        have HX8 := Lib.hid hx8
        clear hcall hfg hx8 hob hown hg8
        refine HC.out.mono ?_
        rintro e wt ⟨rfl, ⟨h1, hrs, hk, hb, ho⟩, hx⟩
        have HRT := Lib.hid hrs
        have HKO := Lib.hid (And.intro hk ho)
        have HXT := Lib.hid (show Up B w6 wt from (HU.out.andThen HX8.out (fun k _ h => h.elim)).andThen hx (fun k _ h => by have h1 : k = bm := h; have h2 := HRS.out.lo; omega))
        clear HC hrs hk ho hb hx
        go_wp2_with fail
        go_roundg (10 - (i + 1))
        case measure => omega
        case rel =>
          refine ⟨i + 1, G ++ [h1], by simp, by omega, Nat.le_refl _, HRT.out.keep ((Ex.refl _ _).alloc _), ?_, HXT.out.andThen ((Ex.refl (fun _ => False) _).alloc _) (fun k _ h => h.elim)⟩
          show FG _ _
          rw [Nat.min_eq_left (by omega)]
          exact HFI.out.snoc HKO.out.1 HKO.out.2
      · have hfg : FG G 8 := by have := HFG.out; rwa [Nat.min_eq_right (by omega)] at this
        have hcall := take_full (ff i) (some ⟨wr.heap.size, 0, none⟩) 8 1 B rb bm 9 G ws (HRS.out.keep hx8) (ff_ok (by omega)) (RB.any hob.rb) (fun h => by cases h) (by show (List.replicate 8 (0 : UInt8)).length ≤ _; decide) (ff_right i) (fun h => by cases h.2) (hfg.none (by omega) (by omega)) (by rw [hfg.len]; omega)
        have HC := Lib.hid hcall
        have HFI := Lib.hid hfg
        have HX8 := Lib.hid hx8
        clear hcall hfg hx8 hob hown hg8
        refine HC.out.mono ?_
        rintro e wt ⟨t8, y8, rfl, hec, hrs, hx⟩
        have HRT := Lib.hid hrs
        have HXT := Lib.hid (show Up B w6 wt from (HU.out.andThen HX8.out (fun k _ h => h.elim)).andThen hx (fun k _ h => h.elim))
        have hg6 : ET w6 := ((HGL.out.keep HX_w3.out id).keep (HX_w4.out) (fun e => HPG.out e)).keep (HX_w5.out.trans HX_w6.out) (fun e => HPG.out e)
        have hgt : ∀ W, Ex (fun _ => False) wt W → ET W := fun W h => ET.up hg6 (HXT.out.andThen h (fun k _ h => h.elim)) (by have := HBE.out; omega)
        have HGT := Lib.hid hgt
        have HEC := Lib.hid (fun W (h : Ex (fun _ => False) wt W) => EC.keep h (fun _ _ => id) hec)
        clear HC hrs hx hec hg6 hgt
        go_wp2_with fail
        refine (code_any _ _ _ _ _ (HEC.out _ ((Ex.refl _ _).alloc _)) (HGT.out _ ((Ex.refl _ _).alloc _))).mono ?_
        rintro e wv ⟨rfl, hx⟩
        have HXV := Lib.hid ((Ex.refl (fun _ => False) wt).alloc _ |>.trans hx)
        clear hx
        go_wp2_with fail
        go_roundg (10 - (i + 1))
        case measure => omega
        case rel =>
          refine ⟨i + 1, G, by simp, by omega, Nat.le_refl _, HRT.out.keep HXV.out, ?_, HXT.out.andThen HXV.out (fun k _ h => h.elim)⟩
          show FG _ _
          rw [Nat.min_eq_right (by omega)]
          exact HFI.out
    · obtain rfl : i = 10 := by omega
      have hfg : FG G 8 := HFG.out
      have HFI := Lib.hid hfg
      have HBW := Lib.hid (show bp < B by have h1 := row_lt B_bp.out; have h2 := HBE.out; omega)
      have hb : wr.heap[bp]? = _ := box_up B_bp.out HU.out HBW.out
      have hox : OB wr w2.heap.size (.slice (some xA) xl.length xc) xl := OB.up HO_x.out HU.out (by have := HBE.out; omega)
      have hrt : (⟨xtos, xid, xdf, false, 0, xttl, xpr, xsrc, xdst, xl⟩ : Pk).right = 0 := by
        have := HXN.out
        unfold Pk.right
        simp only
        rw [if_neg (by simp), if_neg (by omega)]
      replace B_bp := Lib.hid hb
      have HOX := Lib.hid hox
      have HRR := Lib.hid hrt
      have OKX : Hid ((⟨xtos, xid, xdf, false, 0, xttl, xpr, xsrc, xdst, xl⟩ : Pk).ok) := ⟨OKP.out.1, OKP.out.2.1, ⟨by show (-9223372036854775808 : Int) ≤ 0; decide, by show (0 : Int) ≤ 9223372036854775807; decide⟩, OKP.out.2.2.2⟩
      clear hfg hb hox hrt hi10 hkx hlt HFG
      have HX06 := Lib.hid (((((HX_w1.out.trans HX_w2.out).trans HX_w3.out).andThen HX_w4.out (fun i hi e => by have := hb_bp; omega)).andThen HX_w5.out (fun i hi e => by have := hb_bp; omega)).andThen HX_w6.out (fun i hi e => by have := hb_bp; omega))
      have cbp0 := row_cell (k := 0) (v := .int .u8 xtos) B_bp.out rfl
      have cbp1 := row_cell (k := 1) (v := .int .u16 xid) B_bp.out rfl
      have cbp2 := row_cell (k := 2) (v := .bool xdf) B_bp.out rfl
      have cbp3 := row_cell (k := 3) (v := .bool false) B_bp.out rfl
      have cbp4 := row_cell (k := 4) (v := .int .i64 0) B_bp.out rfl
      have cbp5 := row_cell (k := 5) (v := .int .u8 xttl) B_bp.out rfl
      have cbp6 := row_cell (k := 6) (v := .int .u8 xpr) B_bp.out rfl
      have cbp7 := row_cell (k := 7) (v := .int .u32 xsrc) B_bp.out rfl
      have cbp8 := row_cell (k := 8) (v := .int .u32 xdst) B_bp.out rfl
      have cbp9 := row_cell (k := 9) (v := .slice (some xA) xl.length xc) B_bp.out rfl
      go_wp2_with fail
      refine (take_one (⟨xtos, xid, xdf, false, 0, xttl, xpr, xsrc, xdst, xl⟩ : Pk) (some xA) xc 1 B rb bm 9 G wr HRS.out OKX.out (RB.any HOX.out.rb) (fun h => by cases h) (by have := HXN.out; show xl.length ≤ _; omega) HRR.out rfl rfl).mono ?_
      rintro e wa ⟨A9, c9, rfl, hob, hrs, hx⟩
      have HRA := Lib.hid hrs
      clear hrs cbp0 cbp1 cbp2 cbp3 cbp4 cbp5 cbp6 cbp7 cbp8 cbp9
      have HX_wa := Lib.hid hx
      clear hx
      have HOA := Lib.hid hob
      clear hob
      have hv : pkv (⟨xtos, xid, xdf, false, 0, xttl, xpr, xsrc, xdst, xl⟩ : Pk) (.slice A9 (⟨xtos, xid, xdf, false, 0, xttl, xpr, xsrc, xdst, xl⟩ : Pk).b.length c9) = .agg #[.int .u8 xtos, .int .u16 xid, .bool xdf, .bool false, .int .i64 0, .int .u8 xttl, .int .u8 xpr, .int .u32 xsrc, .int .u32 xdst, .slice A9 xl.length c9] := rfl
      rw [hv]
      clear hv
      go_upto_region 15 with fail
      have hx : Ex (fun _ => False) wa (wa.alloc (.cells #[.int .u8 xtos, .int .u16 xid, .bool xdf, .bool false, .int .i64 0, .int .u8 xttl, .int .u8 xpr, .int .u32 xsrc, .int .u32 xdst, .slice A9 xl.length c9] 27)) := (Ex.refl _ wa).alloc _
      have hb : (wa.alloc (.cells #[.int .u8 xtos, .int .u16 xid, .bool xdf, .bool false, .int .i64 0, .int .u8 xttl, .int .u8 xpr, .int .u32 xsrc, .int .u32 xdst, .slice A9 xl.length c9] 27)).heap[wa.heap.size]? = some (.cells #[.int .u8 xtos, .int .u16 xid, .bool xdf, .bool false, .int .i64 0, .int .u8 xttl, .int .u8 xpr, .int .u32 xsrc, .int .u32 xdst, .slice A9 xl.length c9] 27) := heap_alloc_new wa _
      obtain ⟨qb, hqb⟩ : ∃ qb, qb = wa.heap.size := ⟨_, rfl⟩
      have hb_qb : wa.heap.size ≤ qb := by omega
      rw [← hqb] at hb
      try simp only [← hqb]
      generalize wa.alloc (.cells #[.int .u8 xtos, .int .u16 xid, .bool xdf, .bool false, .int .i64 0, .int .u8 xttl, .int .u8 xpr, .int .u32 xsrc, .int .u32 xdst, .slice A9 xl.length c9] 27) = wb at hx hb ⊢
      clear hqb
      have HX_wb := Lib.hid hx
      clear hx
      have B_qb := Lib.hid hb
      clear hb
      replace B_bp := Lib.hid (((HX_wa.out.trans HX_wb.out).block bp (row_lt B_bp.out) id).trans B_bp.out)
      replace HOA := Lib.hid (OB.keep HOA.out HX_wb.out (fun _ _ _ _ => id))
      have cbp0 := row_cell (k := 0) (v := .int .u8 xtos) B_bp.out rfl
      have cbp1 := row_cell (k := 1) (v := .int .u16 xid) B_bp.out rfl
      have cbp2 := row_cell (k := 2) (v := .bool xdf) B_bp.out rfl
      have cbp3 := row_cell (k := 3) (v := .bool false) B_bp.out rfl
      have cbp4 := row_cell (k := 4) (v := .int .i64 0) B_bp.out rfl
      have cbp5 := row_cell (k := 5) (v := .int .u8 xttl) B_bp.out rfl
      have cbp6 := row_cell (k := 6) (v := .int .u8 xpr) B_bp.out rfl
      have cbp7 := row_cell (k := 7) (v := .int .u32 xsrc) B_bp.out rfl
      have cbp8 := row_cell (k := 8) (v := .int .u32 xdst) B_bp.out rfl
      have cbp9 := row_cell (k := 9) (v := .slice (some xA) xl.length xc) B_bp.out rfl
      have cqb0 := row_cell (k := 0) (v := .int .u8 xtos) B_qb.out rfl
      have cqb1 := row_cell (k := 1) (v := .int .u16 xid) B_qb.out rfl
      have cqb2 := row_cell (k := 2) (v := .bool xdf) B_qb.out rfl
      have cqb3 := row_cell (k := 3) (v := .bool false) B_qb.out rfl
      have cqb4 := row_cell (k := 4) (v := .int .i64 0) B_qb.out rfl
      have cqb5 := row_cell (k := 5) (v := .int .u8 xttl) B_qb.out rfl
      have cqb6 := row_cell (k := 6) (v := .int .u8 xpr) B_qb.out rfl
      have cqb7 := row_cell (k := 7) (v := .int .u32 xsrc) B_qb.out rfl
      have cqb8 := row_cell (k := 8) (v := .int .u32 xdst) B_qb.out rfl
      have cqb9 := row_cell (k := 9) (v := .slice A9 xl.length c9) B_qb.out rfl
      have z1 : ∀ w, (binOp .neq 31 (rpv (⟨xtos, xid, xdf, false, 0, xttl, xpr, xsrc, xdst, xl⟩ : Pk)) (rpv (⟨xtos, xid, xdf, false, 0, xttl, xpr, xsrc, xdst, xl⟩ : Pk))).run Tryd.prog w = .ok (.bool false) w := fun w => by have h := rpv_neq (⟨xtos, xid, xdf, false, 0, xttl, xpr, xsrc, xdst, xl⟩ : Pk) (⟨xtos, xid, xdf, false, 0, xttl, xpr, xsrc, xdst, xl⟩ : Pk) w; rw [Pk.eqB_self] at h; exact h
      have z2 : ∀ w, (eqGuard .neq 31 (.tmp 72) (.tmp 74) (rpv (⟨xtos, xid, xdf, false, 0, xttl, xpr, xsrc, xdst, xl⟩ : Pk)) (rpv (⟨xtos, xid, xdf, false, 0, xttl, xpr, xsrc, xdst, xl⟩ : Pk))).run Tryd.prog w = .ok () w := fun w => rpv_guard .neq (.tmp 72) (.tmp 74) (⟨xtos, xid, xdf, false, 0, xttl, xpr, xsrc, xdst, xl⟩ : Pk) (⟨xtos, xid, xdf, false, 0, xttl, xpr, xsrc, xdst, xl⟩ : Pk) w
      have Z1 := Lib.hid z1
      have Z2 := Lib.hid z2
      have HOXB := Lib.hid (HOX.out.keep (HX_wa.out.trans HX_wb.out) (fun _ _ _ _ => id))
      have HRB := Lib.hid (HRA.out.keep HX_wb.out)
      have hgl : ((G.length : Int)) = 8 := by have := HFI.out.len; omega
      have HLN := Lib.hid hgl
      clear z1 z2 hgl
      have hS0 : Ex (fun _ => False) wb wb.drew := (Ex.refl _ wb).drew
      refine wp_region_held_drew (S := fun W => Ex (fun _ => False) wb W) (by kernel_rfl) hS0 (fun _ => ?_)
      refine wpAnyH_take (i := 0) (oi := { dst := some 64, op := Go.Op.move (Go.Operand.tmp 11), type := 35, pos := "more.go:125", after := #[], guard := none }) (v := ?v1) rfl (by kernel_rfl) (by kernel_rfl) (by kernel_rfl) (fun _ _ _ h => h) (Or.inl ⟨by rfl, ?hy1⟩) (by assumption) ?rest1
      case hy1 => (intro w hSw; (try dsimp only at hSw); have ecbp0 := hSw.cell cbp0 id; have ecbp1 := hSw.cell cbp1 id; have ecbp2 := hSw.cell cbp2 id; have ecbp3 := hSw.cell cbp3 id; have ecbp4 := hSw.cell cbp4 id; have ecbp5 := hSw.cell cbp5 id; have ecbp6 := hSw.cell cbp6 id; have ecbp7 := hSw.cell cbp7 id; have ecbp8 := hSw.cell cbp8 id; have ecbp9 := hSw.cell cbp9 id; have ecqb0 := hSw.cell cqb0 id; have ecqb1 := hSw.cell cqb1 id; have ecqb2 := hSw.cell cqb2 id; have ecqb3 := hSw.cell cqb3 id; have ecqb4 := hSw.cell cqb4 id; have ecqb5 := hSw.cell cqb5 id; have ecqb6 := hSw.cell cqb6 id; have ecqb7 := hSw.cell cqb7 id; have ecqb8 := hSw.cell cqb8 id; have ecqb9 := hSw.cell cqb9 id; have z1 := Z1.out; have z2 := Z2.out; go_simp <;> with_reducible rfl)
      try simp only [Act.put, List.setIfInBounds_toArray, List.set_cons_zero, List.set_cons_succ]
      refine wpAnyH_take (i := 1) (oi := { dst := some 65, op := Go.Op.binOp Go.BinOp.neq 35 (Go.Operand.tmp 64) (Go.Operand.const Go.Value.nilIface) 35, type := 4, pos := "more.go:125", after := #[{ on := 0, ground := Go.Ground.data }], guard := none }) (v := ?v2) rfl (by kernel_rfl) (by kernel_rfl) (by kernel_rfl) (fun _ _ _ h => h) (Or.inl ⟨by rfl, ?hy2⟩) (by assumption) ?rest2
      case hy2 => (intro w hSw; (try dsimp only at hSw); have ecbp0 := hSw.cell cbp0 id; have ecbp1 := hSw.cell cbp1 id; have ecbp2 := hSw.cell cbp2 id; have ecbp3 := hSw.cell cbp3 id; have ecbp4 := hSw.cell cbp4 id; have ecbp5 := hSw.cell cbp5 id; have ecbp6 := hSw.cell cbp6 id; have ecbp7 := hSw.cell cbp7 id; have ecbp8 := hSw.cell cbp8 id; have ecbp9 := hSw.cell cbp9 id; have ecqb0 := hSw.cell cqb0 id; have ecqb1 := hSw.cell cqb1 id; have ecqb2 := hSw.cell cqb2 id; have ecqb3 := hSw.cell cqb3 id; have ecqb4 := hSw.cell cqb4 id; have ecqb5 := hSw.cell cqb5 id; have ecqb6 := hSw.cell cqb6 id; have ecqb7 := hSw.cell cqb7 id; have ecqb8 := hSw.cell cqb8 id; have ecqb9 := hSw.cell cqb9 id; have z1 := Z1.out; have z2 := Z2.out; go_simp <;> with_reducible rfl)
      try simp only [Act.put, List.setIfInBounds_toArray, List.set_cons_zero, List.set_cons_succ]
      refine wpAnyH_take (i := 2) (oi := { dst := some 66, op := Go.Op.move (Go.Operand.tmp 65), type := 4, pos := "more.go:125", after := #[{ on := 1, ground := Go.Ground.data }], guard := none }) (v := ?v3) rfl (by kernel_rfl) (by kernel_rfl) (by kernel_rfl) (fun _ _ _ h => h) (Or.inl ⟨by rfl, ?hy3⟩) (by assumption) ?rest3
      case hy3 => (intro w hSw; (try dsimp only at hSw); have ecbp0 := hSw.cell cbp0 id; have ecbp1 := hSw.cell cbp1 id; have ecbp2 := hSw.cell cbp2 id; have ecbp3 := hSw.cell cbp3 id; have ecbp4 := hSw.cell cbp4 id; have ecbp5 := hSw.cell cbp5 id; have ecbp6 := hSw.cell cbp6 id; have ecbp7 := hSw.cell cbp7 id; have ecbp8 := hSw.cell cbp8 id; have ecbp9 := hSw.cell cbp9 id; have ecqb0 := hSw.cell cqb0 id; have ecqb1 := hSw.cell cqb1 id; have ecqb2 := hSw.cell cqb2 id; have ecqb3 := hSw.cell cqb3 id; have ecqb4 := hSw.cell cqb4 id; have ecqb5 := hSw.cell cqb5 id; have ecqb6 := hSw.cell cqb6 id; have ecqb7 := hSw.cell cqb7 id; have ecqb8 := hSw.cell cqb8 id; have ecqb9 := hSw.cell cqb9 id; have z1 := Z1.out; have z2 := Z2.out; go_simp <;> with_reducible rfl)
      try simp only [Act.put, List.setIfInBounds_toArray, List.set_cons_zero, List.set_cons_succ]
      refine wpAnyH_take (i := 3) (oi := { dst := some 67, op := Go.Op.move (Go.Operand.tmp 10), type := 4, pos := "more.go:125", after := #[{ on := 2, ground := Go.Ground.guard }], guard := some (2, false) }) (v := ?v4) rfl (by kernel_rfl) (by kernel_rfl) (by kernel_rfl) (fun _ _ _ h => h) (Or.inl ⟨by rfl, ?hy4⟩) (by assumption) ?rest4
      case hy4 => (intro w hSw; (try dsimp only at hSw); have ecbp0 := hSw.cell cbp0 id; have ecbp1 := hSw.cell cbp1 id; have ecbp2 := hSw.cell cbp2 id; have ecbp3 := hSw.cell cbp3 id; have ecbp4 := hSw.cell cbp4 id; have ecbp5 := hSw.cell cbp5 id; have ecbp6 := hSw.cell cbp6 id; have ecbp7 := hSw.cell cbp7 id; have ecbp8 := hSw.cell cbp8 id; have ecbp9 := hSw.cell cbp9 id; have ecqb0 := hSw.cell cqb0 id; have ecqb1 := hSw.cell cqb1 id; have ecqb2 := hSw.cell cqb2 id; have ecqb3 := hSw.cell cqb3 id; have ecqb4 := hSw.cell cqb4 id; have ecqb5 := hSw.cell cqb5 id; have ecqb6 := hSw.cell cqb6 id; have ecqb7 := hSw.cell cqb7 id; have ecqb8 := hSw.cell cqb8 id; have ecqb9 := hSw.cell cqb9 id; have z1 := Z1.out; have z2 := Z2.out; go_simp <;> with_reducible rfl)
      try simp only [Act.put, List.setIfInBounds_toArray, List.set_cons_zero, List.set_cons_succ]
      refine wpAnyH_take (i := 4) (oi := { dst := some 68, op := Go.Op.unOp Go.UnOp.not 4 (Go.Operand.tmp 67), type := 4, pos := "more.go:125", after := #[{ on := 3, ground := Go.Ground.data }, { on := 2, ground := Go.Ground.guard }], guard := some (2, false) }) (v := ?v5) rfl (by kernel_rfl) (by kernel_rfl) (by kernel_rfl) (fun _ _ _ h => h) (Or.inl ⟨by rfl, ?hy5⟩) (by assumption) ?rest5
      case hy5 => (intro w hSw; (try dsimp only at hSw); have ecbp0 := hSw.cell cbp0 id; have ecbp1 := hSw.cell cbp1 id; have ecbp2 := hSw.cell cbp2 id; have ecbp3 := hSw.cell cbp3 id; have ecbp4 := hSw.cell cbp4 id; have ecbp5 := hSw.cell cbp5 id; have ecbp6 := hSw.cell cbp6 id; have ecbp7 := hSw.cell cbp7 id; have ecbp8 := hSw.cell cbp8 id; have ecbp9 := hSw.cell cbp9 id; have ecqb0 := hSw.cell cqb0 id; have ecqb1 := hSw.cell cqb1 id; have ecqb2 := hSw.cell cqb2 id; have ecqb3 := hSw.cell cqb3 id; have ecqb4 := hSw.cell cqb4 id; have ecqb5 := hSw.cell cqb5 id; have ecqb6 := hSw.cell cqb6 id; have ecqb7 := hSw.cell cqb7 id; have ecqb8 := hSw.cell cqb8 id; have ecqb9 := hSw.cell cqb9 id; have z1 := Z1.out; have z2 := Z2.out; go_simp <;> with_reducible rfl)
      try simp only [Act.put, List.setIfInBounds_toArray, List.set_cons_zero, List.set_cons_succ]
      refine wpAnyH_take (i := 5) (oi := { dst := some 69, op := Go.Op.pick (Go.Operand.tmp 66) (Go.Operand.const (Go.Value.bool true)) (Go.Operand.tmp 68), type := 4, pos := "more.go:125", after := #[{ on := 2, ground := Go.Ground.data }, { on := 4, ground := Go.Ground.data }], guard := none }) (v := ?v6) rfl (by kernel_rfl) (by kernel_rfl) (by kernel_rfl) (fun _ _ _ h => h) (Or.inl ⟨by rfl, ?hy6⟩) (by assumption) ?rest6
      case hy6 => (intro w hSw; (try dsimp only at hSw); have ecbp0 := hSw.cell cbp0 id; have ecbp1 := hSw.cell cbp1 id; have ecbp2 := hSw.cell cbp2 id; have ecbp3 := hSw.cell cbp3 id; have ecbp4 := hSw.cell cbp4 id; have ecbp5 := hSw.cell cbp5 id; have ecbp6 := hSw.cell cbp6 id; have ecbp7 := hSw.cell cbp7 id; have ecbp8 := hSw.cell cbp8 id; have ecbp9 := hSw.cell cbp9 id; have ecqb0 := hSw.cell cqb0 id; have ecqb1 := hSw.cell cqb1 id; have ecqb2 := hSw.cell cqb2 id; have ecqb3 := hSw.cell cqb3 id; have ecqb4 := hSw.cell cqb4 id; have ecqb5 := hSw.cell cqb5 id; have ecqb6 := hSw.cell cqb6 id; have ecqb7 := hSw.cell cqb7 id; have ecqb8 := hSw.cell cqb8 id; have ecqb9 := hSw.cell cqb9 id; have z1 := Z1.out; have z2 := Z2.out; go_simp <;> with_reducible rfl)
      try simp only [Act.put, List.setIfInBounds_toArray, List.set_cons_zero, List.set_cons_succ]
      refine wpAnyH_take (i := 6) (oi := { dst := some 70, op := Go.Op.move (Go.Operand.tmp 69), type := 4, pos := "more.go:125", after := #[{ on := 5, ground := Go.Ground.data }, { on := 2, ground := Go.Ground.chain }], guard := none }) (v := ?v7) rfl (by kernel_rfl) (by kernel_rfl) (by kernel_rfl) (fun _ _ _ h => h) (Or.inl ⟨by rfl, ?hy7⟩) (by assumption) ?rest7
      case hy7 => (intro w hSw; (try dsimp only at hSw); have ecbp0 := hSw.cell cbp0 id; have ecbp1 := hSw.cell cbp1 id; have ecbp2 := hSw.cell cbp2 id; have ecbp3 := hSw.cell cbp3 id; have ecbp4 := hSw.cell cbp4 id; have ecbp5 := hSw.cell cbp5 id; have ecbp6 := hSw.cell cbp6 id; have ecbp7 := hSw.cell cbp7 id; have ecbp8 := hSw.cell cbp8 id; have ecbp9 := hSw.cell cbp9 id; have ecqb0 := hSw.cell cqb0 id; have ecqb1 := hSw.cell cqb1 id; have ecqb2 := hSw.cell cqb2 id; have ecqb3 := hSw.cell cqb3 id; have ecqb4 := hSw.cell cqb4 id; have ecqb5 := hSw.cell cqb5 id; have ecqb6 := hSw.cell cqb6 id; have ecqb7 := hSw.cell cqb7 id; have ecqb8 := hSw.cell cqb8 id; have ecqb9 := hSw.cell cqb9 id; have z1 := Z1.out; have z2 := Z2.out; go_simp <;> with_reducible rfl)
      try simp only [Act.put, List.setIfInBounds_toArray, List.set_cons_zero, List.set_cons_succ]
      refine wpAnyH_take (i := 7) (oi := { dst := some 71, op := Go.Op.load 27 (Go.Operand.tmp 9), type := 27, pos := "more.go:125", after := #[{ on := 6, ground := Go.Ground.guard }], guard := some (6, false) }) (v := ?v8) rfl (by kernel_rfl) (by kernel_rfl) (by kernel_rfl) (fun _ _ _ h => h) (Or.inl ⟨by rfl, ?hy8⟩) (by assumption) ?rest8
      case hy8 => (intro w hSw; (try dsimp only at hSw); have ecbp0 := hSw.cell cbp0 id; have ecbp1 := hSw.cell cbp1 id; have ecbp2 := hSw.cell cbp2 id; have ecbp3 := hSw.cell cbp3 id; have ecbp4 := hSw.cell cbp4 id; have ecbp5 := hSw.cell cbp5 id; have ecbp6 := hSw.cell cbp6 id; have ecbp7 := hSw.cell cbp7 id; have ecbp8 := hSw.cell cbp8 id; have ecbp9 := hSw.cell cbp9 id; have ecqb0 := hSw.cell cqb0 id; have ecqb1 := hSw.cell cqb1 id; have ecqb2 := hSw.cell cqb2 id; have ecqb3 := hSw.cell cqb3 id; have ecqb4 := hSw.cell cqb4 id; have ecqb5 := hSw.cell cqb5 id; have ecqb6 := hSw.cell cqb6 id; have ecqb7 := hSw.cell cqb7 id; have ecqb8 := hSw.cell cqb8 id; have ecqb9 := hSw.cell cqb9 id; have z1 := Z1.out; have z2 := Z2.out; go_simp <;> with_reducible rfl)
      try simp only [Act.put, List.setIfInBounds_toArray, List.set_cons_zero, List.set_cons_succ]
      refine wpAnyH_take (i := 9) (oi := { dst := some 73, op := Go.Op.load 27 (Go.Operand.tmp 1), type := 27, pos := "more.go:125", after := #[{ on := 6, ground := Go.Ground.guard }], guard := some (6, false) }) (v := ?v9) rfl (by kernel_rfl) (by kernel_rfl) (by kernel_rfl) (fun _ _ _ h => h) (Or.inl ⟨by rfl, ?hy9⟩) (by assumption) ?rest9
      case hy9 => (intro w hSw; (try dsimp only at hSw); have ecbp0 := hSw.cell cbp0 id; have ecbp1 := hSw.cell cbp1 id; have ecbp2 := hSw.cell cbp2 id; have ecbp3 := hSw.cell cbp3 id; have ecbp4 := hSw.cell cbp4 id; have ecbp5 := hSw.cell cbp5 id; have ecbp6 := hSw.cell cbp6 id; have ecbp7 := hSw.cell cbp7 id; have ecbp8 := hSw.cell cbp8 id; have ecbp9 := hSw.cell cbp9 id; have ecqb0 := hSw.cell cqb0 id; have ecqb1 := hSw.cell cqb1 id; have ecqb2 := hSw.cell cqb2 id; have ecqb3 := hSw.cell cqb3 id; have ecqb4 := hSw.cell cqb4 id; have ecqb5 := hSw.cell cqb5 id; have ecqb6 := hSw.cell cqb6 id; have ecqb7 := hSw.cell cqb7 id; have ecqb8 := hSw.cell cqb8 id; have ecqb9 := hSw.cell cqb9 id; have z1 := Z1.out; have z2 := Z2.out; go_simp <;> with_reducible rfl)
      try simp only [Act.put, List.setIfInBounds_toArray, List.set_cons_zero, List.set_cons_succ]
      refine wpAnyH_ready (rs := [8]) (by kernel_rfl) (by simp) ?_
      refine AllReadyH.cons (o := { dst := some 72, op := Go.Op.call { callee := Go.Callee.value (Go.Operand.func 14), args := #[Go.Operand.tmp 71], argTypes := #[27] }, type := 31, pos := "more.go:125", after := #[{ on := 7, ground := Go.Ground.data }, { on := 6, ground := Go.Ground.chain }, { on := 6, ground := Go.Ground.guard }], guard := some (6, false) }) rfl (fun K hK => ?_) AllReadyH.nil
      go_simp
      refine (of10_any _ (⟨xtos, xid, xdf, false, 0, xttl, xpr, xsrc, xdst, xl⟩ : Pk) A9 c9 _ OKX.out (HOA.out.keep (by assumption) (fun _ _ _ _ => id)).rb).mono ?_
      rintro e wx ⟨rfl, hx⟩
      have hS1 : Ex (fun _ => False) wb wx := Ex.trans (by assumption) hx
      clear hx
      refine hK.out _ _ hS1 (fun _ => ?_)
      refine wpAnyH_ready (rs := [10]) (by kernel_rfl) (by simp) ?_
      refine AllReadyH.cons (o := { dst := some 74, op := Go.Op.call { callee := Go.Callee.value (Go.Operand.func 14), args := #[Go.Operand.tmp 73], argTypes := #[27] }, type := 31, pos := "more.go:125", after := #[{ on := 9, ground := Go.Ground.data }, { on := 8, ground := Go.Ground.chain }, { on := 6, ground := Go.Ground.guard }], guard := some (6, false) }) rfl (fun K hK => ?_) AllReadyH.nil
      go_simp
      refine (of10_any _ (⟨xtos, xid, xdf, false, 0, xttl, xpr, xsrc, xdst, xl⟩ : Pk) (some xA) xc _ OKX.out (HOXB.out.keep hS1 (fun _ _ _ _ => id)).rb).mono ?_
      rintro e wy ⟨rfl, hx⟩
      have hS2 : Ex (fun _ => False) wb wy := hS1.trans hx
      clear hx
      refine hK.out _ _ hS2 (fun _ => ?_)
      refine wpAnyH_take (i := 11) (oi := { dst := some 75, op := Go.Op.binOp Go.BinOp.neq 31 (Go.Operand.tmp 72) (Go.Operand.tmp 74) 31, type := 4, pos := "more.go:125", after := #[{ on := 8, ground := Go.Ground.data }, { on := 10, ground := Go.Ground.data }, { on := 6, ground := Go.Ground.guard }], guard := some (6, false) }) (v := ?v10) rfl (by kernel_rfl) (by kernel_rfl) (by kernel_rfl) (fun _ _ _ h => h) (Or.inl ⟨by rfl, ?hy10⟩) (by assumption) ?rest10
      case hy10 => (intro w hSw; (try dsimp only at hSw); have ecbp0 := hSw.cell cbp0 id; have ecbp1 := hSw.cell cbp1 id; have ecbp2 := hSw.cell cbp2 id; have ecbp3 := hSw.cell cbp3 id; have ecbp4 := hSw.cell cbp4 id; have ecbp5 := hSw.cell cbp5 id; have ecbp6 := hSw.cell cbp6 id; have ecbp7 := hSw.cell cbp7 id; have ecbp8 := hSw.cell cbp8 id; have ecbp9 := hSw.cell cbp9 id; have ecqb0 := hSw.cell cqb0 id; have ecqb1 := hSw.cell cqb1 id; have ecqb2 := hSw.cell cqb2 id; have ecqb3 := hSw.cell cqb3 id; have ecqb4 := hSw.cell cqb4 id; have ecqb5 := hSw.cell cqb5 id; have ecqb6 := hSw.cell cqb6 id; have ecqb7 := hSw.cell cqb7 id; have ecqb8 := hSw.cell cqb8 id; have ecqb9 := hSw.cell cqb9 id; have z1 := Z1.out; have z2 := Z2.out; go_simp <;> with_reducible rfl)
      try simp only [Act.put, List.setIfInBounds_toArray, List.set_cons_zero, List.set_cons_succ]
      refine wpAnyH_take (i := 12) (oi := { dst := some 76, op := Go.Op.pick (Go.Operand.tmp 70) (Go.Operand.const (Go.Value.bool true)) (Go.Operand.tmp 75), type := 4, pos := "more.go:125", after := #[{ on := 6, ground := Go.Ground.data }, { on := 11, ground := Go.Ground.data }], guard := none }) (v := ?v11) rfl (by kernel_rfl) (by kernel_rfl) (by kernel_rfl) (fun _ _ _ h => h) (Or.inl ⟨by rfl, ?hy11⟩) (by assumption) ?rest11
      case hy11 => (intro w hSw; (try dsimp only at hSw); have ecbp0 := hSw.cell cbp0 id; have ecbp1 := hSw.cell cbp1 id; have ecbp2 := hSw.cell cbp2 id; have ecbp3 := hSw.cell cbp3 id; have ecbp4 := hSw.cell cbp4 id; have ecbp5 := hSw.cell cbp5 id; have ecbp6 := hSw.cell cbp6 id; have ecbp7 := hSw.cell cbp7 id; have ecbp8 := hSw.cell cbp8 id; have ecbp9 := hSw.cell cbp9 id; have ecqb0 := hSw.cell cqb0 id; have ecqb1 := hSw.cell cqb1 id; have ecqb2 := hSw.cell cqb2 id; have ecqb3 := hSw.cell cqb3 id; have ecqb4 := hSw.cell cqb4 id; have ecqb5 := hSw.cell cqb5 id; have ecqb6 := hSw.cell cqb6 id; have ecqb7 := hSw.cell cqb7 id; have ecqb8 := hSw.cell cqb8 id; have ecqb9 := hSw.cell cqb9 id; have z1 := Z1.out; have z2 := Z2.out; go_simp <;> with_reducible rfl)
      try simp only [Act.put, List.setIfInBounds_toArray, List.set_cons_zero, List.set_cons_succ]
      refine wpAnyH_take (i := 13) (oi := { dst := some 77, op := Go.Op.move (Go.Operand.tmp 76), type := 4, pos := "more.go:125", after := #[{ on := 12, ground := Go.Ground.data }, { on := 10, ground := Go.Ground.chain }], guard := none }) (v := ?v12) rfl (by kernel_rfl) (by kernel_rfl) (by kernel_rfl) (fun _ _ _ h => h) (Or.inl ⟨by rfl, ?hy12⟩) (by assumption) ?rest12
      case hy12 => (intro w hSw; (try dsimp only at hSw); have ecbp0 := hSw.cell cbp0 id; have ecbp1 := hSw.cell cbp1 id; have ecbp2 := hSw.cell cbp2 id; have ecbp3 := hSw.cell cbp3 id; have ecbp4 := hSw.cell cbp4 id; have ecbp5 := hSw.cell cbp5 id; have ecbp6 := hSw.cell cbp6 id; have ecbp7 := hSw.cell cbp7 id; have ecbp8 := hSw.cell cbp8 id; have ecbp9 := hSw.cell cbp9 id; have ecqb0 := hSw.cell cqb0 id; have ecqb1 := hSw.cell cqb1 id; have ecqb2 := hSw.cell cqb2 id; have ecqb3 := hSw.cell cqb3 id; have ecqb4 := hSw.cell cqb4 id; have ecqb5 := hSw.cell cqb5 id; have ecqb6 := hSw.cell cqb6 id; have ecqb7 := hSw.cell cqb7 id; have ecqb8 := hSw.cell cqb8 id; have ecqb9 := hSw.cell cqb9 id; have z1 := Z1.out; have z2 := Z2.out; go_simp <;> with_reducible rfl)
      try simp only [Act.put, List.setIfInBounds_toArray, List.set_cons_zero, List.set_cons_succ]
      refine wpAnyH_take (i := 14) (oi := { dst := some 78, op := Go.Op.move (Go.Operand.tmp 4), type := 45, pos := "more.go:125", after := #[{ on := 13, ground := Go.Ground.guard }], guard := some (13, false) }) (v := ?v13) rfl (by kernel_rfl) (by kernel_rfl) (by kernel_rfl) (fun _ _ _ h => h) (Or.inl ⟨by rfl, ?hy13⟩) (by assumption) ?rest13
      case hy13 => (intro w hSw; (try dsimp only at hSw); have ecbp0 := hSw.cell cbp0 id; have ecbp1 := hSw.cell cbp1 id; have ecbp2 := hSw.cell cbp2 id; have ecbp3 := hSw.cell cbp3 id; have ecbp4 := hSw.cell cbp4 id; have ecbp5 := hSw.cell cbp5 id; have ecbp6 := hSw.cell cbp6 id; have ecbp7 := hSw.cell cbp7 id; have ecbp8 := hSw.cell cbp8 id; have ecbp9 := hSw.cell cbp9 id; have ecqb0 := hSw.cell cqb0 id; have ecqb1 := hSw.cell cqb1 id; have ecqb2 := hSw.cell cqb2 id; have ecqb3 := hSw.cell cqb3 id; have ecqb4 := hSw.cell cqb4 id; have ecqb5 := hSw.cell cqb5 id; have ecqb6 := hSw.cell cqb6 id; have ecqb7 := hSw.cell cqb7 id; have ecqb8 := hSw.cell cqb8 id; have ecqb9 := hSw.cell cqb9 id; have z1 := Z1.out; have z2 := Z2.out; go_simp <;> with_reducible rfl)
      try simp only [Act.put, List.setIfInBounds_toArray, List.set_cons_zero, List.set_cons_succ]
      refine wpAnyH_ready (rs := [15]) (by kernel_rfl) (by simp) ?_
      refine AllReadyH.cons (o := { dst := some 79, op := Go.Op.call { callee := Go.Callee.value (Go.Operand.func 20), args := #[Go.Operand.tmp 78], argTypes := #[45] }, type := 3, pos := "more.go:125", after := #[{ on := 14, ground := Go.Ground.data }, { on := 13, ground := Go.Ground.chain }, { on := 13, ground := Go.Ground.guard }], guard := some (13, false) }) rfl (fun K hK => ?_) AllReadyH.nil
      go_simp
      refine (len_any B rb bm 9 G _ (HRB.out.keep hS2)).mono ?_
      rintro e wz ⟨rfl, hwz⟩
      rw [HLN.out]
      obtain rfl : _ = wz := hwz.symm
      refine hK.out _ _ hS2 (fun _ => ?_)
      refine wpAnyH_take (i := 16) (oi := { dst := some 80, op := Go.Op.binOp Go.BinOp.neq 3 (Go.Operand.tmp 79) (Go.Operand.const (Go.Value.int Go.IntKind.i64 8)) 3, type := 4, pos := "more.go:125", after := #[{ on := 15, ground := Go.Ground.data }, { on := 13, ground := Go.Ground.guard }], guard := some (13, false) }) (v := ?v14) rfl (by kernel_rfl) (by kernel_rfl) (by kernel_rfl) (fun _ _ _ h => h) (Or.inl ⟨by rfl, ?hy14⟩) (by assumption) ?rest14
      case hy14 => (intro w hSw; (try dsimp only at hSw); have ecbp0 := hSw.cell cbp0 id; have ecbp1 := hSw.cell cbp1 id; have ecbp2 := hSw.cell cbp2 id; have ecbp3 := hSw.cell cbp3 id; have ecbp4 := hSw.cell cbp4 id; have ecbp5 := hSw.cell cbp5 id; have ecbp6 := hSw.cell cbp6 id; have ecbp7 := hSw.cell cbp7 id; have ecbp8 := hSw.cell cbp8 id; have ecbp9 := hSw.cell cbp9 id; have ecqb0 := hSw.cell cqb0 id; have ecqb1 := hSw.cell cqb1 id; have ecqb2 := hSw.cell cqb2 id; have ecqb3 := hSw.cell cqb3 id; have ecqb4 := hSw.cell cqb4 id; have ecqb5 := hSw.cell cqb5 id; have ecqb6 := hSw.cell cqb6 id; have ecqb7 := hSw.cell cqb7 id; have ecqb8 := hSw.cell cqb8 id; have ecqb9 := hSw.cell cqb9 id; have z1 := Z1.out; have z2 := Z2.out; go_simp <;> with_reducible rfl)
      try simp only [Act.put, List.setIfInBounds_toArray, List.set_cons_zero, List.set_cons_succ]
      refine wpAnyH_take (i := 17) (oi := { dst := some 81, op := Go.Op.pick (Go.Operand.tmp 77) (Go.Operand.const (Go.Value.bool true)) (Go.Operand.tmp 80), type := 4, pos := "more.go:125", after := #[{ on := 13, ground := Go.Ground.data }, { on := 16, ground := Go.Ground.data }], guard := none }) (v := ?v15) rfl (by kernel_rfl) (by kernel_rfl) (by kernel_rfl) (fun _ _ _ h => h) (Or.inl ⟨by rfl, ?hy15⟩) (by assumption) ?rest15
      case hy15 => (intro w hSw; (try dsimp only at hSw); have ecbp0 := hSw.cell cbp0 id; have ecbp1 := hSw.cell cbp1 id; have ecbp2 := hSw.cell cbp2 id; have ecbp3 := hSw.cell cbp3 id; have ecbp4 := hSw.cell cbp4 id; have ecbp5 := hSw.cell cbp5 id; have ecbp6 := hSw.cell cbp6 id; have ecbp7 := hSw.cell cbp7 id; have ecbp8 := hSw.cell cbp8 id; have ecbp9 := hSw.cell cbp9 id; have ecqb0 := hSw.cell cqb0 id; have ecqb1 := hSw.cell cqb1 id; have ecqb2 := hSw.cell cqb2 id; have ecqb3 := hSw.cell cqb3 id; have ecqb4 := hSw.cell cqb4 id; have ecqb5 := hSw.cell cqb5 id; have ecqb6 := hSw.cell cqb6 id; have ecqb7 := hSw.cell cqb7 id; have ecqb8 := hSw.cell cqb8 id; have ecqb9 := hSw.cell cqb9 id; have z1 := Z1.out; have z2 := Z2.out; go_simp <;> with_reducible rfl)
      try simp only [Act.put, List.setIfInBounds_toArray, List.set_cons_zero, List.set_cons_succ]
      refine wpAnyH_done (by kernel_rfl) ?_ _
      have hx := hS2
      clear hS0 hS1 hS2 cbp0 cbp1 cbp2 cbp3 cbp4 cbp5 cbp6 cbp7 cbp8 cbp9 cqb0 cqb1 cqb2 cqb3 cqb4 cqb5 cqb6 cqb7 cqb8 cqb9
      have HX_wy := Lib.hid hx
      clear hx
      have hcv0 := fun (w : World) (C : Array Value) (n c : Nat) => Lib.run_convert_bytes_const (P := Tryd.prog) w 25 5 C n c Tryd.underlying25 Tryd.underlying5
      go_wp2_with fail
      clear hcv0
      have hx : Ex (fun _ => False) wy (wy.alloc (.cells #[.int .u8 101, .int .u8 110, .int .u8 100] 5 (3, 4))) := (Ex.refl _ wy).alloc _
      have hb1 := RB.madeF wy [101, 110, 100] #[.int .u8 101, .int .u8 110, .int .u8 100] 5 (3, 4) rfl (by decide) 3 3 rfl (Nat.le_refl _) rfl
      generalize wy.alloc (.cells #[.int .u8 101, .int .u8 110, .int .u8 100] 5 (3, 4)) = wc at hx hb1 ⊢
      have HX_wc := Lib.hid hx
      clear hx
      obtain ⟨G1, x3, G2, hG, hk3, ho3, hl3⟩ := HFI.out.mid (i := 3) (by omega)
      have hrsC : RS wc B rb bm 9 (G1 ++ x3 :: G2) := by have := HRA.out.keep ((HX_wb.out.trans HX_wy.out).trans HX_wc.out); rwa [hG] at this
      have hln1 : x3.os.length = 1 := by have := congrArg List.length ho3; simpa using this
      have hcall := take_more f3e (some ⟨wy.heap.size, 0, none⟩) 3 1 B rb bm 9 (G1 ++ x3 :: G2) wc hrsC (by refine ⟨?_, ?_, ?_, ?_, ?_, ?_, ?_⟩ <;> decide) (RB.any hb1) (fun h => by cases h) (by decide) G1 G2 x3 (by decide +kernel) (by decide) rfl (hk3.trans f3_kb) (by rw [any_fst, ho3]; exact f3_fits) (by omega)
      have HC := Lib.hid hcall
      have HRSC := Lib.hid hrsC
      have HO3 := Lib.hid ho3
      have HGE := Lib.hid hG
      have HL3 := Lib.hid hl3
      clear hcall hrsC ho3 hG hl3 hln1 hb1 hk3
      refine HC.out.mono ?_
      rintro e wd hpost
      have hup := more_up hpost HRSC.out
      obtain ⟨_, A4, c4, ⟨hw, _⟩ | ⟨q, A5, c5', hw, rfl, hobq, hrs⟩⟩ := hpost
      case inl =>
        have ho9 : (x3.os ++ [(f3e, A4, c4)]).map Prod.fst = [ff 3, f3e] := by rw [List.map_append, HO3.out]; rfl
        cases f3_whole ho9 hw
      have ho9 : (x3.os ++ [(f3e, A4, c4)]).map Prod.fst = [ff 3, f3e] := by rw [List.map_append, HO3.out]; rfl
      obtain rfl : q = f3w := by have := f3_whole ho9 hw; injection this
      have HRSD := Lib.hid hrs
      have HOQ := Lib.hid hobq
      have HUD := Lib.hid hup
      have hv : pkv f3w (.slice A5 f3w.b.length c5') = .agg #[.int .u8 0, .int .u16 3, .bool false, .bool false, .int .i64 0, .int .u8 0, .int .u8 0, .int .u32 0, .int .u32 0, .slice A5 11 c5'] := rfl
      rw [hv]
      clear hv ho9 hw hrs hobq hup HC
      go_upto_region 18 with fail
      have HXC := Lib.hid (((HX_wa.out.trans HX_wb.out).trans HX_wy.out).trans HX_wc.out)
      have hx : Ex (fun _ => False) wd (wd.alloc (.cells #[.int .u8 0, .int .u16 3, .bool false, .bool false, .int .i64 0, .int .u8 0, .int .u8 0, .int .u32 0, .int .u32 0, .slice A5 11 c5'] 27)) := (Ex.refl _ wd).alloc _
      have hb : (wd.alloc (.cells #[.int .u8 0, .int .u16 3, .bool false, .bool false, .int .i64 0, .int .u8 0, .int .u8 0, .int .u32 0, .int .u32 0, .slice A5 11 c5'] 27)).heap[wd.heap.size]? = some (.cells #[.int .u8 0, .int .u16 3, .bool false, .bool false, .int .i64 0, .int .u8 0, .int .u8 0, .int .u32 0, .int .u32 0, .slice A5 11 c5'] 27) := heap_alloc_new wd _
      obtain ⟨yb, hyb⟩ : ∃ yb, yb = wd.heap.size := ⟨_, rfl⟩
      have hb_yb : wd.heap.size ≤ yb := by omega
      rw [← hyb] at hb
      try simp only [← hyb]
      generalize wd.alloc (.cells #[.int .u8 0, .int .u16 3, .bool false, .bool false, .int .i64 0, .int .u8 0, .int .u8 0, .int .u32 0, .int .u32 0, .slice A5 11 c5'] 27) = we at hx hb ⊢
      clear hyb
      have HX_we := Lib.hid hx
      clear hx
      have B_yb := Lib.hid hb
      clear hb
      obtain ⟨hi, hz0, hz1, hz2⟩ := HI.out
      go_wp2_with (at_make; refine wpList_make_full _ rfl (.const (.int .i64 8)) (.const (.int .i64 8)) 25 rfl we.heap.size 5 i0 (.int .u8 0) 1 Tryd.underlying25 hi hz0 hz1 .i64 .i64 (8 : Int) (8 : Int) 8 rfl rfl (by omega) (by omega) (by rw [hz2]; omega) (by simp only [maxLen]; omega) (Nat.le_refl _) ?_; intro wf hown hg8; have hx8 : Ex (fun _ => False) we wf := (Ex.refl _ we).grown hg8 (fun k h => by cases h))
      clear hi hz0 hz1 hz2
      have hob : OB wf we.heap.size (.slice (some ⟨we.heap.size, 0, none⟩) 8 8) (List.replicate 8 0) := by
        refine ⟨by decide, ?_⟩
        have e : (madeCells (Value.int .u8 0).cells (8 * 1)).toList = (List.replicate 8 (0 : UInt8)).map u8v := by
          rw [show (Value.int .u8 0).cells = #[Value.int .u8 0] from rfl, Nat.mul_one, toList_madeCells_one, List.map_replicate]
          rfl
        have hown1' := hown
        rw [e] at hown1'
        exact hown1'
      have hx := hx8
      clear hown hg8 hx8
      have HX_wf := Lib.hid hx
      clear hx
      have hrsf : RS wf B rb bm 9 (G1 ++ G2) := HRSD.out.keep (HX_we.out.trans HX_wf.out)
      have hgl : (G1 ++ G2).length = 7 := by
        have h1 := HFI.out.len
        rw [HGE.out, List.length_append, List.length_cons] at h1
        rw [List.length_append]
        omega
      have hcall := take_new (ff 9) (some ⟨we.heap.size, 0, none⟩) 8 1 B rb bm 9 (G1 ++ G2) wf hrsf (ff_ok (by omega)) (RB.any hob.rb) (fun h => by cases h) (by show (List.replicate 8 (0 : UInt8)).length ≤ _; decide) (ff_right 9) (fun h => by cases h.2) (hp_none (fun x hx => HFI.out.ne (i := 9) (by omega) (by omega) x (by rw [HGE.out]; rcases List.mem_append.1 hx with h | h <;> simp [h]))) (by omega)
      have hoqf := (OB.keep HOQ.out (HX_we.out.trans HX_wf.out) (fun _ _ _ _ => id))
      have hybb : wf.heap[yb]? = _ := ((HX_wf.out.block yb (row_lt B_yb.out) id).trans B_yb.out)
      have HC := Lib.hid hcall
      have HRF := Lib.hid hrsf
      have HOF := Lib.hid hoqf
      have HBF := Lib.hid hybb
      have HG7 := Lib.hid hgl
      clear hcall hrsf hoqf hybb hgl hob
      refine HC.out.mono ?_
      rintro e wg ⟨rfl, ⟨h9, hrs, hk9, _, ho9⟩, hx⟩
      have hmap := HRF.out.map.isMap
      have hoq : OB wg wc.heap.size (.slice A5 11 c5') f3w.b := HOF.out.keep hx (fun k hk _ _ e => by
        obtain ⟨cur, hc⟩ := ownsRow_isCells HOF.out.2 hk
        exact map_ne hc hmap e)
      have hyb := (hx.block yb (row_lt HBF.out) (fun e => map_ne HBF.out hmap e)).trans HBF.out
      have HRG := Lib.hid hrs
      have HOG := Lib.hid hoq
      have HBY := Lib.hid hyb
      have HUG := Lib.hid (show Up B wf wg from hx.mono (fun k _ h => by have h1 : k = bm := h; have h2 := HRF.out.lo; omega))
      have HXF := Lib.hid (HX_we.out.trans HX_wf.out)
      clear HC hk9 ho9 hrs hx hmap hoq hyb
      go_upto_region 19 with fail
      replace B_yb := HBY
      have hx : Ex (fun _ => False) wg (wg.alloc (.cells #[.int .u8 0, .int .u16 0, .bool false, .bool false, .int .i64 0, .int .u8 0, .int .u8 0, .int .u32 0, .int .u32 0, .slice none 0 0] 27)) := (Ex.refl _ wg).alloc _
      have hb : (wg.alloc (.cells #[.int .u8 0, .int .u16 0, .bool false, .bool false, .int .i64 0, .int .u8 0, .int .u8 0, .int .u32 0, .int .u32 0, .slice none 0 0] 27)).heap[wg.heap.size]? = some (.cells #[.int .u8 0, .int .u16 0, .bool false, .bool false, .int .i64 0, .int .u8 0, .int .u8 0, .int .u32 0, .int .u32 0, .slice none 0 0] 27) := heap_alloc_new wg _
      obtain ⟨zb, hzb⟩ : ∃ zb, zb = wg.heap.size := ⟨_, rfl⟩
      have hb_zb : wg.heap.size ≤ zb := by omega
      rw [← hzb] at hb
      try simp only [← hzb]
      generalize wg.alloc (.cells #[.int .u8 0, .int .u16 0, .bool false, .bool false, .int .i64 0, .int .u8 0, .int .u8 0, .int .u32 0, .int .u32 0, .slice none 0 0] 27) = wh at hx hb ⊢
      clear hzb
      have HX_wh := Lib.hid hx
      clear hx
      have B_zb := Lib.hid hb
      clear hb
      have cyb9 := row_cell (k := 9) (v := .slice A5 11 c5') ((HX_wh.out.block yb (row_lt B_yb.out) id).trans B_yb.out) rfl
      have hcv := (OB.keep HOG.out HX_wh.out (fun _ _ _ _ => id)).rb.str (Pr := Tryd.prog) 25 9 5 Tryd.underlying25 Tryd.underlying5 Tryd.underlying9
      have hse : bs f3w.b = ⟨#[0, 0, 0, 0, 0, 0, 0, 0, 101, 110, 100]⟩ := rfl
      rw [hse] at hcv
      have hgl : (((G1 ++ G2) ++ [h9]).length : Int) = 8 := by rw [List.length_append, HG7.out]; rfl
      have HGL2 := Lib.hid hgl
      clear hgl hse
      go_wp2_with fail
      refine (len_any B rb bm 9 ((G1 ++ G2) ++ [h9]) wh (HRG.out.keep HX_wh.out)).mono ?_
      rintro e wi ⟨rfl, hwi⟩
      rw [HGL2.out]
      obtain rfl : wh = wi := hwi.symm
      go_wp2_with fail
      go_ret
      refine ⟨rfl, HX06.out.andThen ((((HU.out.andThen HXC.out (fun k _ h => h.elim)).trans HUD.out).andThen HXF.out (fun k _ h => h.elim)).trans (HUG.out.andThen HX_wh.out (fun k _ h => h.elim))) (fun k h1 h2 => ?_)⟩
      have h3 := HBE.out
      have h4 := HX06.out.size
      omega
end Go.Proofs.YtabjihchcmjdmaaDoor
