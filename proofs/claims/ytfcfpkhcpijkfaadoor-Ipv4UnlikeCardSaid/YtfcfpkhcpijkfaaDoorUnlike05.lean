/-
  The walk of Ipv4Unlike. By an AI agent.
-/
import Derived.Test.YtfcfpkhcpijkfaaDoorShown05
import Derived.Test.YtfcfpkhcpijkfaaDoorStr
namespace Go.Proofs.YtfcfpkhcpijkfaaDoor
open Go.RowKit

set_option maxRecDepth 100000 in
set_option maxHeartbeats 8000000 in
theorem unlike05_any (p q : Pk) (A B : Option Addr) (c d : Nat) (w : World) (okp : p.ok) (okq : q.ok) (hp : RB w (fun _ => True) (.slice A p.b.length c) p.b) (hq : RB w (fun _ => True) (.slice B q.b.length d) q.b) (hg : ET w) :
    Calls Tryd.prog 11 #[pkv p (.slice A p.b.length c), pkv q (.slice B q.b.length d)] w fun e w' => e = .returned (.bool true) ∧ Ex (fun _ => False) w w' := by
  obtain ⟨xtos, xid, xdf, xmf, xoff, xttl, xpr, xsrc, xdst, xb⟩ := p
  obtain ⟨ytos, yid, ydf, ymf, yoff, yttl, ypr, ysrc, ydst, yb⟩ := q
  simp only at hp hq
  have HG := Lib.hid hg
  have HP := Lib.hid hp
  have HQ := Lib.hid hq
  have OKP := Lib.hid okp
  have OKQ := Lib.hid okq
  clear hp hq okp okq hg
  show Calls Tryd.prog 11 #[.agg #[.int .u8 xtos, .int .u16 xid, .bool xdf, .bool xmf, .int .i64 xoff, .int .u8 xttl, .int .u8 xpr, .int .u32 xsrc, .int .u32 xdst, .slice A xb.length c], .agg #[.int .u8 ytos, .int .u16 yid, .bool ydf, .bool ymf, .int .i64 yoff, .int .u8 yttl, .int .u8 ypr, .int .u32 ysrc, .int .u32 ydst, .slice B yb.length d]] w _
  go_enter Tryd.func11, Tryd.ntmps11
  go_upto_region 1 with fail
  have hx : Ex (fun _ => False) w (w.alloc (.cells #[.int .u8 xtos, .int .u16 xid, .bool xdf, .bool xmf, .int .i64 xoff, .int .u8 xttl, .int .u8 xpr, .int .u32 xsrc, .int .u32 xdst, .slice A xb.length c] 51)) := (Ex.refl _ w).alloc _
  have hb : (w.alloc (.cells #[.int .u8 xtos, .int .u16 xid, .bool xdf, .bool xmf, .int .i64 xoff, .int .u8 xttl, .int .u8 xpr, .int .u32 xsrc, .int .u32 xdst, .slice A xb.length c] 51)).heap[w.heap.size]? = some (.cells #[.int .u8 xtos, .int .u16 xid, .bool xdf, .bool xmf, .int .i64 xoff, .int .u8 xttl, .int .u8 xpr, .int .u32 xsrc, .int .u32 xdst, .slice A xb.length c] 51) := heap_alloc_new w _
  have hs1 : (w.alloc (.cells #[.int .u8 xtos, .int .u16 xid, .bool xdf, .bool xmf, .int .i64 xoff, .int .u8 xttl, .int .u8 xpr, .int .u32 xsrc, .int .u32 xdst, .slice A xb.length c] 51)).heap.size = w.heap.size + 1 := by simp
  obtain ⟨bp, hbp⟩ : ∃ bp, bp = w.heap.size := ⟨_, rfl⟩
  have hb_bp : w.heap.size ≤ bp := by omega
  rw [← hbp] at hb hs1 
  try simp only [← hbp]
  generalize w.alloc (.cells #[.int .u8 xtos, .int .u16 xid, .bool xdf, .bool xmf, .int .i64 xoff, .int .u8 xttl, .int .u8 xpr, .int .u32 xsrc, .int .u32 xdst, .slice A xb.length c] 51) = w1 at hx hb  hs1 ⊢
  try simp only [← hs1]
  clear hs1
  clear hbp
  have HX_w1 := Lib.hid hx
  clear hx
  have B_bp := Lib.hid hb
  clear hb
  have hx : Ex (fun _ => False) w1 (w1.alloc (.cells #[.int .u8 ytos, .int .u16 yid, .bool ydf, .bool ymf, .int .i64 yoff, .int .u8 yttl, .int .u8 ypr, .int .u32 ysrc, .int .u32 ydst, .slice B yb.length d] 51)) := (Ex.refl _ w1).alloc _
  have hb : (w1.alloc (.cells #[.int .u8 ytos, .int .u16 yid, .bool ydf, .bool ymf, .int .i64 yoff, .int .u8 yttl, .int .u8 ypr, .int .u32 ysrc, .int .u32 ydst, .slice B yb.length d] 51)).heap[w1.heap.size]? = some (.cells #[.int .u8 ytos, .int .u16 yid, .bool ydf, .bool ymf, .int .i64 yoff, .int .u8 yttl, .int .u8 ypr, .int .u32 ysrc, .int .u32 ydst, .slice B yb.length d] 51) := heap_alloc_new w1 _
  obtain ⟨bq, hbq⟩ : ∃ bq, bq = w1.heap.size := ⟨_, rfl⟩
  have hb_bq : w1.heap.size ≤ bq := by omega
  rw [← hbq] at hb
  try simp only [← hbq]
  generalize w1.alloc (.cells #[.int .u8 ytos, .int .u16 yid, .bool ydf, .bool ymf, .int .i64 yoff, .int .u8 yttl, .int .u8 ypr, .int .u32 ysrc, .int .u32 ydst, .slice B yb.length d] 51) = w2 at hx hb ⊢
  clear hbq
  have HX_w2 := Lib.hid hx
  clear hx
  have B_bq := Lib.hid hb
  clear hb
  have hlp := row_lt B_bp.out
  have hlq := row_lt B_bq.out
  have ne_bp_bq : bp ≠ bq := by omega
  go_wp2_with fail
  refine (shown5_any w2 (HG.out.keep (HX_w1.out.trans HX_w2.out) id)).mono ?_
  rintro e w3 ⟨rfl, hx⟩
  have hz23 := hx.size
  have HX_w3 := Lib.hid hx
  clear hx
  replace B_bp := Lib.hid (((HX_w2.out.trans HX_w3.out).block bp (row_lt B_bp.out) id).trans B_bp.out)
  have cbp0 := row_cell (k := 0) (v := .int .u8 xtos) B_bp.out rfl
  have cbp1 := row_cell (k := 1) (v := .int .u16 xid) B_bp.out rfl
  have cbp2 := row_cell (k := 2) (v := .bool xdf) B_bp.out rfl
  have cbp3 := row_cell (k := 3) (v := .bool xmf) B_bp.out rfl
  have cbp4 := row_cell (k := 4) (v := .int .i64 xoff) B_bp.out rfl
  have cbp5 := row_cell (k := 5) (v := .int .u8 xttl) B_bp.out rfl
  have cbp6 := row_cell (k := 6) (v := .int .u8 xpr) B_bp.out rfl
  have cbp7 := row_cell (k := 7) (v := .int .u32 xsrc) B_bp.out rfl
  have cbp8 := row_cell (k := 8) (v := .int .u32 xdst) B_bp.out rfl
  have cbp9 := row_cell (k := 9) (v := .slice A xb.length c) B_bp.out rfl
  have fbp0 := row_frozen B_bp.out 0
  have fbp1 := row_frozen B_bp.out 1
  have fbp2 := row_frozen B_bp.out 2
  have fbp3 := row_frozen B_bp.out 3
  have fbp4 := row_frozen B_bp.out 4
  have fbp5 := row_frozen B_bp.out 5
  have fbp6 := row_frozen B_bp.out 6
  have fbp7 := row_frozen B_bp.out 7
  have fbp8 := row_frozen B_bp.out 8
  have fbp9 := row_frozen B_bp.out 9
  go_wp2_with fail
  refine (few5_any _ (⟨xtos, xid, xdf, xmf, xoff, xttl, xpr, xsrc, xdst, xb⟩ : Pk) A c w3 (RB.keep HP.out ((HX_w1.out.trans HX_w2.out).trans HX_w3.out) (fun _ _ _ => id))).mono ?_
  rintro e w4 ⟨xA, xc, rfl, ho, hx⟩
  obtain ⟨xl, hxl⟩ : ∃ l, l = xb.take 3000 := ⟨_, rfl⟩
  have hfw : (⟨xtos, xid, xdf, xmf, xoff, xttl, xpr, xsrc, xdst, xb⟩ : Pk).few 3000 = (⟨xtos, xid, xdf, xmf, xoff, xttl, xpr, xsrc, xdst, xl⟩ : Pk) := by rw [hxl]; rfl
  rw [hfw] at ho ⊢
  have hxn : xl.length ≤ 3000 := by rw [hxl, List.length_take]; omega
  have hv : pkv (⟨xtos, xid, xdf, xmf, xoff, xttl, xpr, xsrc, xdst, xl⟩ : Pk) (.slice (some xA) (⟨xtos, xid, xdf, xmf, xoff, xttl, xpr, xsrc, xdst, xl⟩ : Pk).b.length xc) = .agg #[.int .u8 xtos, .int .u16 xid, .bool xdf, .bool xmf, .int .i64 xoff, .int .u8 xttl, .int .u8 xpr, .int .u32 xsrc, .int .u32 xdst, .slice (some xA) xl.length xc] := rfl
  rw [hv]
  have ho' : OB w4 w3.heap.size (.slice (some xA) xl.length xc) xl := ho
  clear hv hfw hxl ho cbp0 cbp1 cbp2 cbp3 cbp4 cbp5 cbp6 cbp7 cbp8 cbp9 fbp0 fbp1 fbp2 fbp3 fbp4 fbp5 fbp6 fbp7 fbp8 fbp9
  have HX_w4 := Lib.hid hx
  clear hx
  have HO_x := Lib.hid ho'
  clear ho'
  have hbl_bp := row_lt B_bp.out
  replace B_bp := Lib.hid ((HX_w4.out.block bp (row_lt B_bp.out) id).trans B_bp.out)
  have cbp0 := row_cell (k := 0) (v := .int .u8 xtos) B_bp.out rfl
  have cbp1 := row_cell (k := 1) (v := .int .u16 xid) B_bp.out rfl
  have cbp2 := row_cell (k := 2) (v := .bool xdf) B_bp.out rfl
  have cbp3 := row_cell (k := 3) (v := .bool xmf) B_bp.out rfl
  have cbp4 := row_cell (k := 4) (v := .int .i64 xoff) B_bp.out rfl
  have cbp5 := row_cell (k := 5) (v := .int .u8 xttl) B_bp.out rfl
  have cbp6 := row_cell (k := 6) (v := .int .u8 xpr) B_bp.out rfl
  have cbp7 := row_cell (k := 7) (v := .int .u32 xsrc) B_bp.out rfl
  have cbp8 := row_cell (k := 8) (v := .int .u32 xdst) B_bp.out rfl
  have cbp9 := row_cell (k := 9) (v := .slice A xb.length c) B_bp.out rfl
  have fbp0 := row_frozen B_bp.out 0
  have fbp1 := row_frozen B_bp.out 1
  have fbp2 := row_frozen B_bp.out 2
  have fbp3 := row_frozen B_bp.out 3
  have fbp4 := row_frozen B_bp.out 4
  have fbp5 := row_frozen B_bp.out 5
  have fbp6 := row_frozen B_bp.out 6
  have fbp7 := row_frozen B_bp.out 7
  have fbp8 := row_frozen B_bp.out 8
  have fbp9 := row_frozen B_bp.out 9
  go_upto_region 3 with fail
  have r0 : (w4.setCell ⟨bp, 0, none⟩ (.int .u8 xtos)).heap[bp]? = some (.cells #[.int .u8 xtos, .int .u16 xid, .bool xdf, .bool xmf, .int .i64 xoff, .int .u8 xttl, .int .u8 xpr, .int .u32 xsrc, .int .u32 xdst, .slice A xb.length c] 51) := row_set B_bp.out 0 (.int .u8 xtos)
  have r1 : ((w4.setCell ⟨bp, 0, none⟩ (.int .u8 xtos)).setCell ⟨bp, 1, none⟩ (.int .u16 xid)).heap[bp]? = some (.cells #[.int .u8 xtos, .int .u16 xid, .bool xdf, .bool xmf, .int .i64 xoff, .int .u8 xttl, .int .u8 xpr, .int .u32 xsrc, .int .u32 xdst, .slice A xb.length c] 51) := row_set r0 1 (.int .u16 xid)
  clear r0
  have r2 : (((w4.setCell ⟨bp, 0, none⟩ (.int .u8 xtos)).setCell ⟨bp, 1, none⟩ (.int .u16 xid)).setCell ⟨bp, 2, none⟩ (.bool xdf)).heap[bp]? = some (.cells #[.int .u8 xtos, .int .u16 xid, .bool xdf, .bool xmf, .int .i64 xoff, .int .u8 xttl, .int .u8 xpr, .int .u32 xsrc, .int .u32 xdst, .slice A xb.length c] 51) := row_set r1 2 (.bool xdf)
  clear r1
  have r3 : ((((w4.setCell ⟨bp, 0, none⟩ (.int .u8 xtos)).setCell ⟨bp, 1, none⟩ (.int .u16 xid)).setCell ⟨bp, 2, none⟩ (.bool xdf)).setCell ⟨bp, 3, none⟩ (.bool xmf)).heap[bp]? = some (.cells #[.int .u8 xtos, .int .u16 xid, .bool xdf, .bool xmf, .int .i64 xoff, .int .u8 xttl, .int .u8 xpr, .int .u32 xsrc, .int .u32 xdst, .slice A xb.length c] 51) := row_set r2 3 (.bool xmf)
  clear r2
  have r4 : (((((w4.setCell ⟨bp, 0, none⟩ (.int .u8 xtos)).setCell ⟨bp, 1, none⟩ (.int .u16 xid)).setCell ⟨bp, 2, none⟩ (.bool xdf)).setCell ⟨bp, 3, none⟩ (.bool xmf)).setCell ⟨bp, 4, none⟩ (.int .i64 xoff)).heap[bp]? = some (.cells #[.int .u8 xtos, .int .u16 xid, .bool xdf, .bool xmf, .int .i64 xoff, .int .u8 xttl, .int .u8 xpr, .int .u32 xsrc, .int .u32 xdst, .slice A xb.length c] 51) := row_set r3 4 (.int .i64 xoff)
  clear r3
  have r5 : ((((((w4.setCell ⟨bp, 0, none⟩ (.int .u8 xtos)).setCell ⟨bp, 1, none⟩ (.int .u16 xid)).setCell ⟨bp, 2, none⟩ (.bool xdf)).setCell ⟨bp, 3, none⟩ (.bool xmf)).setCell ⟨bp, 4, none⟩ (.int .i64 xoff)).setCell ⟨bp, 5, none⟩ (.int .u8 xttl)).heap[bp]? = some (.cells #[.int .u8 xtos, .int .u16 xid, .bool xdf, .bool xmf, .int .i64 xoff, .int .u8 xttl, .int .u8 xpr, .int .u32 xsrc, .int .u32 xdst, .slice A xb.length c] 51) := row_set r4 5 (.int .u8 xttl)
  clear r4
  have r6 : (((((((w4.setCell ⟨bp, 0, none⟩ (.int .u8 xtos)).setCell ⟨bp, 1, none⟩ (.int .u16 xid)).setCell ⟨bp, 2, none⟩ (.bool xdf)).setCell ⟨bp, 3, none⟩ (.bool xmf)).setCell ⟨bp, 4, none⟩ (.int .i64 xoff)).setCell ⟨bp, 5, none⟩ (.int .u8 xttl)).setCell ⟨bp, 6, none⟩ (.int .u8 xpr)).heap[bp]? = some (.cells #[.int .u8 xtos, .int .u16 xid, .bool xdf, .bool xmf, .int .i64 xoff, .int .u8 xttl, .int .u8 xpr, .int .u32 xsrc, .int .u32 xdst, .slice A xb.length c] 51) := row_set r5 6 (.int .u8 xpr)
  clear r5
  have r7 : ((((((((w4.setCell ⟨bp, 0, none⟩ (.int .u8 xtos)).setCell ⟨bp, 1, none⟩ (.int .u16 xid)).setCell ⟨bp, 2, none⟩ (.bool xdf)).setCell ⟨bp, 3, none⟩ (.bool xmf)).setCell ⟨bp, 4, none⟩ (.int .i64 xoff)).setCell ⟨bp, 5, none⟩ (.int .u8 xttl)).setCell ⟨bp, 6, none⟩ (.int .u8 xpr)).setCell ⟨bp, 7, none⟩ (.int .u32 xsrc)).heap[bp]? = some (.cells #[.int .u8 xtos, .int .u16 xid, .bool xdf, .bool xmf, .int .i64 xoff, .int .u8 xttl, .int .u8 xpr, .int .u32 xsrc, .int .u32 xdst, .slice A xb.length c] 51) := row_set r6 7 (.int .u32 xsrc)
  clear r6
  have r8 : (((((((((w4.setCell ⟨bp, 0, none⟩ (.int .u8 xtos)).setCell ⟨bp, 1, none⟩ (.int .u16 xid)).setCell ⟨bp, 2, none⟩ (.bool xdf)).setCell ⟨bp, 3, none⟩ (.bool xmf)).setCell ⟨bp, 4, none⟩ (.int .i64 xoff)).setCell ⟨bp, 5, none⟩ (.int .u8 xttl)).setCell ⟨bp, 6, none⟩ (.int .u8 xpr)).setCell ⟨bp, 7, none⟩ (.int .u32 xsrc)).setCell ⟨bp, 8, none⟩ (.int .u32 xdst)).heap[bp]? = some (.cells #[.int .u8 xtos, .int .u16 xid, .bool xdf, .bool xmf, .int .i64 xoff, .int .u8 xttl, .int .u8 xpr, .int .u32 xsrc, .int .u32 xdst, .slice A xb.length c] 51) := row_set r7 8 (.int .u32 xdst)
  clear r7
  have r9 : ((((((((((w4.setCell ⟨bp, 0, none⟩ (.int .u8 xtos)).setCell ⟨bp, 1, none⟩ (.int .u16 xid)).setCell ⟨bp, 2, none⟩ (.bool xdf)).setCell ⟨bp, 3, none⟩ (.bool xmf)).setCell ⟨bp, 4, none⟩ (.int .i64 xoff)).setCell ⟨bp, 5, none⟩ (.int .u8 xttl)).setCell ⟨bp, 6, none⟩ (.int .u8 xpr)).setCell ⟨bp, 7, none⟩ (.int .u32 xsrc)).setCell ⟨bp, 8, none⟩ (.int .u32 xdst)).setCell ⟨bp, 9, none⟩ (.slice (some xA) xl.length xc)).heap[bp]? = some (.cells #[.int .u8 xtos, .int .u16 xid, .bool xdf, .bool xmf, .int .i64 xoff, .int .u8 xttl, .int .u8 xpr, .int .u32 xsrc, .int .u32 xdst, .slice (some xA) xl.length xc] 51) := row_set r8 9 (.slice (some xA) xl.length xc)
  clear r8
  have hx : Ex (fun j => j = bp) w4 ((((((((((w4.setCell ⟨bp, 0, none⟩ (.int .u8 xtos)).setCell ⟨bp, 1, none⟩ (.int .u16 xid)).setCell ⟨bp, 2, none⟩ (.bool xdf)).setCell ⟨bp, 3, none⟩ (.bool xmf)).setCell ⟨bp, 4, none⟩ (.int .i64 xoff)).setCell ⟨bp, 5, none⟩ (.int .u8 xttl)).setCell ⟨bp, 6, none⟩ (.int .u8 xpr)).setCell ⟨bp, 7, none⟩ (.int .u32 xsrc)).setCell ⟨bp, 8, none⟩ (.int .u32 xdst)).setCell ⟨bp, 9, none⟩ (.slice (some xA) xl.length xc)) := (((((((((((Ex.refl (fun j => j = bp) w4).setCell (p := ⟨bp, 0, none⟩) (.inl rfl) (.int .u8 xtos)).setCell (p := ⟨bp, 1, none⟩) (.inl rfl) (.int .u16 xid)).setCell (p := ⟨bp, 2, none⟩) (.inl rfl) (.bool xdf)).setCell (p := ⟨bp, 3, none⟩) (.inl rfl) (.bool xmf)).setCell (p := ⟨bp, 4, none⟩) (.inl rfl) (.int .i64 xoff)).setCell (p := ⟨bp, 5, none⟩) (.inl rfl) (.int .u8 xttl)).setCell (p := ⟨bp, 6, none⟩) (.inl rfl) (.int .u8 xpr)).setCell (p := ⟨bp, 7, none⟩) (.inl rfl) (.int .u32 xsrc)).setCell (p := ⟨bp, 8, none⟩) (.inl rfl) (.int .u32 xdst)).setCell (p := ⟨bp, 9, none⟩) (.inl rfl) (.slice (some xA) xl.length xc))
  clear cbp0 cbp1 cbp2 cbp3 cbp4 cbp5 cbp6 cbp7 cbp8 cbp9 fbp0 fbp1 fbp2 fbp3 fbp4 fbp5 fbp6 fbp7 fbp8 fbp9
  generalize ((((((((((w4.setCell ⟨bp, 0, none⟩ (.int .u8 xtos)).setCell ⟨bp, 1, none⟩ (.int .u16 xid)).setCell ⟨bp, 2, none⟩ (.bool xdf)).setCell ⟨bp, 3, none⟩ (.bool xmf)).setCell ⟨bp, 4, none⟩ (.int .i64 xoff)).setCell ⟨bp, 5, none⟩ (.int .u8 xttl)).setCell ⟨bp, 6, none⟩ (.int .u8 xpr)).setCell ⟨bp, 7, none⟩ (.int .u32 xsrc)).setCell ⟨bp, 8, none⟩ (.int .u32 xdst)).setCell ⟨bp, 9, none⟩ (.slice (some xA) xl.length xc)) = w5 at r9 hx ⊢
  replace B_bp := Lib.hid r9
  clear r9
  have HX_w5 := Lib.hid hx
  clear hx
  replace B_bq := Lib.hid ((HX_w5.out.block bq (row_lt (((HX_w3.out.trans HX_w4.out).block bq (row_lt B_bq.out) id).trans B_bq.out)) ne_bp_bq.symm).trans (((HX_w3.out.trans HX_w4.out).block bq (row_lt B_bq.out) id).trans B_bq.out))
  have cbq0 := row_cell (k := 0) (v := .int .u8 ytos) B_bq.out rfl
  have cbq1 := row_cell (k := 1) (v := .int .u16 yid) B_bq.out rfl
  have cbq2 := row_cell (k := 2) (v := .bool ydf) B_bq.out rfl
  have cbq3 := row_cell (k := 3) (v := .bool ymf) B_bq.out rfl
  have cbq4 := row_cell (k := 4) (v := .int .i64 yoff) B_bq.out rfl
  have cbq5 := row_cell (k := 5) (v := .int .u8 yttl) B_bq.out rfl
  have cbq6 := row_cell (k := 6) (v := .int .u8 ypr) B_bq.out rfl
  have cbq7 := row_cell (k := 7) (v := .int .u32 ysrc) B_bq.out rfl
  have cbq8 := row_cell (k := 8) (v := .int .u32 ydst) B_bq.out rfl
  have cbq9 := row_cell (k := 9) (v := .slice B yb.length d) B_bq.out rfl
  have fbq0 := row_frozen B_bq.out 0
  have fbq1 := row_frozen B_bq.out 1
  have fbq2 := row_frozen B_bq.out 2
  have fbq3 := row_frozen B_bq.out 3
  have fbq4 := row_frozen B_bq.out 4
  have fbq5 := row_frozen B_bq.out 5
  have fbq6 := row_frozen B_bq.out 6
  have fbq7 := row_frozen B_bq.out 7
  have fbq8 := row_frozen B_bq.out 8
  have fbq9 := row_frozen B_bq.out 9
  go_wp2_with fail
  refine (few5_any _ (⟨ytos, yid, ydf, ymf, yoff, yttl, ypr, ysrc, ydst, yb⟩ : Pk) B d w5 (RB.keep HQ.out ((((HX_w1.out.trans HX_w2.out).trans HX_w3.out).trans HX_w4.out).andThen HX_w5.out (fun i hi e => by have := hb_bp; omega)) (fun _ _ _ => id))).mono ?_
  rintro e w6 ⟨yA, yc, rfl, ho, hx⟩
  obtain ⟨yl, hyl⟩ : ∃ l, l = yb.take 3000 := ⟨_, rfl⟩
  have hfw : (⟨ytos, yid, ydf, ymf, yoff, yttl, ypr, ysrc, ydst, yb⟩ : Pk).few 3000 = (⟨ytos, yid, ydf, ymf, yoff, yttl, ypr, ysrc, ydst, yl⟩ : Pk) := by rw [hyl]; rfl
  rw [hfw] at ho ⊢
  have hyn : yl.length ≤ 3000 := by rw [hyl, List.length_take]; omega
  have hv : pkv (⟨ytos, yid, ydf, ymf, yoff, yttl, ypr, ysrc, ydst, yl⟩ : Pk) (.slice (some yA) (⟨ytos, yid, ydf, ymf, yoff, yttl, ypr, ysrc, ydst, yl⟩ : Pk).b.length yc) = .agg #[.int .u8 ytos, .int .u16 yid, .bool ydf, .bool ymf, .int .i64 yoff, .int .u8 yttl, .int .u8 ypr, .int .u32 ysrc, .int .u32 ydst, .slice (some yA) yl.length yc] := rfl
  rw [hv]
  have ho' : OB w6 w5.heap.size (.slice (some yA) yl.length yc) yl := ho
  clear hv hfw hyl ho cbq0 cbq1 cbq2 cbq3 cbq4 cbq5 cbq6 cbq7 cbq8 cbq9 fbq0 fbq1 fbq2 fbq3 fbq4 fbq5 fbq6 fbq7 fbq8 fbq9
  have HX_w6 := Lib.hid hx
  clear hx
  have HO_y := Lib.hid ho'
  clear ho'
  have hbl_bq := row_lt B_bq.out
  replace B_bq := Lib.hid ((HX_w6.out.block bq (row_lt B_bq.out) id).trans B_bq.out)
  have cbq0 := row_cell (k := 0) (v := .int .u8 ytos) B_bq.out rfl
  have cbq1 := row_cell (k := 1) (v := .int .u16 yid) B_bq.out rfl
  have cbq2 := row_cell (k := 2) (v := .bool ydf) B_bq.out rfl
  have cbq3 := row_cell (k := 3) (v := .bool ymf) B_bq.out rfl
  have cbq4 := row_cell (k := 4) (v := .int .i64 yoff) B_bq.out rfl
  have cbq5 := row_cell (k := 5) (v := .int .u8 yttl) B_bq.out rfl
  have cbq6 := row_cell (k := 6) (v := .int .u8 ypr) B_bq.out rfl
  have cbq7 := row_cell (k := 7) (v := .int .u32 ysrc) B_bq.out rfl
  have cbq8 := row_cell (k := 8) (v := .int .u32 ydst) B_bq.out rfl
  have cbq9 := row_cell (k := 9) (v := .slice B yb.length d) B_bq.out rfl
  have fbq0 := row_frozen B_bq.out 0
  have fbq1 := row_frozen B_bq.out 1
  have fbq2 := row_frozen B_bq.out 2
  have fbq3 := row_frozen B_bq.out 3
  have fbq4 := row_frozen B_bq.out 4
  have fbq5 := row_frozen B_bq.out 5
  have fbq6 := row_frozen B_bq.out 6
  have fbq7 := row_frozen B_bq.out 7
  have fbq8 := row_frozen B_bq.out 8
  have fbq9 := row_frozen B_bq.out 9
  go_upto_region 4 with fail
  have r0 : (w6.setCell ⟨bq, 0, none⟩ (.int .u8 ytos)).heap[bq]? = some (.cells #[.int .u8 ytos, .int .u16 yid, .bool ydf, .bool ymf, .int .i64 yoff, .int .u8 yttl, .int .u8 ypr, .int .u32 ysrc, .int .u32 ydst, .slice B yb.length d] 51) := row_set B_bq.out 0 (.int .u8 ytos)
  have r1 : ((w6.setCell ⟨bq, 0, none⟩ (.int .u8 ytos)).setCell ⟨bq, 1, none⟩ (.int .u16 yid)).heap[bq]? = some (.cells #[.int .u8 ytos, .int .u16 yid, .bool ydf, .bool ymf, .int .i64 yoff, .int .u8 yttl, .int .u8 ypr, .int .u32 ysrc, .int .u32 ydst, .slice B yb.length d] 51) := row_set r0 1 (.int .u16 yid)
  clear r0
  have r2 : (((w6.setCell ⟨bq, 0, none⟩ (.int .u8 ytos)).setCell ⟨bq, 1, none⟩ (.int .u16 yid)).setCell ⟨bq, 2, none⟩ (.bool ydf)).heap[bq]? = some (.cells #[.int .u8 ytos, .int .u16 yid, .bool ydf, .bool ymf, .int .i64 yoff, .int .u8 yttl, .int .u8 ypr, .int .u32 ysrc, .int .u32 ydst, .slice B yb.length d] 51) := row_set r1 2 (.bool ydf)
  clear r1
  have r3 : ((((w6.setCell ⟨bq, 0, none⟩ (.int .u8 ytos)).setCell ⟨bq, 1, none⟩ (.int .u16 yid)).setCell ⟨bq, 2, none⟩ (.bool ydf)).setCell ⟨bq, 3, none⟩ (.bool ymf)).heap[bq]? = some (.cells #[.int .u8 ytos, .int .u16 yid, .bool ydf, .bool ymf, .int .i64 yoff, .int .u8 yttl, .int .u8 ypr, .int .u32 ysrc, .int .u32 ydst, .slice B yb.length d] 51) := row_set r2 3 (.bool ymf)
  clear r2
  have r4 : (((((w6.setCell ⟨bq, 0, none⟩ (.int .u8 ytos)).setCell ⟨bq, 1, none⟩ (.int .u16 yid)).setCell ⟨bq, 2, none⟩ (.bool ydf)).setCell ⟨bq, 3, none⟩ (.bool ymf)).setCell ⟨bq, 4, none⟩ (.int .i64 yoff)).heap[bq]? = some (.cells #[.int .u8 ytos, .int .u16 yid, .bool ydf, .bool ymf, .int .i64 yoff, .int .u8 yttl, .int .u8 ypr, .int .u32 ysrc, .int .u32 ydst, .slice B yb.length d] 51) := row_set r3 4 (.int .i64 yoff)
  clear r3
  have r5 : ((((((w6.setCell ⟨bq, 0, none⟩ (.int .u8 ytos)).setCell ⟨bq, 1, none⟩ (.int .u16 yid)).setCell ⟨bq, 2, none⟩ (.bool ydf)).setCell ⟨bq, 3, none⟩ (.bool ymf)).setCell ⟨bq, 4, none⟩ (.int .i64 yoff)).setCell ⟨bq, 5, none⟩ (.int .u8 yttl)).heap[bq]? = some (.cells #[.int .u8 ytos, .int .u16 yid, .bool ydf, .bool ymf, .int .i64 yoff, .int .u8 yttl, .int .u8 ypr, .int .u32 ysrc, .int .u32 ydst, .slice B yb.length d] 51) := row_set r4 5 (.int .u8 yttl)
  clear r4
  have r6 : (((((((w6.setCell ⟨bq, 0, none⟩ (.int .u8 ytos)).setCell ⟨bq, 1, none⟩ (.int .u16 yid)).setCell ⟨bq, 2, none⟩ (.bool ydf)).setCell ⟨bq, 3, none⟩ (.bool ymf)).setCell ⟨bq, 4, none⟩ (.int .i64 yoff)).setCell ⟨bq, 5, none⟩ (.int .u8 yttl)).setCell ⟨bq, 6, none⟩ (.int .u8 ypr)).heap[bq]? = some (.cells #[.int .u8 ytos, .int .u16 yid, .bool ydf, .bool ymf, .int .i64 yoff, .int .u8 yttl, .int .u8 ypr, .int .u32 ysrc, .int .u32 ydst, .slice B yb.length d] 51) := row_set r5 6 (.int .u8 ypr)
  clear r5
  have r7 : ((((((((w6.setCell ⟨bq, 0, none⟩ (.int .u8 ytos)).setCell ⟨bq, 1, none⟩ (.int .u16 yid)).setCell ⟨bq, 2, none⟩ (.bool ydf)).setCell ⟨bq, 3, none⟩ (.bool ymf)).setCell ⟨bq, 4, none⟩ (.int .i64 yoff)).setCell ⟨bq, 5, none⟩ (.int .u8 yttl)).setCell ⟨bq, 6, none⟩ (.int .u8 ypr)).setCell ⟨bq, 7, none⟩ (.int .u32 ysrc)).heap[bq]? = some (.cells #[.int .u8 ytos, .int .u16 yid, .bool ydf, .bool ymf, .int .i64 yoff, .int .u8 yttl, .int .u8 ypr, .int .u32 ysrc, .int .u32 ydst, .slice B yb.length d] 51) := row_set r6 7 (.int .u32 ysrc)
  clear r6
  have r8 : (((((((((w6.setCell ⟨bq, 0, none⟩ (.int .u8 ytos)).setCell ⟨bq, 1, none⟩ (.int .u16 yid)).setCell ⟨bq, 2, none⟩ (.bool ydf)).setCell ⟨bq, 3, none⟩ (.bool ymf)).setCell ⟨bq, 4, none⟩ (.int .i64 yoff)).setCell ⟨bq, 5, none⟩ (.int .u8 yttl)).setCell ⟨bq, 6, none⟩ (.int .u8 ypr)).setCell ⟨bq, 7, none⟩ (.int .u32 ysrc)).setCell ⟨bq, 8, none⟩ (.int .u32 ydst)).heap[bq]? = some (.cells #[.int .u8 ytos, .int .u16 yid, .bool ydf, .bool ymf, .int .i64 yoff, .int .u8 yttl, .int .u8 ypr, .int .u32 ysrc, .int .u32 ydst, .slice B yb.length d] 51) := row_set r7 8 (.int .u32 ydst)
  clear r7
  have r9 : ((((((((((w6.setCell ⟨bq, 0, none⟩ (.int .u8 ytos)).setCell ⟨bq, 1, none⟩ (.int .u16 yid)).setCell ⟨bq, 2, none⟩ (.bool ydf)).setCell ⟨bq, 3, none⟩ (.bool ymf)).setCell ⟨bq, 4, none⟩ (.int .i64 yoff)).setCell ⟨bq, 5, none⟩ (.int .u8 yttl)).setCell ⟨bq, 6, none⟩ (.int .u8 ypr)).setCell ⟨bq, 7, none⟩ (.int .u32 ysrc)).setCell ⟨bq, 8, none⟩ (.int .u32 ydst)).setCell ⟨bq, 9, none⟩ (.slice (some yA) yl.length yc)).heap[bq]? = some (.cells #[.int .u8 ytos, .int .u16 yid, .bool ydf, .bool ymf, .int .i64 yoff, .int .u8 yttl, .int .u8 ypr, .int .u32 ysrc, .int .u32 ydst, .slice (some yA) yl.length yc] 51) := row_set r8 9 (.slice (some yA) yl.length yc)
  clear r8
  have hx : Ex (fun j => j = bq) w6 ((((((((((w6.setCell ⟨bq, 0, none⟩ (.int .u8 ytos)).setCell ⟨bq, 1, none⟩ (.int .u16 yid)).setCell ⟨bq, 2, none⟩ (.bool ydf)).setCell ⟨bq, 3, none⟩ (.bool ymf)).setCell ⟨bq, 4, none⟩ (.int .i64 yoff)).setCell ⟨bq, 5, none⟩ (.int .u8 yttl)).setCell ⟨bq, 6, none⟩ (.int .u8 ypr)).setCell ⟨bq, 7, none⟩ (.int .u32 ysrc)).setCell ⟨bq, 8, none⟩ (.int .u32 ydst)).setCell ⟨bq, 9, none⟩ (.slice (some yA) yl.length yc)) := (((((((((((Ex.refl (fun j => j = bq) w6).setCell (p := ⟨bq, 0, none⟩) (.inl rfl) (.int .u8 ytos)).setCell (p := ⟨bq, 1, none⟩) (.inl rfl) (.int .u16 yid)).setCell (p := ⟨bq, 2, none⟩) (.inl rfl) (.bool ydf)).setCell (p := ⟨bq, 3, none⟩) (.inl rfl) (.bool ymf)).setCell (p := ⟨bq, 4, none⟩) (.inl rfl) (.int .i64 yoff)).setCell (p := ⟨bq, 5, none⟩) (.inl rfl) (.int .u8 yttl)).setCell (p := ⟨bq, 6, none⟩) (.inl rfl) (.int .u8 ypr)).setCell (p := ⟨bq, 7, none⟩) (.inl rfl) (.int .u32 ysrc)).setCell (p := ⟨bq, 8, none⟩) (.inl rfl) (.int .u32 ydst)).setCell (p := ⟨bq, 9, none⟩) (.inl rfl) (.slice (some yA) yl.length yc))
  clear cbq0 cbq1 cbq2 cbq3 cbq4 cbq5 cbq6 cbq7 cbq8 cbq9 fbq0 fbq1 fbq2 fbq3 fbq4 fbq5 fbq6 fbq7 fbq8 fbq9
  generalize ((((((((((w6.setCell ⟨bq, 0, none⟩ (.int .u8 ytos)).setCell ⟨bq, 1, none⟩ (.int .u16 yid)).setCell ⟨bq, 2, none⟩ (.bool ydf)).setCell ⟨bq, 3, none⟩ (.bool ymf)).setCell ⟨bq, 4, none⟩ (.int .i64 yoff)).setCell ⟨bq, 5, none⟩ (.int .u8 yttl)).setCell ⟨bq, 6, none⟩ (.int .u8 ypr)).setCell ⟨bq, 7, none⟩ (.int .u32 ysrc)).setCell ⟨bq, 8, none⟩ (.int .u32 ydst)).setCell ⟨bq, 9, none⟩ (.slice (some yA) yl.length yc)) = w7 at r9 hx ⊢
  replace B_bq := Lib.hid r9
  clear r9
  have HX_w7 := Lib.hid hx
  clear hx
  replace B_bp := Lib.hid ((HX_w7.out.block bp (row_lt ((HX_w6.out.block bp (row_lt B_bp.out) id).trans B_bp.out)) ne_bp_bq).trans ((HX_w6.out.block bp (row_lt B_bp.out) id).trans B_bp.out))
  have cbp0 := row_cell (k := 0) (v := .int .u8 xtos) B_bp.out rfl
  have cbp1 := row_cell (k := 1) (v := .int .u16 xid) B_bp.out rfl
  have cbp2 := row_cell (k := 2) (v := .bool xdf) B_bp.out rfl
  have cbp3 := row_cell (k := 3) (v := .bool xmf) B_bp.out rfl
  have cbp4 := row_cell (k := 4) (v := .int .i64 xoff) B_bp.out rfl
  have cbp5 := row_cell (k := 5) (v := .int .u8 xttl) B_bp.out rfl
  have cbp6 := row_cell (k := 6) (v := .int .u8 xpr) B_bp.out rfl
  have cbp7 := row_cell (k := 7) (v := .int .u32 xsrc) B_bp.out rfl
  have cbp8 := row_cell (k := 8) (v := .int .u32 xdst) B_bp.out rfl
  have cbp9 := row_cell (k := 9) (v := .slice (some xA) xl.length xc) B_bp.out rfl
  have okl : (⟨xtos, xid, xdf, xmf, xoff, xttl, xpr, xsrc, xdst, xl⟩ : Pk).ok := OKP.out
  go_wp2_with fail
  refine (pbytes_any _ (⟨xtos, xid, xdf, xmf, xoff, xttl, xpr, xsrc, xdst, xl⟩ : Pk) (some xA) xc w7 okl (OB.keepB (OB.keep (OB.keepB HO_x.out HX_w5.out (by omega)) HX_w6.out (fun _ _ _ _ => id)) HX_w7.out (by omega)).rb (by show xl.length ≤ _; omega)).mono ?_
  rintro e w8 ⟨hx, hcase⟩
  clear okl cbp0 cbp1 cbp2 cbp3 cbp4 cbp5 cbp6 cbp7 cbp8 cbp9
  have HX_w8 := Lib.hid hx
  clear hx
  rcases hcase with ⟨_, v8, rfl, he⟩ | ⟨hr8, A8, c8, rfl, ho⟩
  · obtain ⟨ty8, y8, rfl⟩ := he.shape
    clear he
    replace B_bq := Lib.hid ((HX_w8.out.block bq (row_lt B_bq.out) id).trans B_bq.out)
    have cbq0 := row_cell (k := 0) (v := .int .u8 ytos) B_bq.out rfl
    have cbq1 := row_cell (k := 1) (v := .int .u16 yid) B_bq.out rfl
    have cbq2 := row_cell (k := 2) (v := .bool ydf) B_bq.out rfl
    have cbq3 := row_cell (k := 3) (v := .bool ymf) B_bq.out rfl
    have cbq4 := row_cell (k := 4) (v := .int .i64 yoff) B_bq.out rfl
    have cbq5 := row_cell (k := 5) (v := .int .u8 yttl) B_bq.out rfl
    have cbq6 := row_cell (k := 6) (v := .int .u8 ypr) B_bq.out rfl
    have cbq7 := row_cell (k := 7) (v := .int .u32 ysrc) B_bq.out rfl
    have cbq8 := row_cell (k := 8) (v := .int .u32 ydst) B_bq.out rfl
    have cbq9 := row_cell (k := 9) (v := .slice (some yA) yl.length yc) B_bq.out rfl
    have okl : (⟨ytos, yid, ydf, ymf, yoff, yttl, ypr, ysrc, ydst, yl⟩ : Pk).ok := OKQ.out
    go_wp2_with fail
    refine (pbytes_any _ (⟨ytos, yid, ydf, ymf, yoff, yttl, ypr, ysrc, ydst, yl⟩ : Pk) (some yA) yc w8 okl (OB.keep (OB.keepB HO_y.out HX_w7.out (by omega)) HX_w8.out (fun _ _ _ _ => id)).rb (by show yl.length ≤ _; omega)).mono ?_
    rintro e w9 ⟨hx, hcase⟩
    clear okl cbq0 cbq1 cbq2 cbq3 cbq4 cbq5 cbq6 cbq7 cbq8 cbq9
    have HX_w9 := Lib.hid hx
    clear hx
    obtain ⟨u9, v9, rfl⟩ : ∃ u v, e = .returned (.tuple #[u, v]) := by
      rcases hcase with ⟨_, v, h, _⟩ | ⟨_, A, c, h, _⟩
      · exact ⟨_, _, h⟩
      · exact ⟨_, _, h⟩
    clear hcase
    go_wp2_with fail
    go_ret
    exact ⟨rfl, ((((((((HX_w1.out.trans HX_w2.out).trans HX_w3.out).trans HX_w4.out).andThen HX_w5.out (fun i hi e => by have := hb_bp; omega)).trans HX_w6.out).andThen HX_w7.out (fun i hi e => by have := HX_w1.out.size; have := hb_bq; omega)).trans HX_w8.out).trans HX_w9.out)⟩
  · have HR8 := Lib.hid hr8
    clear hr8
    have HO8 := Lib.hid ho
    clear ho
    replace B_bq := Lib.hid ((HX_w8.out.block bq (row_lt B_bq.out) id).trans B_bq.out)
    have cbq0 := row_cell (k := 0) (v := .int .u8 ytos) B_bq.out rfl
    have cbq1 := row_cell (k := 1) (v := .int .u16 yid) B_bq.out rfl
    have cbq2 := row_cell (k := 2) (v := .bool ydf) B_bq.out rfl
    have cbq3 := row_cell (k := 3) (v := .bool ymf) B_bq.out rfl
    have cbq4 := row_cell (k := 4) (v := .int .i64 yoff) B_bq.out rfl
    have cbq5 := row_cell (k := 5) (v := .int .u8 yttl) B_bq.out rfl
    have cbq6 := row_cell (k := 6) (v := .int .u8 ypr) B_bq.out rfl
    have cbq7 := row_cell (k := 7) (v := .int .u32 ysrc) B_bq.out rfl
    have cbq8 := row_cell (k := 8) (v := .int .u32 ydst) B_bq.out rfl
    have cbq9 := row_cell (k := 9) (v := .slice (some yA) yl.length yc) B_bq.out rfl
    have okl : (⟨ytos, yid, ydf, ymf, yoff, yttl, ypr, ysrc, ydst, yl⟩ : Pk).ok := OKQ.out
    go_wp2_with fail
    refine (pbytes_any _ (⟨ytos, yid, ydf, ymf, yoff, yttl, ypr, ysrc, ydst, yl⟩ : Pk) (some yA) yc w8 okl (OB.keep (OB.keepB HO_y.out HX_w7.out (by omega)) HX_w8.out (fun _ _ _ _ => id)).rb (by show yl.length ≤ _; omega)).mono ?_
    rintro e w9 ⟨hx, hcase⟩
    clear okl cbq0 cbq1 cbq2 cbq3 cbq4 cbq5 cbq6 cbq7 cbq8 cbq9
    have HX_w9 := Lib.hid hx
    clear hx
    rcases hcase with ⟨_, v9, rfl, he⟩ | ⟨hr9, A9, c9, rfl, ho⟩
    · obtain ⟨ty9, y9, rfl⟩ := he.shape
      clear he
      go_wp2_with fail
      go_ret
      exact ⟨rfl, ((((((((HX_w1.out.trans HX_w2.out).trans HX_w3.out).trans HX_w4.out).andThen HX_w5.out (fun i hi e => by have := hb_bp; omega)).trans HX_w6.out).andThen HX_w7.out (fun i hi e => by have := HX_w1.out.size; have := hb_bq; omega)).trans HX_w8.out).trans HX_w9.out)⟩
    · have HR9 := Lib.hid hr9
      clear hr9
      have HO9 := Lib.hid ho
      clear ho
      have hfin : (decide (pb (⟨xtos, xid, xdf, xmf, xoff, xttl, xpr, xsrc, xdst, xl⟩ : Pk) = pb (⟨ytos, yid, ydf, ymf, yoff, yttl, ypr, ysrc, ydst, yl⟩ : Pk)) == ((⟨xtos, xid, xdf, xmf, xoff, xttl, xpr, xsrc, xdst, xl⟩ : Pk).eqB (⟨ytos, yid, ydf, ymf, yoff, yttl, ypr, ysrc, ydst, yl⟩ : Pk))) = true := by
        by_cases h : (⟨xtos, xid, xdf, xmf, xoff, xttl, xpr, xsrc, xdst, xl⟩ : Pk) = (⟨ytos, yid, ydf, ymf, yoff, yttl, ypr, ysrc, ydst, yl⟩ : Pk)
        · rw [(Pk.eqB_iff _ _).2 h, decide_eq_true (congrArg pb h)]; rfl
        · rw [Pk.eqB_no h, decide_eq_false (fun h' => h (pb_inj OKP.out OKQ.out HR8.out HR9.out h'))]; rfl
      have HFIN := Lib.hid hfin
      clear hfin
      have hv1 : ∀ W, Ex (fun _ => False) w9 W → (convert 22 9 (.slice (some A8) (pb (⟨xtos, xid, xdf, xmf, xoff, xttl, xpr, xsrc, xdst, xl⟩ : Pk)).length c8)).run Tryd.prog W = .ok (.string (bs (pb (⟨xtos, xid, xdf, xmf, xoff, xttl, xpr, xsrc, xdst, xl⟩ : Pk)))) W := conv_later (RB.any (OB.keep HO8.out HX_w9.out (fun _ _ _ _ => id)).rb)
      have hv2 : ∀ W, Ex (fun _ => False) w9 W → (convert 22 9 (.slice (some A9) (pb (⟨ytos, yid, ydf, ymf, yoff, yttl, ypr, ysrc, ydst, yl⟩ : Pk)).length c9)).run Tryd.prog W = .ok (.string (bs (pb (⟨ytos, yid, ydf, ymf, yoff, yttl, ypr, ysrc, ydst, yl⟩ : Pk)))) W := conv_later (RB.any HO9.out.rb)
      have HV1 := Lib.hid hv1
      have HV2 := Lib.hid hv2
      clear hv1 hv2
      obtain ⟨m1, hm1⟩ : ∃ m, m = pb (⟨xtos, xid, xdf, xmf, xoff, xttl, xpr, xsrc, xdst, xl⟩ : Pk) := ⟨_, rfl⟩
      obtain ⟨m2, hm2⟩ : ∃ m, m = pb (⟨ytos, yid, ydf, ymf, yoff, yttl, ypr, ysrc, ydst, yl⟩ : Pk) := ⟨_, rfl⟩
      rw [← hm1, ← hm2] at HFIN
      rw [← hm1] at HV1 ⊢
      rw [← hm2] at HV2 ⊢
      clear hm1 hm2
      have hbx := (OB.keep (OB.keepB (OB.keep (OB.keepB HO_x.out HX_w5.out (by omega)) HX_w6.out (fun _ _ _ _ => id)) HX_w7.out (by omega)) (HX_w8.out.trans HX_w9.out) (fun _ _ _ _ => id)).rb.any
      have hby := (OB.keep (OB.keepB HO_y.out HX_w7.out (by omega)) (HX_w8.out.trans HX_w9.out) (fun _ _ _ _ => id)).rb.any
      have HBX := Lib.hid hbx
      have HBY := Lib.hid hby
      clear hbx hby
      go_upto_region 8 with fail
      replace B_bp := Lib.hid (((HX_w8.out.trans HX_w9.out).block bp (row_lt B_bp.out) id).trans B_bp.out)
      have cbp0 := row_cell (k := 0) (v := .int .u8 xtos) B_bp.out rfl
      have cbp1 := row_cell (k := 1) (v := .int .u16 xid) B_bp.out rfl
      have cbp2 := row_cell (k := 2) (v := .bool xdf) B_bp.out rfl
      have cbp3 := row_cell (k := 3) (v := .bool xmf) B_bp.out rfl
      have cbp4 := row_cell (k := 4) (v := .int .i64 xoff) B_bp.out rfl
      have cbp5 := row_cell (k := 5) (v := .int .u8 xttl) B_bp.out rfl
      have cbp6 := row_cell (k := 6) (v := .int .u8 xpr) B_bp.out rfl
      have cbp7 := row_cell (k := 7) (v := .int .u32 xsrc) B_bp.out rfl
      have cbp8 := row_cell (k := 8) (v := .int .u32 xdst) B_bp.out rfl
      have cbp9 := row_cell (k := 9) (v := .slice (some xA) xl.length xc) B_bp.out rfl
      replace B_bq := Lib.hid ((HX_w9.out.block bq (row_lt B_bq.out) id).trans B_bq.out)
      have cbq0 := row_cell (k := 0) (v := .int .u8 ytos) B_bq.out rfl
      have cbq1 := row_cell (k := 1) (v := .int .u16 yid) B_bq.out rfl
      have cbq2 := row_cell (k := 2) (v := .bool ydf) B_bq.out rfl
      have cbq3 := row_cell (k := 3) (v := .bool ymf) B_bq.out rfl
      have cbq4 := row_cell (k := 4) (v := .int .i64 yoff) B_bq.out rfl
      have cbq5 := row_cell (k := 5) (v := .int .u8 yttl) B_bq.out rfl
      have cbq6 := row_cell (k := 6) (v := .int .u8 ypr) B_bq.out rfl
      have cbq7 := row_cell (k := 7) (v := .int .u32 ysrc) B_bq.out rfl
      have cbq8 := row_cell (k := 8) (v := .int .u32 ydst) B_bq.out rfl
      have cbq9 := row_cell (k := 9) (v := .slice (some yA) yl.length yc) B_bq.out rfl
      have hS0 : Ex (fun _ => False) w9 w9.drew := (Ex.refl _ w9).drew
      obtain ⟨eq, heq⟩ : ∃ eq, eq = (⟨xtos, xid, xdf, xmf, xoff, xttl, xpr, xsrc, xdst, xl⟩ : Pk).eqB (⟨ytos, yid, ydf, ymf, yoff, yttl, ypr, ysrc, ydst, yl⟩ : Pk) := ⟨_, rfl⟩
      rw [← heq] at HFIN
      have HEQ := Lib.hid heq
      clear heq
      obtain ⟨dd, hdd⟩ : ∃ dd, dd = decide (m1 = m2) := ⟨_, rfl⟩
      rw [← hdd] at HFIN
      have HDD := Lib.hid hdd
      clear hdd
      refine wp_region_held_drew (S := fun W => Ex (fun _ => False) w9 W) (by kernel_rfl) hS0 (fun _ => ?_)
      refine wpAnyH_take (i := 0) (oi := { dst := some 32, op := Go.Op.move (Go.Operand.tmp 5), type := 4, pos := "more.go:18", after := #[], guard := none }) (v := ?v1) rfl (by kernel_rfl) (by kernel_rfl) (by kernel_rfl) (fun _ _ _ h => h) (Or.inl ⟨by rfl, ?hy1⟩) (by assumption) ?rest1
      case hy1 => (intro w hSw; (try dsimp only at hSw); have ecbp0 := hSw.cell cbp0 id; have ecbp1 := hSw.cell cbp1 id; have ecbp2 := hSw.cell cbp2 id; have ecbp3 := hSw.cell cbp3 id; have ecbp4 := hSw.cell cbp4 id; have ecbp5 := hSw.cell cbp5 id; have ecbp6 := hSw.cell cbp6 id; have ecbp7 := hSw.cell cbp7 id; have ecbp8 := hSw.cell cbp8 id; have ecbp9 := hSw.cell cbp9 id; have ecbq0 := hSw.cell cbq0 id; have ecbq1 := hSw.cell cbq1 id; have ecbq2 := hSw.cell cbq2 id; have ecbq3 := hSw.cell cbq3 id; have ecbq4 := hSw.cell cbq4 id; have ecbq5 := hSw.cell cbq5 id; have ecbq6 := hSw.cell cbq6 id; have ecbq7 := hSw.cell cbq7 id; have ecbq8 := hSw.cell cbq8 id; have ecbq9 := hSw.cell cbq9 id; have z1 := HV1.out _ hSw; have z2 := HV2.out _ hSw; have z3 := str_beq m1 m2; rw [← HDD.out] at z3; have z4 := HFIN.out; go_simp <;> with_reducible rfl)
      try simp only [Act.put, List.setIfInBounds_toArray, List.set_cons_zero, List.set_cons_succ]
      refine wpAnyH_take (i := 1) (oi := { dst := some 33, op := Go.Op.move (Go.Operand.tmp 32), type := 4, pos := "more.go:18", after := #[{ on := 0, ground := Go.Ground.data }], guard := none }) (v := ?v2) rfl (by kernel_rfl) (by kernel_rfl) (by kernel_rfl) (fun _ _ _ h => h) (Or.inl ⟨by rfl, ?hy2⟩) (by assumption) ?rest2
      case hy2 => (intro w hSw; (try dsimp only at hSw); have ecbp0 := hSw.cell cbp0 id; have ecbp1 := hSw.cell cbp1 id; have ecbp2 := hSw.cell cbp2 id; have ecbp3 := hSw.cell cbp3 id; have ecbp4 := hSw.cell cbp4 id; have ecbp5 := hSw.cell cbp5 id; have ecbp6 := hSw.cell cbp6 id; have ecbp7 := hSw.cell cbp7 id; have ecbp8 := hSw.cell cbp8 id; have ecbp9 := hSw.cell cbp9 id; have ecbq0 := hSw.cell cbq0 id; have ecbq1 := hSw.cell cbq1 id; have ecbq2 := hSw.cell cbq2 id; have ecbq3 := hSw.cell cbq3 id; have ecbq4 := hSw.cell cbq4 id; have ecbq5 := hSw.cell cbq5 id; have ecbq6 := hSw.cell cbq6 id; have ecbq7 := hSw.cell cbq7 id; have ecbq8 := hSw.cell cbq8 id; have ecbq9 := hSw.cell cbq9 id; have z1 := HV1.out _ hSw; have z2 := HV2.out _ hSw; have z3 := str_beq m1 m2; rw [← HDD.out] at z3; have z4 := HFIN.out; go_simp <;> with_reducible rfl)
      try simp only [Act.put, List.setIfInBounds_toArray, List.set_cons_zero, List.set_cons_succ]
      refine wpAnyH_take (i := 2) (oi := { dst := some 34, op := Go.Op.move (Go.Operand.tmp 6), type := 22, pos := "more.go:18", after := #[{ on := 1, ground := Go.Ground.guard }], guard := some (1, true) }) (v := ?v3) rfl (by kernel_rfl) (by kernel_rfl) (by kernel_rfl) (fun _ _ _ h => h) (Or.inl ⟨by rfl, ?hy3⟩) (by assumption) ?rest3
      case hy3 => (intro w hSw; (try dsimp only at hSw); have ecbp0 := hSw.cell cbp0 id; have ecbp1 := hSw.cell cbp1 id; have ecbp2 := hSw.cell cbp2 id; have ecbp3 := hSw.cell cbp3 id; have ecbp4 := hSw.cell cbp4 id; have ecbp5 := hSw.cell cbp5 id; have ecbp6 := hSw.cell cbp6 id; have ecbp7 := hSw.cell cbp7 id; have ecbp8 := hSw.cell cbp8 id; have ecbp9 := hSw.cell cbp9 id; have ecbq0 := hSw.cell cbq0 id; have ecbq1 := hSw.cell cbq1 id; have ecbq2 := hSw.cell cbq2 id; have ecbq3 := hSw.cell cbq3 id; have ecbq4 := hSw.cell cbq4 id; have ecbq5 := hSw.cell cbq5 id; have ecbq6 := hSw.cell cbq6 id; have ecbq7 := hSw.cell cbq7 id; have ecbq8 := hSw.cell cbq8 id; have ecbq9 := hSw.cell cbq9 id; have z1 := HV1.out _ hSw; have z2 := HV2.out _ hSw; have z3 := str_beq m1 m2; rw [← HDD.out] at z3; have z4 := HFIN.out; go_simp <;> with_reducible rfl)
      try simp only [Act.put, List.setIfInBounds_toArray, List.set_cons_zero, List.set_cons_succ]
      refine wpAnyH_take (i := 3) (oi := { dst := some 35, op := Go.Op.convert 22 9 (Go.Operand.tmp 34), type := 9, pos := "more.go:18", after := #[{ on := 2, ground := Go.Ground.data }, { on := 1, ground := Go.Ground.guard }], guard := some (1, true) }) (v := ?v4) rfl (by kernel_rfl) (by kernel_rfl) (by kernel_rfl) (fun _ _ _ h => h) (Or.inl ⟨by rfl, ?hy4⟩) (by assumption) ?rest4
      case hy4 => (intro w hSw; (try dsimp only at hSw); have ecbp0 := hSw.cell cbp0 id; have ecbp1 := hSw.cell cbp1 id; have ecbp2 := hSw.cell cbp2 id; have ecbp3 := hSw.cell cbp3 id; have ecbp4 := hSw.cell cbp4 id; have ecbp5 := hSw.cell cbp5 id; have ecbp6 := hSw.cell cbp6 id; have ecbp7 := hSw.cell cbp7 id; have ecbp8 := hSw.cell cbp8 id; have ecbp9 := hSw.cell cbp9 id; have ecbq0 := hSw.cell cbq0 id; have ecbq1 := hSw.cell cbq1 id; have ecbq2 := hSw.cell cbq2 id; have ecbq3 := hSw.cell cbq3 id; have ecbq4 := hSw.cell cbq4 id; have ecbq5 := hSw.cell cbq5 id; have ecbq6 := hSw.cell cbq6 id; have ecbq7 := hSw.cell cbq7 id; have ecbq8 := hSw.cell cbq8 id; have ecbq9 := hSw.cell cbq9 id; have z1 := HV1.out _ hSw; have z2 := HV2.out _ hSw; have z3 := str_beq m1 m2; rw [← HDD.out] at z3; have z4 := HFIN.out; go_simp <;> with_reducible rfl)
      try simp only [Act.put, List.setIfInBounds_toArray, List.set_cons_zero, List.set_cons_succ]
      refine wpAnyH_take (i := 4) (oi := { dst := some 36, op := Go.Op.move (Go.Operand.tmp 8), type := 22, pos := "more.go:18", after := #[{ on := 1, ground := Go.Ground.guard }], guard := some (1, true) }) (v := ?v5) rfl (by kernel_rfl) (by kernel_rfl) (by kernel_rfl) (fun _ _ _ h => h) (Or.inl ⟨by rfl, ?hy5⟩) (by assumption) ?rest5
      case hy5 => (intro w hSw; (try dsimp only at hSw); have ecbp0 := hSw.cell cbp0 id; have ecbp1 := hSw.cell cbp1 id; have ecbp2 := hSw.cell cbp2 id; have ecbp3 := hSw.cell cbp3 id; have ecbp4 := hSw.cell cbp4 id; have ecbp5 := hSw.cell cbp5 id; have ecbp6 := hSw.cell cbp6 id; have ecbp7 := hSw.cell cbp7 id; have ecbp8 := hSw.cell cbp8 id; have ecbp9 := hSw.cell cbp9 id; have ecbq0 := hSw.cell cbq0 id; have ecbq1 := hSw.cell cbq1 id; have ecbq2 := hSw.cell cbq2 id; have ecbq3 := hSw.cell cbq3 id; have ecbq4 := hSw.cell cbq4 id; have ecbq5 := hSw.cell cbq5 id; have ecbq6 := hSw.cell cbq6 id; have ecbq7 := hSw.cell cbq7 id; have ecbq8 := hSw.cell cbq8 id; have ecbq9 := hSw.cell cbq9 id; have z1 := HV1.out _ hSw; have z2 := HV2.out _ hSw; have z3 := str_beq m1 m2; rw [← HDD.out] at z3; have z4 := HFIN.out; go_simp <;> with_reducible rfl)
      try simp only [Act.put, List.setIfInBounds_toArray, List.set_cons_zero, List.set_cons_succ]
      refine wpAnyH_take (i := 5) (oi := { dst := some 37, op := Go.Op.convert 22 9 (Go.Operand.tmp 36), type := 9, pos := "more.go:18", after := #[{ on := 4, ground := Go.Ground.data }, { on := 1, ground := Go.Ground.guard }], guard := some (1, true) }) (v := ?v6) rfl (by kernel_rfl) (by kernel_rfl) (by kernel_rfl) (fun _ _ _ h => h) (Or.inl ⟨by rfl, ?hy6⟩) (by assumption) ?rest6
      case hy6 => (intro w hSw; (try dsimp only at hSw); have ecbp0 := hSw.cell cbp0 id; have ecbp1 := hSw.cell cbp1 id; have ecbp2 := hSw.cell cbp2 id; have ecbp3 := hSw.cell cbp3 id; have ecbp4 := hSw.cell cbp4 id; have ecbp5 := hSw.cell cbp5 id; have ecbp6 := hSw.cell cbp6 id; have ecbp7 := hSw.cell cbp7 id; have ecbp8 := hSw.cell cbp8 id; have ecbp9 := hSw.cell cbp9 id; have ecbq0 := hSw.cell cbq0 id; have ecbq1 := hSw.cell cbq1 id; have ecbq2 := hSw.cell cbq2 id; have ecbq3 := hSw.cell cbq3 id; have ecbq4 := hSw.cell cbq4 id; have ecbq5 := hSw.cell cbq5 id; have ecbq6 := hSw.cell cbq6 id; have ecbq7 := hSw.cell cbq7 id; have ecbq8 := hSw.cell cbq8 id; have ecbq9 := hSw.cell cbq9 id; have z1 := HV1.out _ hSw; have z2 := HV2.out _ hSw; have z3 := str_beq m1 m2; rw [← HDD.out] at z3; have z4 := HFIN.out; go_simp <;> with_reducible rfl)
      try simp only [Act.put, List.setIfInBounds_toArray, List.set_cons_zero, List.set_cons_succ]
      refine wpAnyH_take (i := 6) (oi := { dst := some 38, op := Go.Op.binOp Go.BinOp.eql 9 (Go.Operand.tmp 35) (Go.Operand.tmp 37) 9, type := 4, pos := "more.go:18", after := #[{ on := 3, ground := Go.Ground.data }, { on := 5, ground := Go.Ground.data }, { on := 1, ground := Go.Ground.guard }], guard := some (1, true) }) (v := ?v7) rfl (by kernel_rfl) (by kernel_rfl) (by kernel_rfl) (fun _ _ _ h => h) (Or.inl ⟨by rfl, ?hy7⟩) (by assumption) ?rest7
      case hy7 => (intro w hSw; (try dsimp only at hSw); have ecbp0 := hSw.cell cbp0 id; have ecbp1 := hSw.cell cbp1 id; have ecbp2 := hSw.cell cbp2 id; have ecbp3 := hSw.cell cbp3 id; have ecbp4 := hSw.cell cbp4 id; have ecbp5 := hSw.cell cbp5 id; have ecbp6 := hSw.cell cbp6 id; have ecbp7 := hSw.cell cbp7 id; have ecbp8 := hSw.cell cbp8 id; have ecbp9 := hSw.cell cbp9 id; have ecbq0 := hSw.cell cbq0 id; have ecbq1 := hSw.cell cbq1 id; have ecbq2 := hSw.cell cbq2 id; have ecbq3 := hSw.cell cbq3 id; have ecbq4 := hSw.cell cbq4 id; have ecbq5 := hSw.cell cbq5 id; have ecbq6 := hSw.cell cbq6 id; have ecbq7 := hSw.cell cbq7 id; have ecbq8 := hSw.cell cbq8 id; have ecbq9 := hSw.cell cbq9 id; have z1 := HV1.out _ hSw; have z2 := HV2.out _ hSw; have z3 := str_beq m1 m2; rw [← HDD.out] at z3; have z4 := HFIN.out; go_simp <;> with_reducible rfl)
      try simp only [Act.put, List.setIfInBounds_toArray, List.set_cons_zero, List.set_cons_succ]
      refine wpAnyH_take (i := 7) (oi := { dst := some 39, op := Go.Op.load 51 (Go.Operand.tmp 2), type := 51, pos := "more.go:18", after := #[{ on := 1, ground := Go.Ground.guard }], guard := some (1, true) }) (v := ?v8) rfl (by kernel_rfl) (by kernel_rfl) (by kernel_rfl) (fun _ _ _ h => h) (Or.inl ⟨by rfl, ?hy8⟩) (by assumption) ?rest8
      case hy8 => (intro w hSw; (try dsimp only at hSw); have ecbp0 := hSw.cell cbp0 id; have ecbp1 := hSw.cell cbp1 id; have ecbp2 := hSw.cell cbp2 id; have ecbp3 := hSw.cell cbp3 id; have ecbp4 := hSw.cell cbp4 id; have ecbp5 := hSw.cell cbp5 id; have ecbp6 := hSw.cell cbp6 id; have ecbp7 := hSw.cell cbp7 id; have ecbp8 := hSw.cell cbp8 id; have ecbp9 := hSw.cell cbp9 id; have ecbq0 := hSw.cell cbq0 id; have ecbq1 := hSw.cell cbq1 id; have ecbq2 := hSw.cell cbq2 id; have ecbq3 := hSw.cell cbq3 id; have ecbq4 := hSw.cell cbq4 id; have ecbq5 := hSw.cell cbq5 id; have ecbq6 := hSw.cell cbq6 id; have ecbq7 := hSw.cell cbq7 id; have ecbq8 := hSw.cell cbq8 id; have ecbq9 := hSw.cell cbq9 id; have z1 := HV1.out _ hSw; have z2 := HV2.out _ hSw; have z3 := str_beq m1 m2; rw [← HDD.out] at z3; have z4 := HFIN.out; go_simp <;> with_reducible rfl)
      try simp only [Act.put, List.setIfInBounds_toArray, List.set_cons_zero, List.set_cons_succ]
      refine wpAnyH_take (i := 8) (oi := { dst := some 40, op := Go.Op.load 51 (Go.Operand.tmp 3), type := 51, pos := "more.go:18", after := #[{ on := 1, ground := Go.Ground.guard }], guard := some (1, true) }) (v := ?v9) rfl (by kernel_rfl) (by kernel_rfl) (by kernel_rfl) (fun _ _ _ h => h) (Or.inl ⟨by rfl, ?hy9⟩) (by assumption) ?rest9
      case hy9 => (intro w hSw; (try dsimp only at hSw); have ecbp0 := hSw.cell cbp0 id; have ecbp1 := hSw.cell cbp1 id; have ecbp2 := hSw.cell cbp2 id; have ecbp3 := hSw.cell cbp3 id; have ecbp4 := hSw.cell cbp4 id; have ecbp5 := hSw.cell cbp5 id; have ecbp6 := hSw.cell cbp6 id; have ecbp7 := hSw.cell cbp7 id; have ecbp8 := hSw.cell cbp8 id; have ecbp9 := hSw.cell cbp9 id; have ecbq0 := hSw.cell cbq0 id; have ecbq1 := hSw.cell cbq1 id; have ecbq2 := hSw.cell cbq2 id; have ecbq3 := hSw.cell cbq3 id; have ecbq4 := hSw.cell cbq4 id; have ecbq5 := hSw.cell cbq5 id; have ecbq6 := hSw.cell cbq6 id; have ecbq7 := hSw.cell cbq7 id; have ecbq8 := hSw.cell cbq8 id; have ecbq9 := hSw.cell cbq9 id; have z1 := HV1.out _ hSw; have z2 := HV2.out _ hSw; have z3 := str_beq m1 m2; rw [← HDD.out] at z3; have z4 := HFIN.out; go_simp <;> with_reducible rfl)
      try simp only [Act.put, List.setIfInBounds_toArray, List.set_cons_zero, List.set_cons_succ]
      refine wpAnyH_ready (rs := [9]) (by kernel_rfl) (by simp) ?_
      refine AllReadyH.cons (o := { dst := some 41, op := Go.Op.call { callee := Go.Callee.value (Go.Operand.func 32), args := #[Go.Operand.tmp 39, Go.Operand.tmp 40], argTypes := #[51, 51] }, type := 4, pos := "more.go:18", after := #[{ on := 7, ground := Go.Ground.data }, { on := 8, ground := Go.Ground.data }, { on := 1, ground := Go.Ground.chain }, { on := 1, ground := Go.Ground.guard }], guard := some (1, true) }) rfl (fun K hK => ?_) AllReadyH.nil
      go_simp
      refine (same_any _ _ (⟨xtos, xid, xdf, xmf, xoff, xttl, xpr, xsrc, xdst, xl⟩ : Pk) (⟨ytos, yid, ydf, ymf, yoff, yttl, ypr, ysrc, ydst, yl⟩ : Pk) (some xA) (some yA) xc yc _ OKP.out OKQ.out (HBX.out.keep hS0 (fun _ _ _ => id)) (HBY.out.keep hS0 (fun _ _ _ => id))).mono ?_
      rintro e wA ⟨rfl, hx⟩
      rw [← HEQ.out]
      have hS1 := hS0.trans hx
      clear hx
      refine hK.out _ _ hS1 (fun _ => ?_)
      refine wpAnyH_take (i := 10) (oi := { dst := some 42, op := Go.Op.binOp Go.BinOp.eql 4 (Go.Operand.tmp 38) (Go.Operand.tmp 41) 4, type := 4, pos := "more.go:18", after := #[{ on := 6, ground := Go.Ground.data }, { on := 9, ground := Go.Ground.data }, { on := 1, ground := Go.Ground.guard }], guard := some (1, true) }) (v := ?v10) rfl (by kernel_rfl) (by kernel_rfl) (by kernel_rfl) (fun _ _ _ h => h) (Or.inl ⟨by rfl, ?hy10⟩) (by assumption) ?rest10
      case hy10 => (intro w hSw; (try dsimp only at hSw); have ecbp0 := hSw.cell cbp0 id; have ecbp1 := hSw.cell cbp1 id; have ecbp2 := hSw.cell cbp2 id; have ecbp3 := hSw.cell cbp3 id; have ecbp4 := hSw.cell cbp4 id; have ecbp5 := hSw.cell cbp5 id; have ecbp6 := hSw.cell cbp6 id; have ecbp7 := hSw.cell cbp7 id; have ecbp8 := hSw.cell cbp8 id; have ecbp9 := hSw.cell cbp9 id; have ecbq0 := hSw.cell cbq0 id; have ecbq1 := hSw.cell cbq1 id; have ecbq2 := hSw.cell cbq2 id; have ecbq3 := hSw.cell cbq3 id; have ecbq4 := hSw.cell cbq4 id; have ecbq5 := hSw.cell cbq5 id; have ecbq6 := hSw.cell cbq6 id; have ecbq7 := hSw.cell cbq7 id; have ecbq8 := hSw.cell cbq8 id; have ecbq9 := hSw.cell cbq9 id; have z1 := HV1.out _ hSw; have z2 := HV2.out _ hSw; have z3 := str_beq m1 m2; rw [← HDD.out] at z3; have z4 := HFIN.out; go_simp <;> with_reducible rfl)
      try simp only [Act.put, List.setIfInBounds_toArray, List.set_cons_zero, List.set_cons_succ]
      refine wpAnyH_take (i := 11) (oi := { dst := some 43, op := Go.Op.pick (Go.Operand.tmp 33) (Go.Operand.tmp 42) (Go.Operand.const (Go.Value.bool false)), type := 4, pos := "more.go:18", after := #[{ on := 1, ground := Go.Ground.data }, { on := 10, ground := Go.Ground.data }], guard := none }) (v := ?v11) rfl (by kernel_rfl) (by kernel_rfl) (by kernel_rfl) (fun _ _ _ h => h) (Or.inl ⟨by rfl, ?hy11⟩) (by assumption) ?rest11
      case hy11 => (intro w hSw; (try dsimp only at hSw); have ecbp0 := hSw.cell cbp0 id; have ecbp1 := hSw.cell cbp1 id; have ecbp2 := hSw.cell cbp2 id; have ecbp3 := hSw.cell cbp3 id; have ecbp4 := hSw.cell cbp4 id; have ecbp5 := hSw.cell cbp5 id; have ecbp6 := hSw.cell cbp6 id; have ecbp7 := hSw.cell cbp7 id; have ecbp8 := hSw.cell cbp8 id; have ecbp9 := hSw.cell cbp9 id; have ecbq0 := hSw.cell cbq0 id; have ecbq1 := hSw.cell cbq1 id; have ecbq2 := hSw.cell cbq2 id; have ecbq3 := hSw.cell cbq3 id; have ecbq4 := hSw.cell cbq4 id; have ecbq5 := hSw.cell cbq5 id; have ecbq6 := hSw.cell cbq6 id; have ecbq7 := hSw.cell cbq7 id; have ecbq8 := hSw.cell cbq8 id; have ecbq9 := hSw.cell cbq9 id; have z1 := HV1.out _ hSw; have z2 := HV2.out _ hSw; have z3 := str_beq m1 m2; rw [← HDD.out] at z3; have z4 := HFIN.out; go_simp <;> with_reducible rfl)
      try simp only [Act.put, List.setIfInBounds_toArray, List.set_cons_zero, List.set_cons_succ]
      refine wpAnyH_take (i := 12) (oi := { dst := some 4, op := Go.Op.assign (Go.Operand.tmp 43), type := 4, pos := "more.go:18", after := #[{ on := 11, ground := Go.Ground.data }, { on := 9, ground := Go.Ground.chain }, { on := 0, ground := Go.Ground.phase }, { on := 1, ground := Go.Ground.phase }, { on := 2, ground := Go.Ground.phase }, { on := 3, ground := Go.Ground.phase }, { on := 4, ground := Go.Ground.phase }, { on := 5, ground := Go.Ground.phase }, { on := 6, ground := Go.Ground.phase }, { on := 7, ground := Go.Ground.phase }, { on := 8, ground := Go.Ground.phase }, { on := 9, ground := Go.Ground.phase }, { on := 10, ground := Go.Ground.phase }, { on := 11, ground := Go.Ground.phase }], guard := none }) (v := ?v12) rfl (by kernel_rfl) (by kernel_rfl) (by kernel_rfl) (fun _ _ _ h => h) (Or.inl ⟨by rfl, ?hy12⟩) (by assumption) ?rest12
      case hy12 => (intro w hSw; (try dsimp only at hSw); have ecbp0 := hSw.cell cbp0 id; have ecbp1 := hSw.cell cbp1 id; have ecbp2 := hSw.cell cbp2 id; have ecbp3 := hSw.cell cbp3 id; have ecbp4 := hSw.cell cbp4 id; have ecbp5 := hSw.cell cbp5 id; have ecbp6 := hSw.cell cbp6 id; have ecbp7 := hSw.cell cbp7 id; have ecbp8 := hSw.cell cbp8 id; have ecbp9 := hSw.cell cbp9 id; have ecbq0 := hSw.cell cbq0 id; have ecbq1 := hSw.cell cbq1 id; have ecbq2 := hSw.cell cbq2 id; have ecbq3 := hSw.cell cbq3 id; have ecbq4 := hSw.cell cbq4 id; have ecbq5 := hSw.cell cbq5 id; have ecbq6 := hSw.cell cbq6 id; have ecbq7 := hSw.cell cbq7 id; have ecbq8 := hSw.cell cbq8 id; have ecbq9 := hSw.cell cbq9 id; have z1 := HV1.out _ hSw; have z2 := HV2.out _ hSw; have z3 := str_beq m1 m2; rw [← HDD.out] at z3; have z4 := HFIN.out; go_simp <;> with_reducible rfl)
      try simp only [Act.put, List.setIfInBounds_toArray, List.set_cons_zero, List.set_cons_succ]
      refine wpAnyH_done (by kernel_rfl) ?_ _
      have HXX := Lib.hid (((((((((HX_w1.out.trans HX_w2.out).trans HX_w3.out).trans HX_w4.out).andThen HX_w5.out (fun i hi e => by have := hb_bp; omega)).trans HX_w6.out).andThen HX_w7.out (fun i hi e => by have := HX_w1.out.size; have := hb_bq; omega)).trans HX_w8.out).trans HX_w9.out).trans hS1)
      clear cbp0 cbp1 cbp2 cbp3 cbp4 cbp5 cbp6 cbp7 cbp8 cbp9 cbq0 cbq1 cbq2 cbq3 cbq4 cbq5 cbq6 cbq7 cbq8 cbq9
      go_wp2_with fail
      go_ret
      exact ⟨rfl, HXX.out⟩
end Go.Proofs.YtfcfpkhcpijkfaaDoor
