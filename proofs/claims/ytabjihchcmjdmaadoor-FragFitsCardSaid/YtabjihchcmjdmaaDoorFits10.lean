/-
  The walk of FragFits. By an AI agent.
-/
import Derived.Test.YtabjihchcmjdmaaDoorGh10
import Derived.Test.YtabjihchcmjdmaaDoorGb10
namespace Go.Proofs.YtabjihchcmjdmaaDoor
open Go.RowKit

theorem bs_eqL (l : List UInt8) : ((bs l).toList == (bs l).toList) = true := by simp
set_option maxRecDepth 100000 in
set_option maxHeartbeats 16000000 in
theorem fits10_any (p : Pk) (A : Option Addr) (c : Nat) (m : Int) (w : World) (ok : p.ok) (hp : RB w (fun _ => True) (.slice A p.b.length c) p.b) (hg : ET w) :
    Calls Tryd.prog 5 #[pkv p (.slice A p.b.length c), .int .i64 m] w fun e w' => e = .returned (.bool true) ∧ Ex (fun _ => False) w w' := by
  obtain ⟨xtos, xid, xdf, xmf, xoff, xttl, xpr, xsrc, xdst, xb⟩ := p
  simp only at hp
  have HG := Lib.hid hg
  have HP := Lib.hid hp
  have OKP := Lib.hid ok
  clear hp ok hg
  show Calls Tryd.prog 5 #[.agg #[.int .u8 xtos, .int .u16 xid, .bool xdf, .bool xmf, .int .i64 xoff, .int .u8 xttl, .int .u8 xpr, .int .u32 xsrc, .int .u32 xdst, .slice A xb.length c], .int .i64 m] w _
  go_enter Tryd.func5, Tryd.ntmps5
  go_upto_region 1 with fail
  have hx : Ex (fun _ => False) w (w.alloc (.cells #[.int .u8 xtos, .int .u16 xid, .bool xdf, .bool xmf, .int .i64 xoff, .int .u8 xttl, .int .u8 xpr, .int .u32 xsrc, .int .u32 xdst, .slice A xb.length c] 27)) := (Ex.refl _ w).alloc _
  have hb : (w.alloc (.cells #[.int .u8 xtos, .int .u16 xid, .bool xdf, .bool xmf, .int .i64 xoff, .int .u8 xttl, .int .u8 xpr, .int .u32 xsrc, .int .u32 xdst, .slice A xb.length c] 27)).heap[w.heap.size]? = some (.cells #[.int .u8 xtos, .int .u16 xid, .bool xdf, .bool xmf, .int .i64 xoff, .int .u8 xttl, .int .u8 xpr, .int .u32 xsrc, .int .u32 xdst, .slice A xb.length c] 27) := heap_alloc_new w _
  obtain ⟨bp, hbp⟩ : ∃ bp, bp = w.heap.size := ⟨_, rfl⟩
  have hb_bp : w.heap.size ≤ bp := by omega
  rw [← hbp] at hb
  try simp only [← hbp]
  generalize w.alloc (.cells #[.int .u8 xtos, .int .u16 xid, .bool xdf, .bool xmf, .int .i64 xoff, .int .u8 xttl, .int .u8 xpr, .int .u32 xsrc, .int .u32 xdst, .slice A xb.length c] 27) = w1 at hx hb ⊢
  clear hbp
  have HX_w1 := Lib.hid hx
  clear hx
  have B_bp := Lib.hid hb
  clear hb
  have hlp := row_lt B_bp.out
  go_wp2_with fail
  refine (shown10_any w1 (HG.out.keep HX_w1.out id)).mono ?_
  rintro e w2 ⟨rfl, hx⟩
  have hz12 := hx.size
  have HX_w2 := Lib.hid hx
  clear hx
  replace B_bp := Lib.hid ((HX_w2.out.block bp (row_lt B_bp.out) id).trans B_bp.out)
  have cbp0 := row_cell (k := 0) (v := .int .u8 xtos) B_bp.out rfl
  have cbp1 := row_cell (k := 1) (v := .int .u16 xid) B_bp.out rfl
  have cbp2 := row_cell (k := 2) (v := .bool xdf) B_bp.out rfl
  have cbp3 := row_cell (k := 3) (v := .bool xmf) B_bp.out rfl
  have cbp4 := row_cell (k := 4) (v := .int .i64 xoff) B_bp.out rfl
  have cbp5 := row_cell (k := 5) (v := .int .u8 xttl) B_bp.out rfl
  have cbp6 := row_cell (k := 6) (v := .int .u8 xpr) B_bp.out rfl
  have cbp7 := row_cell (k := 7) (v := .int .u32 xsrc) B_bp.out rfl
  have cbp8 := row_cell (k := 8) (v := .int .u32 xdst) B_bp.out rfl
  have cbp9 := row_cell (k := 9) (v := .slice A xb.length c) B_bp.out rfl
  have fbp0 := row_frozen B_bp.out 0
  have fbp1 := row_frozen B_bp.out 1
  have fbp2 := row_frozen B_bp.out 2
  have fbp3 := row_frozen B_bp.out 3
  have fbp4 := row_frozen B_bp.out 4
  have fbp5 := row_frozen B_bp.out 5
  have fbp6 := row_frozen B_bp.out 6
  have fbp7 := row_frozen B_bp.out 7
  have fbp8 := row_frozen B_bp.out 8
  have fbp9 := row_frozen B_bp.out 9
  go_wp2_with fail
  refine (few10_any (fun _ => True) (⟨xtos, xid, xdf, xmf, xoff, xttl, xpr, xsrc, xdst, xb⟩ : Pk) A c w2 (RB.keep HP.out (HX_w1.out.trans HX_w2.out) (fun _ _ _ => id))).mono ?_
  rintro e w3 ⟨xA, xc, rfl, ho, hx⟩
  obtain ⟨xl, hxl⟩ : ∃ l, l = xb.take 2000 := ⟨_, rfl⟩
  have hfw : (⟨xtos, xid, xdf, xmf, xoff, xttl, xpr, xsrc, xdst, xb⟩ : Pk).few 2000 = (⟨xtos, xid, xdf, xmf, xoff, xttl, xpr, xsrc, xdst, xl⟩ : Pk) := by rw [hxl]; rfl
  rw [hfw] at ho ⊢
  have hxn : xl.length ≤ 2000 := by rw [hxl, List.length_take]; omega
  have hv : pkv (⟨xtos, xid, xdf, xmf, xoff, xttl, xpr, xsrc, xdst, xl⟩ : Pk) (.slice (some xA) (⟨xtos, xid, xdf, xmf, xoff, xttl, xpr, xsrc, xdst, xl⟩ : Pk).b.length xc) = .agg #[.int .u8 xtos, .int .u16 xid, .bool xdf, .bool xmf, .int .i64 xoff, .int .u8 xttl, .int .u8 xpr, .int .u32 xsrc, .int .u32 xdst, .slice (some xA) xl.length xc] := rfl
  rw [hv]
  have ho' : OB w3 w2.heap.size (.slice (some xA) xl.length xc) xl := ho
  clear hv hfw hxl ho cbp0 cbp1 cbp2 cbp3 cbp4 cbp5 cbp6 cbp7 cbp8 cbp9 fbp0 fbp1 fbp2 fbp3 fbp4 fbp5 fbp6 fbp7 fbp8 fbp9
  have HX_w3 := Lib.hid hx
  clear hx
  have HO_x := Lib.hid ho'
  clear ho'
  have hbl_bp := row_lt B_bp.out
  replace B_bp := Lib.hid ((HX_w3.out.block bp (row_lt B_bp.out) id).trans B_bp.out)
  have cbp0 := row_cell (k := 0) (v := .int .u8 xtos) B_bp.out rfl
  have cbp1 := row_cell (k := 1) (v := .int .u16 xid) B_bp.out rfl
  have cbp2 := row_cell (k := 2) (v := .bool xdf) B_bp.out rfl
  have cbp3 := row_cell (k := 3) (v := .bool xmf) B_bp.out rfl
  have cbp4 := row_cell (k := 4) (v := .int .i64 xoff) B_bp.out rfl
  have cbp5 := row_cell (k := 5) (v := .int .u8 xttl) B_bp.out rfl
  have cbp6 := row_cell (k := 6) (v := .int .u8 xpr) B_bp.out rfl
  have cbp7 := row_cell (k := 7) (v := .int .u32 xsrc) B_bp.out rfl
  have cbp8 := row_cell (k := 8) (v := .int .u32 xdst) B_bp.out rfl
  have cbp9 := row_cell (k := 9) (v := .slice A xb.length c) B_bp.out rfl
  have fbp0 := row_frozen B_bp.out 0
  have fbp1 := row_frozen B_bp.out 1
  have fbp2 := row_frozen B_bp.out 2
  have fbp3 := row_frozen B_bp.out 3
  have fbp4 := row_frozen B_bp.out 4
  have fbp5 := row_frozen B_bp.out 5
  have fbp6 := row_frozen B_bp.out 6
  have fbp7 := row_frozen B_bp.out 7
  have fbp8 := row_frozen B_bp.out 8
  have fbp9 := row_frozen B_bp.out 9
  go_upto_region 3 with fail
  have r0 : (w3.setCell ⟨bp, 0, none⟩ (.int .u8 xtos)).heap[bp]? = some (.cells #[.int .u8 xtos, .int .u16 xid, .bool xdf, .bool xmf, .int .i64 xoff, .int .u8 xttl, .int .u8 xpr, .int .u32 xsrc, .int .u32 xdst, .slice A xb.length c] 27) := row_set B_bp.out 0 (.int .u8 xtos)
  have r1 : ((w3.setCell ⟨bp, 0, none⟩ (.int .u8 xtos)).setCell ⟨bp, 1, none⟩ (.int .u16 xid)).heap[bp]? = some (.cells #[.int .u8 xtos, .int .u16 xid, .bool xdf, .bool xmf, .int .i64 xoff, .int .u8 xttl, .int .u8 xpr, .int .u32 xsrc, .int .u32 xdst, .slice A xb.length c] 27) := row_set r0 1 (.int .u16 xid)
  clear r0
  have r2 : (((w3.setCell ⟨bp, 0, none⟩ (.int .u8 xtos)).setCell ⟨bp, 1, none⟩ (.int .u16 xid)).setCell ⟨bp, 2, none⟩ (.bool xdf)).heap[bp]? = some (.cells #[.int .u8 xtos, .int .u16 xid, .bool xdf, .bool xmf, .int .i64 xoff, .int .u8 xttl, .int .u8 xpr, .int .u32 xsrc, .int .u32 xdst, .slice A xb.length c] 27) := row_set r1 2 (.bool xdf)
  clear r1
  have r3 : ((((w3.setCell ⟨bp, 0, none⟩ (.int .u8 xtos)).setCell ⟨bp, 1, none⟩ (.int .u16 xid)).setCell ⟨bp, 2, none⟩ (.bool xdf)).setCell ⟨bp, 3, none⟩ (.bool xmf)).heap[bp]? = some (.cells #[.int .u8 xtos, .int .u16 xid, .bool xdf, .bool xmf, .int .i64 xoff, .int .u8 xttl, .int .u8 xpr, .int .u32 xsrc, .int .u32 xdst, .slice A xb.length c] 27) := row_set r2 3 (.bool xmf)
  clear r2
  have r4 : (((((w3.setCell ⟨bp, 0, none⟩ (.int .u8 xtos)).setCell ⟨bp, 1, none⟩ (.int .u16 xid)).setCell ⟨bp, 2, none⟩ (.bool xdf)).setCell ⟨bp, 3, none⟩ (.bool xmf)).setCell ⟨bp, 4, none⟩ (.int .i64 xoff)).heap[bp]? = some (.cells #[.int .u8 xtos, .int .u16 xid, .bool xdf, .bool xmf, .int .i64 xoff, .int .u8 xttl, .int .u8 xpr, .int .u32 xsrc, .int .u32 xdst, .slice A xb.length c] 27) := row_set r3 4 (.int .i64 xoff)
  clear r3
  have r5 : ((((((w3.setCell ⟨bp, 0, none⟩ (.int .u8 xtos)).setCell ⟨bp, 1, none⟩ (.int .u16 xid)).setCell ⟨bp, 2, none⟩ (.bool xdf)).setCell ⟨bp, 3, none⟩ (.bool xmf)).setCell ⟨bp, 4, none⟩ (.int .i64 xoff)).setCell ⟨bp, 5, none⟩ (.int .u8 xttl)).heap[bp]? = some (.cells #[.int .u8 xtos, .int .u16 xid, .bool xdf, .bool xmf, .int .i64 xoff, .int .u8 xttl, .int .u8 xpr, .int .u32 xsrc, .int .u32 xdst, .slice A xb.length c] 27) := row_set r4 5 (.int .u8 xttl)
  clear r4
  have r6 : (((((((w3.setCell ⟨bp, 0, none⟩ (.int .u8 xtos)).setCell ⟨bp, 1, none⟩ (.int .u16 xid)).setCell ⟨bp, 2, none⟩ (.bool xdf)).setCell ⟨bp, 3, none⟩ (.bool xmf)).setCell ⟨bp, 4, none⟩ (.int .i64 xoff)).setCell ⟨bp, 5, none⟩ (.int .u8 xttl)).setCell ⟨bp, 6, none⟩ (.int .u8 xpr)).heap[bp]? = some (.cells #[.int .u8 xtos, .int .u16 xid, .bool xdf, .bool xmf, .int .i64 xoff, .int .u8 xttl, .int .u8 xpr, .int .u32 xsrc, .int .u32 xdst, .slice A xb.length c] 27) := row_set r5 6 (.int .u8 xpr)
  clear r5
  have r7 : ((((((((w3.setCell ⟨bp, 0, none⟩ (.int .u8 xtos)).setCell ⟨bp, 1, none⟩ (.int .u16 xid)).setCell ⟨bp, 2, none⟩ (.bool xdf)).setCell ⟨bp, 3, none⟩ (.bool xmf)).setCell ⟨bp, 4, none⟩ (.int .i64 xoff)).setCell ⟨bp, 5, none⟩ (.int .u8 xttl)).setCell ⟨bp, 6, none⟩ (.int .u8 xpr)).setCell ⟨bp, 7, none⟩ (.int .u32 xsrc)).heap[bp]? = some (.cells #[.int .u8 xtos, .int .u16 xid, .bool xdf, .bool xmf, .int .i64 xoff, .int .u8 xttl, .int .u8 xpr, .int .u32 xsrc, .int .u32 xdst, .slice A xb.length c] 27) := row_set r6 7 (.int .u32 xsrc)
  clear r6
  have r8 : (((((((((w3.setCell ⟨bp, 0, none⟩ (.int .u8 xtos)).setCell ⟨bp, 1, none⟩ (.int .u16 xid)).setCell ⟨bp, 2, none⟩ (.bool xdf)).setCell ⟨bp, 3, none⟩ (.bool xmf)).setCell ⟨bp, 4, none⟩ (.int .i64 xoff)).setCell ⟨bp, 5, none⟩ (.int .u8 xttl)).setCell ⟨bp, 6, none⟩ (.int .u8 xpr)).setCell ⟨bp, 7, none⟩ (.int .u32 xsrc)).setCell ⟨bp, 8, none⟩ (.int .u32 xdst)).heap[bp]? = some (.cells #[.int .u8 xtos, .int .u16 xid, .bool xdf, .bool xmf, .int .i64 xoff, .int .u8 xttl, .int .u8 xpr, .int .u32 xsrc, .int .u32 xdst, .slice A xb.length c] 27) := row_set r7 8 (.int .u32 xdst)
  clear r7
  have r9 : ((((((((((w3.setCell ⟨bp, 0, none⟩ (.int .u8 xtos)).setCell ⟨bp, 1, none⟩ (.int .u16 xid)).setCell ⟨bp, 2, none⟩ (.bool xdf)).setCell ⟨bp, 3, none⟩ (.bool xmf)).setCell ⟨bp, 4, none⟩ (.int .i64 xoff)).setCell ⟨bp, 5, none⟩ (.int .u8 xttl)).setCell ⟨bp, 6, none⟩ (.int .u8 xpr)).setCell ⟨bp, 7, none⟩ (.int .u32 xsrc)).setCell ⟨bp, 8, none⟩ (.int .u32 xdst)).setCell ⟨bp, 9, none⟩ (.slice (some xA) xl.length xc)).heap[bp]? = some (.cells #[.int .u8 xtos, .int .u16 xid, .bool xdf, .bool xmf, .int .i64 xoff, .int .u8 xttl, .int .u8 xpr, .int .u32 xsrc, .int .u32 xdst, .slice (some xA) xl.length xc] 27) := row_set r8 9 (.slice (some xA) xl.length xc)
  clear r8
  have hx : Ex (fun j => j = bp) w3 ((((((((((w3.setCell ⟨bp, 0, none⟩ (.int .u8 xtos)).setCell ⟨bp, 1, none⟩ (.int .u16 xid)).setCell ⟨bp, 2, none⟩ (.bool xdf)).setCell ⟨bp, 3, none⟩ (.bool xmf)).setCell ⟨bp, 4, none⟩ (.int .i64 xoff)).setCell ⟨bp, 5, none⟩ (.int .u8 xttl)).setCell ⟨bp, 6, none⟩ (.int .u8 xpr)).setCell ⟨bp, 7, none⟩ (.int .u32 xsrc)).setCell ⟨bp, 8, none⟩ (.int .u32 xdst)).setCell ⟨bp, 9, none⟩ (.slice (some xA) xl.length xc)) := (((((((((((Ex.refl (fun j => j = bp) w3).setCell (p := ⟨bp, 0, none⟩) (.inl rfl) (.int .u8 xtos)).setCell (p := ⟨bp, 1, none⟩) (.inl rfl) (.int .u16 xid)).setCell (p := ⟨bp, 2, none⟩) (.inl rfl) (.bool xdf)).setCell (p := ⟨bp, 3, none⟩) (.inl rfl) (.bool xmf)).setCell (p := ⟨bp, 4, none⟩) (.inl rfl) (.int .i64 xoff)).setCell (p := ⟨bp, 5, none⟩) (.inl rfl) (.int .u8 xttl)).setCell (p := ⟨bp, 6, none⟩) (.inl rfl) (.int .u8 xpr)).setCell (p := ⟨bp, 7, none⟩) (.inl rfl) (.int .u32 xsrc)).setCell (p := ⟨bp, 8, none⟩) (.inl rfl) (.int .u32 xdst)).setCell (p := ⟨bp, 9, none⟩) (.inl rfl) (.slice (some xA) xl.length xc))
  clear cbp0 cbp1 cbp2 cbp3 cbp4 cbp5 cbp6 cbp7 cbp8 cbp9 fbp0 fbp1 fbp2 fbp3 fbp4 fbp5 fbp6 fbp7 fbp8 fbp9
  generalize ((((((((((w3.setCell ⟨bp, 0, none⟩ (.int .u8 xtos)).setCell ⟨bp, 1, none⟩ (.int .u16 xid)).setCell ⟨bp, 2, none⟩ (.bool xdf)).setCell ⟨bp, 3, none⟩ (.bool xmf)).setCell ⟨bp, 4, none⟩ (.int .i64 xoff)).setCell ⟨bp, 5, none⟩ (.int .u8 xttl)).setCell ⟨bp, 6, none⟩ (.int .u8 xpr)).setCell ⟨bp, 7, none⟩ (.int .u32 xsrc)).setCell ⟨bp, 8, none⟩ (.int .u32 xdst)).setCell ⟨bp, 9, none⟩ (.slice (some xA) xl.length xc)) = w4 at r9 hx ⊢
  replace B_bp := Lib.hid r9
  clear r9
  have HX_w4 := Lib.hid hx
  clear hx
  have HXN := Lib.hid hxn
  have OKX := Lib.hid (show (⟨xtos, xid, xdf, xmf, xoff, xttl, xpr, xsrc, xdst, xl⟩ : Pk).ok from OKP.out)
  clear hxn
  have cbp0 := row_cell (k := 0) (v := .int .u8 xtos) B_bp.out rfl
  have cbp1 := row_cell (k := 1) (v := .int .u16 xid) B_bp.out rfl
  have cbp2 := row_cell (k := 2) (v := .bool xdf) B_bp.out rfl
  have cbp3 := row_cell (k := 3) (v := .bool xmf) B_bp.out rfl
  have cbp4 := row_cell (k := 4) (v := .int .i64 xoff) B_bp.out rfl
  have cbp5 := row_cell (k := 5) (v := .int .u8 xttl) B_bp.out rfl
  have cbp6 := row_cell (k := 6) (v := .int .u8 xpr) B_bp.out rfl
  have cbp7 := row_cell (k := 7) (v := .int .u32 xsrc) B_bp.out rfl
  have cbp8 := row_cell (k := 8) (v := .int .u32 xdst) B_bp.out rfl
  have cbp9 := row_cell (k := 9) (v := .slice (some xA) xl.length xc) B_bp.out rfl
  obtain ⟨S, hS⟩ : ∃ S, S = spe (⟨xtos, xid, xdf, xmf, xoff, xttl, xpr, xsrc, xdst, xl⟩ : Pk) m := ⟨_, rfl⟩
  cases S with
  | some rk =>
    obtain ⟨r, k⟩ := rk
    go_wp2_with fail
    refine (split_no _ (⟨xtos, xid, xdf, xmf, xoff, xttl, xpr, xsrc, xdst, xl⟩ : Pk) (some xA) xc m w4 (OB.keepB HO_x.out HX_w4.out (by omega)).rb (fun h => by cases h) (by have := HXN.out; show xl.length ≤ 4000; omega) r k hS.symm).mono ?_
    rintro e w5 ⟨t5, y5, rfl, hec, hx⟩
    have HSP := Lib.hid hS
    clear hec hS cbp0 cbp1 cbp2 cbp3 cbp4 cbp5 cbp6 cbp7 cbp8 cbp9
    have HX_w5 := Lib.hid hx
    clear hx
    replace B_bp := Lib.hid ((HX_w5.out.block bp (row_lt B_bp.out) id).trans B_bp.out)
    have cbp0 := row_cell (k := 0) (v := .int .u8 xtos) B_bp.out rfl
    have cbp1 := row_cell (k := 1) (v := .int .u16 xid) B_bp.out rfl
    have cbp2 := row_cell (k := 2) (v := .bool xdf) B_bp.out rfl
    have cbp3 := row_cell (k := 3) (v := .bool xmf) B_bp.out rfl
    have cbp4 := row_cell (k := 4) (v := .int .i64 xoff) B_bp.out rfl
    have cbp5 := row_cell (k := 5) (v := .int .u8 xttl) B_bp.out rfl
    have cbp6 := row_cell (k := 6) (v := .int .u8 xpr) B_bp.out rfl
    have cbp7 := row_cell (k := 7) (v := .int .u32 xsrc) B_bp.out rfl
    have cbp8 := row_cell (k := 8) (v := .int .u32 xdst) B_bp.out rfl
    have cbp9 := row_cell (k := 9) (v := .slice (some xA) xl.length xc) B_bp.out rfl
    by_cases h68 : m < 68
    · go_wp2_with fail
      go_ret
      exact ⟨rfl, ((((HX_w1.out.trans HX_w2.out).trans HX_w3.out).andThen HX_w4.out (fun i hi e => by have := hb_bp; omega)).trans HX_w5.out)⟩
    · have h68d : decide (m < 68) = false := decide_eq_false h68
      by_cases hr : (⟨xtos, xid, xdf, xmf, xoff, xttl, xpr, xsrc, xdst, xl⟩ : Pk).right = 0
      · have HRR := Lib.hid hr
        clear hr
        have hdf : xdf = true ∧ m < 20 + (xl.length : Int) := by
          have h1 := HSP.out
          have hr := HRR.out
          unfold spe at h1
          rw [if_neg h68, if_neg (fun h => h hr)] at h1
          split at h1
          · cases h1
          · split at h1
            · rename_i g1 g2
              change ¬ 20 + (xl.length : Int) ≤ m at g1
              exact ⟨g2, by omega⟩
            · cases h1
        obtain ⟨rfl, hbig⟩ := hdf
        have hx2k : (xl.length : Int) ≤ 2000 := by have := HXN.out; omega
        go_wp2_with fail
        refine (right_yes (⟨xtos, xid, true, xmf, xoff, xttl, xpr, xsrc, xdst, xl⟩ : Pk) (some xA) xc w5 (by have := HXN.out; show xl.length ≤ _; omega) HRR.out).mono ?_
        rintro e w6 ⟨rfl, hx⟩
        clear cbp0 cbp1 cbp2 cbp3 cbp4 cbp5 cbp6 cbp7 cbp8 cbp9
        have HX_w6 := Lib.hid hx
        clear hx
        replace B_bp := Lib.hid ((HX_w6.out.block bp (row_lt B_bp.out) id).trans B_bp.out)
        have cbp2 := row_cell (k := 2) (v := .bool true) B_bp.out rfl
        have cbp9 := row_cell (k := 9) (v := .slice (some xA) xl.length xc) B_bp.out rfl
        go_wp2_with fail
        go_ret
        exact ⟨rfl, (((((HX_w1.out.trans HX_w2.out).trans HX_w3.out).andThen HX_w4.out (fun i hi e => by have := hb_bp; omega)).trans HX_w5.out).trans HX_w6.out)⟩
      · have HRR := Lib.hid hr
        clear hr
        go_wp2_with fail
        refine (right_no (⟨xtos, xid, xdf, xmf, xoff, xttl, xpr, xsrc, xdst, xl⟩ : Pk) (some xA) xc w5 (by have := HXN.out; show xl.length ≤ _; omega) HRR.out).mono ?_
        rintro e w6 ⟨t6, y6, rfl, _, hx⟩
        clear cbp0 cbp1 cbp2 cbp3 cbp4 cbp5 cbp6 cbp7 cbp8 cbp9
        have HX_w6 := Lib.hid hx
        clear hx
        go_wp2_with fail
        go_ret
        exact ⟨rfl, (((((HX_w1.out.trans HX_w2.out).trans HX_w3.out).andThen HX_w4.out (fun i hi e => by have := hb_bp; omega)).trans HX_w5.out).trans HX_w6.out)⟩
  | none =>
    have hl4 : xl.length ≤ 4000 := by have := HXN.out; omega
    obtain ⟨z, n, hpd⟩ := parts_pd hS.symm hl4
    obtain ⟨h68, hright, _⟩ := spe_none hS.symm
    have HPD := Lib.hid hpd
    have HRR := Lib.hid hright
    go_wp2_with fail
    refine (split_yes _ (⟨xtos, xid, xdf, xmf, xoff, xttl, xpr, xsrc, xdst, xl⟩ : Pk) (some xA) xc m w4 (OB.keepB HO_x.out HX_w4.out (by omega)).rb (fun h => by cases h) hl4 hS.symm).mono ?_
    rintro e w5 ⟨A5, c5, os, rfl, hos, hop, hobs, hx⟩
    have hon : os.length = n := by rw [← hpd.len, ← hos, List.length_map]
    rw [hon] at hop ⊢
    obtain ⟨g, c5', hv, hgc⟩ := hop.get 0 (by rw [hon]; exact hpd.pos)
    clear hgc
    rw [hon] at hv
    injection hv with hv _ hv2
    subst hv hv2
    have hat : ∀ i (h : i < os.length), os[i].1 = pti (⟨xtos, xid, xdf, xmf, xoff, xttl, xpr, xsrc, xdst, xl⟩ : Pk) z n i := by
      intro i h
      have e1 : (parts (⟨xtos, xid, xdf, xmf, xoff, xttl, xpr, xsrc, xdst, xl⟩ : Pk) m)[i]? = some os[i].1 := by rw [← hos, List.getElem?_map, List.getElem?_eq_getElem h]; rfl
      have e2 := hpd.one i (by rw [← hon]; exact h)
      rw [e1] at e2
      exact Option.some.inj e2
    have HAT := Lib.hid hat
    have HON := Lib.hid hon
    have HOP := Lib.hid hop
    have HOBS := Lib.hid hobs
    have hn90 : n ≤ 42 := by rw [← hpd.len]; exact parts_len hS.symm HXN.out
    have HN1 := Lib.hid hpd.pos
    clear hpd hright hS hl4 hat hon hos hop hobs h68 cbp0 cbp1 cbp2 cbp3 cbp4 cbp5 cbp6 cbp7 cbp8 cbp9
    have HX_w5 := Lib.hid hx
    clear hx
    replace B_bp := Lib.hid ((HX_w5.out.block bp (row_lt B_bp.out) id).trans B_bp.out)
    have cbp4 := row_cell (k := 4) (v := .int .i64 xoff) B_bp.out rfl
    go_upto_region 9 with fail
    clear cbp4
    go_wp2_with fail
    have hx0 := Lib.hid (Ex.refl (fun _ => False) w5)
    go_loopg [9, 10, 11, 12] n (fun kx s9 s10 s11 _ wr => ∃ (i : Nat) (a : Int) (l : List UInt8), s9 = .int .i64 a ∧ s10 = .string (bs l) ∧ s11 = .int .i64 i ∧ i ≤ n ∧ n - i ≤ kx ∧ Hid (a = xoff + (min (i * z) xl.length : Nat)) ∧ Hid (l = xl.take (i * z)) ∧ Hid (Ex (fun _ => False) w5 wr))
    case atStart => exact ⟨0, xoff, [], rfl, rfl, rfl, Nat.zero_le _, Nat.le_refl _, by simp [Hid], by simp [Hid], hx0⟩
    case round =>
      clear hx0
      obtain ⟨i, a, l, rfl, rfl, rfl, hin, hkx, HA, HLL, hxr⟩ := hrel
      have hx := hxr.out
      clear hxr
      have HX_wr := Lib.hid hx
      clear hx
      by_cases hlt : (i : Int) < (n : Int)
      · have hilt : i < n := by omega
        have hio : i < os.length := by rw [HON.out]; exact hilt
        obtain ⟨o, ho⟩ : ∃ o, o = os[i] := ⟨_, rfl⟩
        have hoe : o.1 = pti (⟨xtos, xid, xdf, xmf, xoff, xttl, xpr, xsrc, xdst, xl⟩ : Pk) z n i := by rw [ho]; exact HAT.out i hio
        have hor : OB wr w4.heap.size (ov o) o.1.b := (HOBS.out.keep HX_wr.out (fun _ _ _ _ _ _ => id)).1 o (by rw [ho]; exact List.getElem_mem hio)
        have hopr := HOP.out.keep HX_wr.out (fun _ _ _ _ => id)
        have hrow : ∀ k u, (ocl o)[k]? = some u → wr.cell? ⟨g, i * 10 + k, none⟩ = some u := by
          intro k u hu
          have h9 : OP wr w4.heap.size (.slice (some ⟨g, 0, none⟩) os.length c5) os := by rw [HON.out]; exact hopr
          exact h9.prow i hio k u (by rw [ho] at hu; exact hu)
        obtain ⟨pl1, pl2, pl3⟩ := HPD.out.place hilt
        have hright := HPD.out.right HRR.out hilt
        have hfit := HPD.out.fit i hilt
        obtain ⟨⟨otos, oid, odf, omf, ooff, ottl, opr, osrc, odst, ob⟩, oA, oc⟩ := o
        simp only at hoe
        have hor : OB wr w4.heap.size (.slice oA ob.length oc) ob := hor
        have hoe2 := hoe
        unfold pti at hoe2
        simp only [Pk.mk.injEq] at hoe2
        obtain ⟨e1, e2, e3, emf, eoff, e4, e5, e6, e7, eb⟩ := hoe2
        replace e1 := e1.symm; replace e2 := e2.symm; replace e3 := e3.symm; replace e4 := e4.symm; replace e5 := e5.symm; replace e6 := e6.symm; replace e7 := e7.symm
        subst e1 e2 e3 e4 e5 e6 e7
        have ea : ooff = a := by
          have := HA.out
          rw [Nat.min_eq_left pl1] at this
          rw [this, eoff]
        subst ea
        have hbl : (pti (⟨xtos, xid, xdf, xmf, xoff, xttl, xpr, xsrc, xdst, xl⟩ : Pk) z n i).b = ob := by rw [eb]; rfl
        rw [hbl] at pl3 hfit
        have hfit2 : ¬ m < 20 + (ob.length : Int) := by omega
        have hobk : ob.length ≤ 2000 := by have := HXN.out; change ob.length = min z (xl.length - i * z) at pl3; omega
        have hobi : (ob.length : Int) ≤ 2000 := by omega
        have HOR : Hid (OB wr w4.heap.size (.slice oA ob.length oc) ob) := hor
        have HEB := Lib.hid eb
        have HPL := Lib.hid (show i * z ≤ xl.length ∧ ob.length = min z (xl.length - i * z) from ⟨pl1, pl3⟩)
        have HRI : Hid ((⟨xtos, xid, xdf, omf, ooff, xttl, xpr, xsrc, xdst, ob⟩ : Pk).right = 0) := by rw [hoe]; exact hright
        have HMF := Lib.hid emf
        have c0 : wr.cell? ⟨g, i * 10, none⟩ = some (.int .u8 xtos) := hrow 0 _ rfl
        have c1 : wr.cell? ⟨g, i * 10 + 1, none⟩ = some (.int .u16 xid) := hrow 1 _ rfl
        have c2 : wr.cell? ⟨g, i * 10 + 2, none⟩ = some (.bool xdf) := hrow 2 _ rfl
        have c3 : wr.cell? ⟨g, i * 10 + 3, none⟩ = some (.bool omf) := hrow 3 _ rfl
        have c4 : wr.cell? ⟨g, i * 10 + 4, none⟩ = some (.int .i64 ooff) := hrow 4 _ rfl
        have c5 : wr.cell? ⟨g, i * 10 + 5, none⟩ = some (.int .u8 xttl) := hrow 5 _ rfl
        have c6 : wr.cell? ⟨g, i * 10 + 6, none⟩ = some (.int .u8 xpr) := hrow 6 _ rfl
        have c7 : wr.cell? ⟨g, i * 10 + 7, none⟩ = some (.int .u32 xsrc) := hrow 7 _ rfl
        have c8 : wr.cell? ⟨g, i * 10 + 8, none⟩ = some (.int .u32 xdst) := hrow 8 _ rfl
        have c9 : wr.cell? ⟨g, i * 10 + 9, none⟩ = some (.slice oA ob.length oc) := hrow 9 _ rfl
        clear hrow hopr hor hright hfit hoe eoff emf eb pl1 pl2 pl3 hbl ho hio hobk
        go_upto_region 12 with fail
        have hi90 : (i : Int) ≤ 90 := by omega
        go_wp2_with fail
        have hx : Ex (fun _ => False) wr (wr.alloc (.cells #[.int .u8 xtos, .int .u16 xid, .bool xdf, .bool omf, .int .i64 ooff, .int .u8 xttl, .int .u8 xpr, .int .u32 xsrc, .int .u32 xdst, .slice oA ob.length oc] 27)) := (Ex.refl _ wr).alloc _
        have hb : (wr.alloc (.cells #[.int .u8 xtos, .int .u16 xid, .bool xdf, .bool omf, .int .i64 ooff, .int .u8 xttl, .int .u8 xpr, .int .u32 xsrc, .int .u32 xdst, .slice oA ob.length oc] 27)).heap[wr.heap.size]? = some (.cells #[.int .u8 xtos, .int .u16 xid, .bool xdf, .bool omf, .int .i64 ooff, .int .u8 xttl, .int .u8 xpr, .int .u32 xsrc, .int .u32 xdst, .slice oA ob.length oc] 27) := heap_alloc_new wr _
        obtain ⟨xb, hxb⟩ : ∃ xb, xb = wr.heap.size := ⟨_, rfl⟩
        have hb_xb : wr.heap.size ≤ xb := by omega
        rw [← hxb] at hb
        try simp only [← hxb]
        generalize wr.alloc (.cells #[.int .u8 xtos, .int .u16 xid, .bool xdf, .bool omf, .int .i64 ooff, .int .u8 xttl, .int .u8 xpr, .int .u32 xsrc, .int .u32 xdst, .slice oA ob.length oc] 27) = wt at hx hb ⊢
        clear hxb c0 c1 c2 c3 c4 c5 c6 c7 c8 c9
        have HX_wt := Lib.hid hx
        clear hx
        have B_xb := Lib.hid hb
        clear hb
        refine (right_yes (⟨xtos, xid, xdf, omf, ooff, xttl, xpr, xsrc, xdst, ob⟩ : Pk) oA oc wt (by show ob.length ≤ _; omega) HRI.out).mono ?_
        rintro e wu ⟨rfl, hx⟩
        have HX_wu := Lib.hid hx
        clear hx
        replace B_xb := Lib.hid ((HX_wu.out.block xb (row_lt B_xb.out) id).trans B_xb.out)
        replace B_bp := Lib.hid ((((HX_wr.out.trans HX_wt.out).trans HX_wu.out).block bp (row_lt B_bp.out) id).trans B_bp.out)
        have cxb0 := row_cell (k := 0) (v := .int .u8 xtos) B_xb.out rfl
        have cxb1 := row_cell (k := 1) (v := .int .u16 xid) B_xb.out rfl
        have cxb2 := row_cell (k := 2) (v := .bool xdf) B_xb.out rfl
        have cxb3 := row_cell (k := 3) (v := .bool omf) B_xb.out rfl
        have cxb4 := row_cell (k := 4) (v := .int .i64 ooff) B_xb.out rfl
        have cxb5 := row_cell (k := 5) (v := .int .u8 xttl) B_xb.out rfl
        have cxb6 := row_cell (k := 6) (v := .int .u8 xpr) B_xb.out rfl
        have cxb7 := row_cell (k := 7) (v := .int .u32 xsrc) B_xb.out rfl
        have cxb8 := row_cell (k := 8) (v := .int .u32 xdst) B_xb.out rfl
        have cxb9 := row_cell (k := 9) (v := .slice oA ob.length oc) B_xb.out rfl
        have cbp0 := row_cell (k := 0) (v := .int .u8 xtos) B_bp.out rfl
        have cbp1 := row_cell (k := 1) (v := .int .u16 xid) B_bp.out rfl
        have cbp2 := row_cell (k := 2) (v := .bool xdf) B_bp.out rfl
        have cbp3 := row_cell (k := 3) (v := .bool xmf) B_bp.out rfl
        have cbp4 := row_cell (k := 4) (v := .int .i64 xoff) B_bp.out rfl
        have cbp5 := row_cell (k := 5) (v := .int .u8 xttl) B_bp.out rfl
        have cbp6 := row_cell (k := 6) (v := .int .u8 xpr) B_bp.out rfl
        have cbp7 := row_cell (k := 7) (v := .int .u32 xsrc) B_bp.out rfl
        have cbp8 := row_cell (k := 8) (v := .int .u32 xdst) B_bp.out rfl
        have hcv := (HOR.out.keep (HX_wt.out.trans HX_wu.out) (fun _ _ _ _ => id)).rb.str (Pr := Tryd.prog) 25 9 5 Tryd.underlying25 Tryd.underlying5 Tryd.underlying9
        have hba := bs_append l ob
        have hmf : omf = (xmf || decide (i + 1 < n)) := HMF.out
        cases xmf with
        | true =>
          obtain rfl : omf = true := hmf
          obtain ⟨X, hX⟩ : ∃ X, X = ooff + (ob.length : Int) := ⟨_, rfl⟩
          have hbz := bs_size l
          have hby := bs_size ob
          have hnl : ¬ 9223372036854775807 < l.length + ob.length := by
            have h1 := HLL.out
            have h2 := HXN.out
            have h3 : l.length ≤ xl.length := by rw [h1, List.length_take]; omega
            omega
          have ha9 : wrap64 (ooff + (ob.length : Int)) = X := by
            have h1 := OKX.out.2.2.1
            have h2 := HRR.out
            have h3 := HA.out
            have h4 := HPL.out
            have h5 := HXN.out
            unfold wrap64
            have h6 := right_off h2
            change 0 ≤ xoff ∧ xoff ≤ 65535 at h6
            omega
          have HXE := Lib.hid hX
          have HW9 := Lib.hid ha9
          clear hX
          go_wp2_with fail
          go_roundg (n - (i + 1))
          case measure => omega
          case rel =>
            refine ⟨i + 1, X, l ++ ob, by rw [HW9.out], rfl, by simp, by omega, Nat.le_refl _, ?_, ?_, ((HX_wr.out.trans HX_wt.out).trans HX_wu.out)⟩
            · have h1 := HA.out
              have h2 := HPL.out
              show _ = _
              rw [HXE.out, Nat.add_mul, Nat.one_mul, h1]
              omega
            · show l ++ ob = _
              rw [HLL.out, HEB.out, Nat.add_mul, Nat.one_mul, List.take_add]
        | false =>
          by_cases hi1 : (i : Int) + 1 < (n : Int)
          ·
            obtain rfl : omf = true := by rw [hmf, decide_eq_true (show i + 1 < n by omega)]; rfl
            clear hmf
            obtain ⟨X, hX⟩ : ∃ X, X = ooff + (ob.length : Int) := ⟨_, rfl⟩
            have hbz := bs_size l
            have hby := bs_size ob
            have hnl : ¬ 9223372036854775807 < l.length + ob.length := by
              have h1 := HLL.out
              have h2 := HXN.out
              have h3 : l.length ≤ xl.length := by rw [h1, List.length_take]; omega
              omega
            have ha9 : wrap64 (ooff + (ob.length : Int)) = X := by
              have h1 := OKX.out.2.2.1
              have h2 := HRR.out
              have h3 := HA.out
              have h4 := HPL.out
              have h5 := HXN.out
              unfold wrap64
              have h6 := right_off h2
              change 0 ≤ xoff ∧ xoff ≤ 65535 at h6
              omega
            have HXE := Lib.hid hX
            have HW9 := Lib.hid ha9
            clear hX
            go_wp2_with fail
            go_roundg (n - (i + 1))
            case measure => omega
            case rel =>
              refine ⟨i + 1, X, l ++ ob, by rw [HW9.out], rfl, by simp, by omega, Nat.le_refl _, ?_, ?_, ((HX_wr.out.trans HX_wt.out).trans HX_wu.out)⟩
              · have h1 := HA.out
                have h2 := HPL.out
                show _ = _
                rw [HXE.out, Nat.add_mul, Nat.one_mul, h1]
                omega
              · show l ++ ob = _
                rw [HLL.out, HEB.out, Nat.add_mul, Nat.one_mul, List.take_add]
          ·
            obtain rfl : omf = false := by rw [hmf, decide_eq_false (show ¬ i + 1 < n by omega)]; rfl
            clear hmf
            obtain ⟨X, hX⟩ : ∃ X, X = ooff + (ob.length : Int) := ⟨_, rfl⟩
            have hbz := bs_size l
            have hby := bs_size ob
            have hnl : ¬ 9223372036854775807 < l.length + ob.length := by
              have h1 := HLL.out
              have h2 := HXN.out
              have h3 : l.length ≤ xl.length := by rw [h1, List.length_take]; omega
              omega
            have ha9 : wrap64 (ooff + (ob.length : Int)) = X := by
              have h1 := OKX.out.2.2.1
              have h2 := HRR.out
              have h3 := HA.out
              have h4 := HPL.out
              have h5 := HXN.out
              unfold wrap64
              have h6 := right_off h2
              change 0 ≤ xoff ∧ xoff ≤ 65535 at h6
              omega
            have HXE := Lib.hid hX
            have HW9 := Lib.hid ha9
            clear hX
            go_wp2_with fail
            go_roundg (n - (i + 1))
            case measure => omega
            case rel =>
              refine ⟨i + 1, X, l ++ ob, by rw [HW9.out], rfl, by simp, by omega, Nat.le_refl _, ?_, ?_, ((HX_wr.out.trans HX_wt.out).trans HX_wu.out)⟩
              · have h1 := HA.out
                have h2 := HPL.out
                show _ = _
                rw [HXE.out, Nat.add_mul, Nat.one_mul, h1]
                omega
              · show l ++ ob = _
                rw [HLL.out, HEB.out, Nat.add_mul, Nat.one_mul, List.take_add]
      · obtain rfl : i = n := by omega
        replace B_bp := Lib.hid ((HX_wr.out.block bp (row_lt B_bp.out) id).trans B_bp.out)
        have cbp9 := row_cell (k := 9) (v := .slice (some xA) xl.length xc) B_bp.out rfl
        have hn0 : ¬ (i : Int) = 0 := by have := HN1.out; omega
        have hn0' : (0 : Int) < (i : Int) := by have := HN1.out; omega
        have hll : l = xl := by
          have h1 := HLL.out
          have h2 := HPD.out.cov
          rw [h1, List.take_of_length_le h2]
        subst hll
        have hcv := (OB.keep (OB.keepB HO_x.out HX_w4.out (by omega)) (HX_w5.out.trans HX_wr.out) (fun _ _ _ _ => id)).rb.str (Pr := Tryd.prog) 25 9 5 Tryd.underlying25 Tryd.underlying5 Tryd.underlying9
        have hse := bs_eqL l
        go_wp2_with fail
        go_ret
        exact ⟨rfl, (((((HX_w1.out.trans HX_w2.out).trans HX_w3.out).andThen HX_w4.out (fun i hi e => by have := hb_bp; omega)).trans HX_w5.out).trans HX_wr.out)⟩
end Go.Proofs.YtabjihchcmjdmaaDoor
