/-
  The walk of Ipv4Back. By an AI agent.
-/
import Derived.Test.YtfcfpkhcpijkfaaDoorShown05
import Derived.Test.YtfcfpkhcpijkfaaDoorStr
import Derived.Test.YtfcfpkhcpijkfaaDoorIpA2
import Derived.Test.YtfcfpkhcpijkfaaDoorAlike05
import Derived.Deep.DeepCutAuto
import Derived.Deep.CutBlock
namespace Go.Proofs.YtfcfpkhcpijkfaaDoor
open Go.RowKit

theorem zpk_ok : zpk.ok := by refine ⟨?_, ?_, ?_, ?_, ?_, ?_, ?_⟩ <;> decide
set_option maxRecDepth 100000 in
set_option maxHeartbeats 16000000 in
theorem back05_any (p : Pk) (A : Option Addr) (c : Nat) (B : Option Addr) (nb cb : Nat) (r : List UInt8) (D : Option Addr) (nd cd : Nat) (s : List UInt8) (w : World) (ok : p.ok) (hp : RB w (fun _ => True) (.slice A p.b.length c) p.b) (hr : RB w (fun _ => True) (.slice B nb cb) r) (hs : RB w (fun _ => True) (.slice D nd cd) s) (hz : D = none → cd = 0) (hg : ET w) :
    Calls Tryd.prog 9 #[pkv p (.slice A p.b.length c), .slice B nb cb, .slice D nd cd] w fun e w' => e = .returned (.bool true) ∧ Ex (fun _ => False) w w' := by
  obtain ⟨xtos, xid, xdf, xmf, xoff, xttl, xpr, xsrc, xdst, xb⟩ := p
  simp only at hp
  obtain rfl : nb = r.length := by obtain ⟨_, _, _, e, _⟩ := hr; injection e
  obtain rfl : nd = s.length := by obtain ⟨_, _, _, e, _⟩ := hs; injection e
  obtain ⟨i0, hi, hz0, hz1, hz2⟩ := info_parts Tryd.info5
  have HG := Lib.hid hg
  have HP := Lib.hid hp
  have OKP := Lib.hid ok
  have HZ := Lib.hid hz
  obtain ⟨r1, hk, hk1, hk2, hr1⟩ : ∃ l1 : List UInt8, (if 50 < (r.length : Int) then (50 : Int) else (r.length : Int)) = (l1.length : Int) ∧ l1.length ≤ r.length ∧ l1.length ≤ 50 ∧ Hid (l1 = r.take 50) := by
    refine ⟨r.take 50, ?_, by simp; omega, by simp; omega, rfl⟩
    rw [List.length_take]; split <;> omega
  have hki : (r1.length : Int) ≤ (r.length : Int) := by omega
  have hrc : r.length ≤ cb := by obtain ⟨_, _, _, e, h, _⟩ := hr; injection e with _ _ e3; rw [e3]; exact h
  have hkc : r1.length ≤ cb := by omega
  have hrt := hr.take 50
  rw [← hr1.out] at hrt
  have HR := Lib.hid hrt
  obtain ⟨s1, hm, hm1, hm2, hs1⟩ : ∃ l1 : List UInt8, (if 3000 < (s.length : Int) then (3000 : Int) else (s.length : Int)) = (l1.length : Int) ∧ l1.length ≤ s.length ∧ l1.length ≤ 3000 ∧ Hid (l1 = s.take 3000) := by
    refine ⟨s.take 3000, ?_, by simp; omega, by simp; omega, rfl⟩
    rw [List.length_take]; split <;> omega
  have hmi : (s1.length : Int) ≤ (s.length : Int) := by omega
  have hsc : s.length ≤ cd := by obtain ⟨_, _, _, e, h, _⟩ := hs; injection e with _ _ e3; rw [e3]; exact h
  have hmc : s1.length ≤ cd := by omega
  have hst := hs.take 3000
  rw [← hs1.out] at hst
  have HS := Lib.hid hst
  have HK := Lib.hid hk
  have HM := Lib.hid hm
  clear hp ok hg hz hr hrt hst hs hk hm
  show Calls Tryd.prog 9 #[.agg #[.int .u8 xtos, .int .u16 xid, .bool xdf, .bool xmf, .int .i64 xoff, .int .u8 xttl, .int .u8 xpr, .int .u32 xsrc, .int .u32 xdst, .slice A xb.length c], .slice B r.length cb, .slice D s.length cd] w _
  go_enter Tryd.func9, Tryd.ntmps9
  go_upto_region 1 with fail
  have hx : Ex (fun _ => False) w (w.alloc (.cells #[.int .u8 xtos, .int .u16 xid, .bool xdf, .bool xmf, .int .i64 xoff, .int .u8 xttl, .int .u8 xpr, .int .u32 xsrc, .int .u32 xdst, .slice A xb.length c] 51)) := (Ex.refl _ w).alloc _
  have hb : (w.alloc (.cells #[.int .u8 xtos, .int .u16 xid, .bool xdf, .bool xmf, .int .i64 xoff, .int .u8 xttl, .int .u8 xpr, .int .u32 xsrc, .int .u32 xdst, .slice A xb.length c] 51)).heap[w.heap.size]? = some (.cells #[.int .u8 xtos, .int .u16 xid, .bool xdf, .bool xmf, .int .i64 xoff, .int .u8 xttl, .int .u8 xpr, .int .u32 xsrc, .int .u32 xdst, .slice A xb.length c] 51) := heap_alloc_new w _
  obtain ⟨bp, hbp⟩ : ∃ bp, bp = w.heap.size := ⟨_, rfl⟩
  have hb_bp : w.heap.size ≤ bp := by omega
  rw [← hbp] at hb
  try simp only [← hbp]
  generalize w.alloc (.cells #[.int .u8 xtos, .int .u16 xid, .bool xdf, .bool xmf, .int .i64 xoff, .int .u8 xttl, .int .u8 xpr, .int .u32 xsrc, .int .u32 xdst, .slice A xb.length c] 51) = w1 at hx hb ⊢
  clear hbp
  have HX_w1 := Lib.hid hx
  clear hx
  have B_bp := Lib.hid hb
  clear hb
  have hlp := row_lt B_bp.out
  go_wp2_with fail
  refine (shown5_any w1 (HG.out.keep HX_w1.out id)).mono ?_
  rintro e w2 ⟨rfl, hx⟩
  have hz12 := hx.size
  have HX_w2 := Lib.hid hx
  clear hx
  replace B_bp := Lib.hid ((HX_w2.out.block bp (row_lt B_bp.out) id).trans B_bp.out)
  have cbp0 := row_cell (k := 0) (v := .int .u8 xtos) B_bp.out rfl
  have cbp1 := row_cell (k := 1) (v := .int .u16 xid) B_bp.out rfl
  have cbp2 := row_cell (k := 2) (v := .bool xdf) B_bp.out rfl
  have cbp3 := row_cell (k := 3) (v := .bool xmf) B_bp.out rfl
  have cbp4 := row_cell (k := 4) (v := .int .i64 xoff) B_bp.out rfl
  have cbp5 := row_cell (k := 5) (v := .int .u8 xttl) B_bp.out rfl
  have cbp6 := row_cell (k := 6) (v := .int .u8 xpr) B_bp.out rfl
  have cbp7 := row_cell (k := 7) (v := .int .u32 xsrc) B_bp.out rfl
  have cbp8 := row_cell (k := 8) (v := .int .u32 xdst) B_bp.out rfl
  have cbp9 := row_cell (k := 9) (v := .slice A xb.length c) B_bp.out rfl
  have fbp0 := row_frozen B_bp.out 0
  have fbp1 := row_frozen B_bp.out 1
  have fbp2 := row_frozen B_bp.out 2
  have fbp3 := row_frozen B_bp.out 3
  have fbp4 := row_frozen B_bp.out 4
  have fbp5 := row_frozen B_bp.out 5
  have fbp6 := row_frozen B_bp.out 6
  have fbp7 := row_frozen B_bp.out 7
  have fbp8 := row_frozen B_bp.out 8
  have fbp9 := row_frozen B_bp.out 9
  go_wp2_with fail
  refine (few5_any _ (⟨xtos, xid, xdf, xmf, xoff, xttl, xpr, xsrc, xdst, xb⟩ : Pk) A c w2 (RB.keep HP.out (HX_w1.out.trans HX_w2.out) (fun _ _ _ => id))).mono ?_
  rintro e w3 ⟨xA, xc, rfl, ho, hx⟩
  obtain ⟨xl, hxl⟩ : ∃ l, l = xb.take 3000 := ⟨_, rfl⟩
  have hfw : (⟨xtos, xid, xdf, xmf, xoff, xttl, xpr, xsrc, xdst, xb⟩ : Pk).few 3000 = (⟨xtos, xid, xdf, xmf, xoff, xttl, xpr, xsrc, xdst, xl⟩ : Pk) := by rw [hxl]; rfl
  rw [hfw] at ho ⊢
  have hxn : xl.length ≤ 3000 := by rw [hxl, List.length_take]; omega
  have hv : pkv (⟨xtos, xid, xdf, xmf, xoff, xttl, xpr, xsrc, xdst, xl⟩ : Pk) (.slice (some xA) (⟨xtos, xid, xdf, xmf, xoff, xttl, xpr, xsrc, xdst, xl⟩ : Pk).b.length xc) = .agg #[.int .u8 xtos, .int .u16 xid, .bool xdf, .bool xmf, .int .i64 xoff, .int .u8 xttl, .int .u8 xpr, .int .u32 xsrc, .int .u32 xdst, .slice (some xA) xl.length xc] := rfl
  rw [hv]
  have ho' : OB w3 w2.heap.size (.slice (some xA) xl.length xc) xl := ho
  clear hv hfw hxl ho cbp0 cbp1 cbp2 cbp3 cbp4 cbp5 cbp6 cbp7 cbp8 cbp9 fbp0 fbp1 fbp2 fbp3 fbp4 fbp5 fbp6 fbp7 fbp8 fbp9
  have HX_w3 := Lib.hid hx
  clear hx
  have HO_x := Lib.hid ho'
  clear ho'
  have hbl_bp := row_lt B_bp.out
  replace B_bp := Lib.hid ((HX_w3.out.block bp (row_lt B_bp.out) id).trans B_bp.out)
  have cbp0 := row_cell (k := 0) (v := .int .u8 xtos) B_bp.out rfl
  have cbp1 := row_cell (k := 1) (v := .int .u16 xid) B_bp.out rfl
  have cbp2 := row_cell (k := 2) (v := .bool xdf) B_bp.out rfl
  have cbp3 := row_cell (k := 3) (v := .bool xmf) B_bp.out rfl
  have cbp4 := row_cell (k := 4) (v := .int .i64 xoff) B_bp.out rfl
  have cbp5 := row_cell (k := 5) (v := .int .u8 xttl) B_bp.out rfl
  have cbp6 := row_cell (k := 6) (v := .int .u8 xpr) B_bp.out rfl
  have cbp7 := row_cell (k := 7) (v := .int .u32 xsrc) B_bp.out rfl
  have cbp8 := row_cell (k := 8) (v := .int .u32 xdst) B_bp.out rfl
  have cbp9 := row_cell (k := 9) (v := .slice A xb.length c) B_bp.out rfl
  have fbp0 := row_frozen B_bp.out 0
  have fbp1 := row_frozen B_bp.out 1
  have fbp2 := row_frozen B_bp.out 2
  have fbp3 := row_frozen B_bp.out 3
  have fbp4 := row_frozen B_bp.out 4
  have fbp5 := row_frozen B_bp.out 5
  have fbp6 := row_frozen B_bp.out 6
  have fbp7 := row_frozen B_bp.out 7
  have fbp8 := row_frozen B_bp.out 8
  have fbp9 := row_frozen B_bp.out 9
  go_upto_region 3 with fail
  have r0 : (w3.setCell ⟨bp, 0, none⟩ (.int .u8 xtos)).heap[bp]? = some (.cells #[.int .u8 xtos, .int .u16 xid, .bool xdf, .bool xmf, .int .i64 xoff, .int .u8 xttl, .int .u8 xpr, .int .u32 xsrc, .int .u32 xdst, .slice A xb.length c] 51) := row_set B_bp.out 0 (.int .u8 xtos)
  have r1 : ((w3.setCell ⟨bp, 0, none⟩ (.int .u8 xtos)).setCell ⟨bp, 1, none⟩ (.int .u16 xid)).heap[bp]? = some (.cells #[.int .u8 xtos, .int .u16 xid, .bool xdf, .bool xmf, .int .i64 xoff, .int .u8 xttl, .int .u8 xpr, .int .u32 xsrc, .int .u32 xdst, .slice A xb.length c] 51) := row_set r0 1 (.int .u16 xid)
  clear r0
  have r2 : (((w3.setCell ⟨bp, 0, none⟩ (.int .u8 xtos)).setCell ⟨bp, 1, none⟩ (.int .u16 xid)).setCell ⟨bp, 2, none⟩ (.bool xdf)).heap[bp]? = some (.cells #[.int .u8 xtos, .int .u16 xid, .bool xdf, .bool xmf, .int .i64 xoff, .int .u8 xttl, .int .u8 xpr, .int .u32 xsrc, .int .u32 xdst, .slice A xb.length c] 51) := row_set r1 2 (.bool xdf)
  clear r1
  have r3 : ((((w3.setCell ⟨bp, 0, none⟩ (.int .u8 xtos)).setCell ⟨bp, 1, none⟩ (.int .u16 xid)).setCell ⟨bp, 2, none⟩ (.bool xdf)).setCell ⟨bp, 3, none⟩ (.bool xmf)).heap[bp]? = some (.cells #[.int .u8 xtos, .int .u16 xid, .bool xdf, .bool xmf, .int .i64 xoff, .int .u8 xttl, .int .u8 xpr, .int .u32 xsrc, .int .u32 xdst, .slice A xb.length c] 51) := row_set r2 3 (.bool xmf)
  clear r2
  have r4 : (((((w3.setCell ⟨bp, 0, none⟩ (.int .u8 xtos)).setCell ⟨bp, 1, none⟩ (.int .u16 xid)).setCell ⟨bp, 2, none⟩ (.bool xdf)).setCell ⟨bp, 3, none⟩ (.bool xmf)).setCell ⟨bp, 4, none⟩ (.int .i64 xoff)).heap[bp]? = some (.cells #[.int .u8 xtos, .int .u16 xid, .bool xdf, .bool xmf, .int .i64 xoff, .int .u8 xttl, .int .u8 xpr, .int .u32 xsrc, .int .u32 xdst, .slice A xb.length c] 51) := row_set r3 4 (.int .i64 xoff)
  clear r3
  have r5 : ((((((w3.setCell ⟨bp, 0, none⟩ (.int .u8 xtos)).setCell ⟨bp, 1, none⟩ (.int .u16 xid)).setCell ⟨bp, 2, none⟩ (.bool xdf)).setCell ⟨bp, 3, none⟩ (.bool xmf)).setCell ⟨bp, 4, none⟩ (.int .i64 xoff)).setCell ⟨bp, 5, none⟩ (.int .u8 xttl)).heap[bp]? = some (.cells #[.int .u8 xtos, .int .u16 xid, .bool xdf, .bool xmf, .int .i64 xoff, .int .u8 xttl, .int .u8 xpr, .int .u32 xsrc, .int .u32 xdst, .slice A xb.length c] 51) := row_set r4 5 (.int .u8 xttl)
  clear r4
  have r6 : (((((((w3.setCell ⟨bp, 0, none⟩ (.int .u8 xtos)).setCell ⟨bp, 1, none⟩ (.int .u16 xid)).setCell ⟨bp, 2, none⟩ (.bool xdf)).setCell ⟨bp, 3, none⟩ (.bool xmf)).setCell ⟨bp, 4, none⟩ (.int .i64 xoff)).setCell ⟨bp, 5, none⟩ (.int .u8 xttl)).setCell ⟨bp, 6, none⟩ (.int .u8 xpr)).heap[bp]? = some (.cells #[.int .u8 xtos, .int .u16 xid, .bool xdf, .bool xmf, .int .i64 xoff, .int .u8 xttl, .int .u8 xpr, .int .u32 xsrc, .int .u32 xdst, .slice A xb.length c] 51) := row_set r5 6 (.int .u8 xpr)
  clear r5
  have r7 : ((((((((w3.setCell ⟨bp, 0, none⟩ (.int .u8 xtos)).setCell ⟨bp, 1, none⟩ (.int .u16 xid)).setCell ⟨bp, 2, none⟩ (.bool xdf)).setCell ⟨bp, 3, none⟩ (.bool xmf)).setCell ⟨bp, 4, none⟩ (.int .i64 xoff)).setCell ⟨bp, 5, none⟩ (.int .u8 xttl)).setCell ⟨bp, 6, none⟩ (.int .u8 xpr)).setCell ⟨bp, 7, none⟩ (.int .u32 xsrc)).heap[bp]? = some (.cells #[.int .u8 xtos, .int .u16 xid, .bool xdf, .bool xmf, .int .i64 xoff, .int .u8 xttl, .int .u8 xpr, .int .u32 xsrc, .int .u32 xdst, .slice A xb.length c] 51) := row_set r6 7 (.int .u32 xsrc)
  clear r6
  have r8 : (((((((((w3.setCell ⟨bp, 0, none⟩ (.int .u8 xtos)).setCell ⟨bp, 1, none⟩ (.int .u16 xid)).setCell ⟨bp, 2, none⟩ (.bool xdf)).setCell ⟨bp, 3, none⟩ (.bool xmf)).setCell ⟨bp, 4, none⟩ (.int .i64 xoff)).setCell ⟨bp, 5, none⟩ (.int .u8 xttl)).setCell ⟨bp, 6, none⟩ (.int .u8 xpr)).setCell ⟨bp, 7, none⟩ (.int .u32 xsrc)).setCell ⟨bp, 8, none⟩ (.int .u32 xdst)).heap[bp]? = some (.cells #[.int .u8 xtos, .int .u16 xid, .bool xdf, .bool xmf, .int .i64 xoff, .int .u8 xttl, .int .u8 xpr, .int .u32 xsrc, .int .u32 xdst, .slice A xb.length c] 51) := row_set r7 8 (.int .u32 xdst)
  clear r7
  have r9 : ((((((((((w3.setCell ⟨bp, 0, none⟩ (.int .u8 xtos)).setCell ⟨bp, 1, none⟩ (.int .u16 xid)).setCell ⟨bp, 2, none⟩ (.bool xdf)).setCell ⟨bp, 3, none⟩ (.bool xmf)).setCell ⟨bp, 4, none⟩ (.int .i64 xoff)).setCell ⟨bp, 5, none⟩ (.int .u8 xttl)).setCell ⟨bp, 6, none⟩ (.int .u8 xpr)).setCell ⟨bp, 7, none⟩ (.int .u32 xsrc)).setCell ⟨bp, 8, none⟩ (.int .u32 xdst)).setCell ⟨bp, 9, none⟩ (.slice (some xA) xl.length xc)).heap[bp]? = some (.cells #[.int .u8 xtos, .int .u16 xid, .bool xdf, .bool xmf, .int .i64 xoff, .int .u8 xttl, .int .u8 xpr, .int .u32 xsrc, .int .u32 xdst, .slice (some xA) xl.length xc] 51) := row_set r8 9 (.slice (some xA) xl.length xc)
  clear r8
  have hx : Ex (fun j => j = bp) w3 ((((((((((w3.setCell ⟨bp, 0, none⟩ (.int .u8 xtos)).setCell ⟨bp, 1, none⟩ (.int .u16 xid)).setCell ⟨bp, 2, none⟩ (.bool xdf)).setCell ⟨bp, 3, none⟩ (.bool xmf)).setCell ⟨bp, 4, none⟩ (.int .i64 xoff)).setCell ⟨bp, 5, none⟩ (.int .u8 xttl)).setCell ⟨bp, 6, none⟩ (.int .u8 xpr)).setCell ⟨bp, 7, none⟩ (.int .u32 xsrc)).setCell ⟨bp, 8, none⟩ (.int .u32 xdst)).setCell ⟨bp, 9, none⟩ (.slice (some xA) xl.length xc)) := (((((((((((Ex.refl (fun j => j = bp) w3).setCell (p := ⟨bp, 0, none⟩) (.inl rfl) (.int .u8 xtos)).setCell (p := ⟨bp, 1, none⟩) (.inl rfl) (.int .u16 xid)).setCell (p := ⟨bp, 2, none⟩) (.inl rfl) (.bool xdf)).setCell (p := ⟨bp, 3, none⟩) (.inl rfl) (.bool xmf)).setCell (p := ⟨bp, 4, none⟩) (.inl rfl) (.int .i64 xoff)).setCell (p := ⟨bp, 5, none⟩) (.inl rfl) (.int .u8 xttl)).setCell (p := ⟨bp, 6, none⟩) (.inl rfl) (.int .u8 xpr)).setCell (p := ⟨bp, 7, none⟩) (.inl rfl) (.int .u32 xsrc)).setCell (p := ⟨bp, 8, none⟩) (.inl rfl) (.int .u32 xdst)).setCell (p := ⟨bp, 9, none⟩) (.inl rfl) (.slice (some xA) xl.length xc))
  clear cbp0 cbp1 cbp2 cbp3 cbp4 cbp5 cbp6 cbp7 cbp8 cbp9 fbp0 fbp1 fbp2 fbp3 fbp4 fbp5 fbp6 fbp7 fbp8 fbp9
  generalize ((((((((((w3.setCell ⟨bp, 0, none⟩ (.int .u8 xtos)).setCell ⟨bp, 1, none⟩ (.int .u16 xid)).setCell ⟨bp, 2, none⟩ (.bool xdf)).setCell ⟨bp, 3, none⟩ (.bool xmf)).setCell ⟨bp, 4, none⟩ (.int .i64 xoff)).setCell ⟨bp, 5, none⟩ (.int .u8 xttl)).setCell ⟨bp, 6, none⟩ (.int .u8 xpr)).setCell ⟨bp, 7, none⟩ (.int .u32 xsrc)).setCell ⟨bp, 8, none⟩ (.int .u32 xdst)).setCell ⟨bp, 9, none⟩ (.slice (some xA) xl.length xc)) = w4 at r9 hx ⊢
  replace B_bp := Lib.hid r9
  clear r9
  have HX_w4 := Lib.hid hx
  clear hx
  by_cases hrt : (⟨xtos, xid, xdf, xmf, xoff, xttl, xpr, xsrc, xdst, xl⟩ : Pk).right = 0
  case neg =>
    have HRT := Lib.hid hrt
    clear hrt
    have cbp0 := row_cell (k := 0) (v := .int .u8 xtos) B_bp.out rfl
    have cbp1 := row_cell (k := 1) (v := .int .u16 xid) B_bp.out rfl
    have cbp2 := row_cell (k := 2) (v := .bool xdf) B_bp.out rfl
    have cbp3 := row_cell (k := 3) (v := .bool xmf) B_bp.out rfl
    have cbp4 := row_cell (k := 4) (v := .int .i64 xoff) B_bp.out rfl
    have cbp5 := row_cell (k := 5) (v := .int .u8 xttl) B_bp.out rfl
    have cbp6 := row_cell (k := 6) (v := .int .u8 xpr) B_bp.out rfl
    have cbp7 := row_cell (k := 7) (v := .int .u32 xsrc) B_bp.out rfl
    have cbp8 := row_cell (k := 8) (v := .int .u32 xdst) B_bp.out rfl
    have cbp9 := row_cell (k := 9) (v := .slice (some xA) xl.length xc) B_bp.out rfl
    have okl : (⟨xtos, xid, xdf, xmf, xoff, xttl, xpr, xsrc, xdst, xl⟩ : Pk).ok := OKP.out
    go_wp2_with fail
    refine (pbytes_no _ (⟨xtos, xid, xdf, xmf, xoff, xttl, xpr, xsrc, xdst, xl⟩ : Pk) (some xA) xc w4 okl (OB.keepB HO_x.out HX_w4.out (by omega)).rb (by show xl.length ≤ _; omega) HRT.out).mono ?_
    rintro e w5 ⟨ty5, y5, rfl, _, hx⟩
    clear okl cbp0 cbp1 cbp2 cbp3 cbp4 cbp5 cbp6 cbp7 cbp8 cbp9
    have HX_w5 := Lib.hid hx
    clear hx
    replace B_bp := Lib.hid ((HX_w5.out.block bp (row_lt B_bp.out) id).trans B_bp.out)
    have cbp0 := row_cell (k := 0) (v := .int .u8 xtos) B_bp.out rfl
    have cbp1 := row_cell (k := 1) (v := .int .u16 xid) B_bp.out rfl
    have cbp2 := row_cell (k := 2) (v := .bool xdf) B_bp.out rfl
    have cbp3 := row_cell (k := 3) (v := .bool xmf) B_bp.out rfl
    have cbp4 := row_cell (k := 4) (v := .int .i64 xoff) B_bp.out rfl
    have cbp5 := row_cell (k := 5) (v := .int .u8 xttl) B_bp.out rfl
    have cbp6 := row_cell (k := 6) (v := .int .u8 xpr) B_bp.out rfl
    have cbp7 := row_cell (k := 7) (v := .int .u32 xsrc) B_bp.out rfl
    have cbp8 := row_cell (k := 8) (v := .int .u32 xdst) B_bp.out rfl
    have cbp9 := row_cell (k := 9) (v := .slice (some xA) xl.length xc) B_bp.out rfl
    go_upto_region 4 with fail
    have hS0 : Ex (fun _ => False) w5 w5.drew := (Ex.refl _ w5).drew
    refine wp_region_held_drew (S := fun W => Ex (fun _ => False) w5 W) (by kernel_rfl) hS0 (fun _ => ?_)
    refine wpAnyH_take (i := 0) (oi := { dst := some 22, op := Go.Op.move (Go.Operand.tmp 9), type := 29, pos := "law.go:71", after := #[], guard := none }) (v := ?v1) rfl (by kernel_rfl) (by kernel_rfl) (by kernel_rfl) (fun _ _ _ h => h) (Or.inl ⟨by rfl, ?hy1⟩) (by assumption) ?rest1
    case hy1 => (intro w hSw; (try dsimp only at hSw); have ecbp0 := hSw.cell cbp0 id; have ecbp1 := hSw.cell cbp1 id; have ecbp2 := hSw.cell cbp2 id; have ecbp3 := hSw.cell cbp3 id; have ecbp4 := hSw.cell cbp4 id; have ecbp5 := hSw.cell cbp5 id; have ecbp6 := hSw.cell cbp6 id; have ecbp7 := hSw.cell cbp7 id; have ecbp8 := hSw.cell cbp8 id; have ecbp9 := hSw.cell cbp9 id; go_simp <;> with_reducible rfl)
    try simp only [Act.put, List.setIfInBounds_toArray, List.set_cons_zero, List.set_cons_succ]
    refine wpAnyH_take (i := 1) (oi := { dst := some 23, op := Go.Op.binOp Go.BinOp.eql 29 (Go.Operand.tmp 22) (Go.Operand.const Go.Value.nilIface) 29, type := 4, pos := "law.go:71", after := #[{ on := 0, ground := Go.Ground.data }], guard := none }) (v := ?v2) rfl (by kernel_rfl) (by kernel_rfl) (by kernel_rfl) (fun _ _ _ h => h) (Or.inl ⟨by rfl, ?hy2⟩) (by assumption) ?rest2
    case hy2 => (intro w hSw; (try dsimp only at hSw); have ecbp0 := hSw.cell cbp0 id; have ecbp1 := hSw.cell cbp1 id; have ecbp2 := hSw.cell cbp2 id; have ecbp3 := hSw.cell cbp3 id; have ecbp4 := hSw.cell cbp4 id; have ecbp5 := hSw.cell cbp5 id; have ecbp6 := hSw.cell cbp6 id; have ecbp7 := hSw.cell cbp7 id; have ecbp8 := hSw.cell cbp8 id; have ecbp9 := hSw.cell cbp9 id; go_simp <;> with_reducible rfl)
    try simp only [Act.put, List.setIfInBounds_toArray, List.set_cons_zero, List.set_cons_succ]
    refine wpAnyH_take (i := 2) (oi := { dst := some 24, op := Go.Op.load 51 (Go.Operand.tmp 3), type := 51, pos := "law.go:71", after := #[], guard := none }) (v := ?v3) rfl (by kernel_rfl) (by kernel_rfl) (by kernel_rfl) (fun _ _ _ h => h) (Or.inl ⟨by rfl, ?hy3⟩) (by assumption) ?rest3
    case hy3 => (intro w hSw; (try dsimp only at hSw); have ecbp0 := hSw.cell cbp0 id; have ecbp1 := hSw.cell cbp1 id; have ecbp2 := hSw.cell cbp2 id; have ecbp3 := hSw.cell cbp3 id; have ecbp4 := hSw.cell cbp4 id; have ecbp5 := hSw.cell cbp5 id; have ecbp6 := hSw.cell cbp6 id; have ecbp7 := hSw.cell cbp7 id; have ecbp8 := hSw.cell cbp8 id; have ecbp9 := hSw.cell cbp9 id; go_simp <;> with_reducible rfl)
    try simp only [Act.put, List.setIfInBounds_toArray, List.set_cons_zero, List.set_cons_succ]
    refine wpAnyH_ready (rs := [3]) (by kernel_rfl) (by simp) ?_
    refine AllReadyH.cons (o := { dst := some 25, op := Go.Op.call { callee := Go.Callee.value (Go.Operand.func 31), args := #[Go.Operand.tmp 24], argTypes := #[51] }, type := 29, pos := "law.go:71", after := #[{ on := 2, ground := Go.Ground.data }], guard := none }) rfl (fun K hK => ?_) AllReadyH.nil
    go_simp
    refine (right_no (⟨xtos, xid, xdf, xmf, xoff, xttl, xpr, xsrc, xdst, xl⟩ : Pk) (some xA) xc _ (by show xl.length ≤ _; omega) HRT.out).mono ?_
    rintro e w6 ⟨ty6, y6, rfl, _, hx⟩
    have hS1 := hS0.trans hx
    clear hx
    refine hK.out _ _ hS1 (fun _ => ?_)
    refine wpAnyH_take (i := 4) (oi := { dst := some 26, op := Go.Op.binOp Go.BinOp.eql 29 (Go.Operand.tmp 25) (Go.Operand.const Go.Value.nilIface) 29, type := 4, pos := "law.go:71", after := #[{ on := 3, ground := Go.Ground.data }], guard := none }) (v := ?v4) rfl (by kernel_rfl) (by kernel_rfl) (by kernel_rfl) (fun _ _ _ h => h) (Or.inl ⟨by rfl, ?hy4⟩) (by assumption) ?rest4
    case hy4 => (intro w hSw; (try dsimp only at hSw); have ecbp0 := hSw.cell cbp0 id; have ecbp1 := hSw.cell cbp1 id; have ecbp2 := hSw.cell cbp2 id; have ecbp3 := hSw.cell cbp3 id; have ecbp4 := hSw.cell cbp4 id; have ecbp5 := hSw.cell cbp5 id; have ecbp6 := hSw.cell cbp6 id; have ecbp7 := hSw.cell cbp7 id; have ecbp8 := hSw.cell cbp8 id; have ecbp9 := hSw.cell cbp9 id; go_simp <;> with_reducible rfl)
    try simp only [Act.put, List.setIfInBounds_toArray, List.set_cons_zero, List.set_cons_succ]
    refine wpAnyH_take (i := 5) (oi := { dst := some 27, op := Go.Op.binOp Go.BinOp.neq 4 (Go.Operand.tmp 23) (Go.Operand.tmp 26) 4, type := 4, pos := "law.go:71", after := #[{ on := 1, ground := Go.Ground.data }, { on := 4, ground := Go.Ground.data }], guard := none }) (v := ?v5) rfl (by kernel_rfl) (by kernel_rfl) (by kernel_rfl) (fun _ _ _ h => h) (Or.inl ⟨by rfl, ?hy5⟩) (by assumption) ?rest5
    case hy5 => (intro w hSw; (try dsimp only at hSw); have ecbp0 := hSw.cell cbp0 id; have ecbp1 := hSw.cell cbp1 id; have ecbp2 := hSw.cell cbp2 id; have ecbp3 := hSw.cell cbp3 id; have ecbp4 := hSw.cell cbp4 id; have ecbp5 := hSw.cell cbp5 id; have ecbp6 := hSw.cell cbp6 id; have ecbp7 := hSw.cell cbp7 id; have ecbp8 := hSw.cell cbp8 id; have ecbp9 := hSw.cell cbp9 id; go_simp <;> with_reducible rfl)
    try simp only [Act.put, List.setIfInBounds_toArray, List.set_cons_zero, List.set_cons_succ]
    refine wpAnyH_done (by kernel_rfl) ?_ _
    have hx := hS1
    clear hS0 hS1 cbp0 cbp1 cbp2 cbp3 cbp4 cbp5 cbp6 cbp7 cbp8 cbp9
    have HX_w6 := Lib.hid hx
    clear hx
    have hm := HM.out
    have hsb := (RB.keep HS.out (((((HX_w1.out.trans HX_w2.out).trans HX_w3.out).andThen HX_w4.out (fun i hi e => by have := hb_bp; omega)).trans HX_w5.out).trans HX_w6.out) (fun _ _ _ => id))
    have HSB := Lib.hid hsb
    clear hsb
    cases hpe : perr s1 with
    | some rk =>
      obtain ⟨rr, kk⟩ := rk
      have HPE := Lib.hid hpe
      clear hpe
      go_wp2_with fail
      refine (ipparse_no _ D s1.length cd s1 w6 HSB.out HZ.out (by omega) rr kk HPE.out).mono ?_
      rintro e v1 ⟨ty7, y7, rfl, _, hx⟩
      clear hm
      have HX_v1 := Lib.hid hx
      clear hx
      have hv : pkv zpk (.slice none 0 0) = .agg #[.int .u8 0, .int .u16 0, .bool false, .bool false, .int .i64 0, .int .u8 0, .int .u8 0, .int .u32 0, .int .u32 0, .slice none 0 0] := rfl
      rw [hv]
      clear hv
      go_upto_region 12 with fail
      have hx : Ex (fun _ => False) v1 (v1.alloc (.cells #[.int .u8 0, .int .u16 0, .bool false, .bool false, .int .i64 0, .int .u8 0, .int .u8 0, .int .u32 0, .int .u32 0, .slice none 0 0] 51)) := (Ex.refl _ v1).alloc _
      have hb : (v1.alloc (.cells #[.int .u8 0, .int .u16 0, .bool false, .bool false, .int .i64 0, .int .u8 0, .int .u8 0, .int .u32 0, .int .u32 0, .slice none 0 0] 51)).heap[v1.heap.size]? = some (.cells #[.int .u8 0, .int .u16 0, .bool false, .bool false, .int .i64 0, .int .u8 0, .int .u8 0, .int .u32 0, .int .u32 0, .slice none 0 0] 51) := heap_alloc_new v1 _
      obtain ⟨zb, hzb⟩ : ∃ zb, zb = v1.heap.size := ⟨_, rfl⟩
      have hb_zb : v1.heap.size ≤ zb := by omega
      rw [← hzb] at hb
      try simp only [← hzb]
      generalize v1.alloc (.cells #[.int .u8 0, .int .u16 0, .bool false, .bool false, .int .i64 0, .int .u8 0, .int .u8 0, .int .u32 0, .int .u32 0, .slice none 0 0] 51) = v2 at hx hb ⊢
      clear hzb
      have HX_v2 := Lib.hid hx
      clear hx
      have B_zb := Lib.hid hb
      clear hb
      have czb0 := row_cell (k := 0) (v := .int .u8 0) B_zb.out rfl
      have czb1 := row_cell (k := 1) (v := .int .u16 0) B_zb.out rfl
      have czb2 := row_cell (k := 2) (v := .bool false) B_zb.out rfl
      have czb3 := row_cell (k := 3) (v := .bool false) B_zb.out rfl
      have czb4 := row_cell (k := 4) (v := .int .i64 0) B_zb.out rfl
      have czb5 := row_cell (k := 5) (v := .int .u8 0) B_zb.out rfl
      have czb6 := row_cell (k := 6) (v := .int .u8 0) B_zb.out rfl
      have czb7 := row_cell (k := 7) (v := .int .u32 0) B_zb.out rfl
      have czb8 := row_cell (k := 8) (v := .int .u32 0) B_zb.out rfl
      have czb9 := row_cell (k := 9) (v := .slice none 0 0) B_zb.out rfl
      go_wp2_with fail
      refine (same_any (fun _ => True) (fun _ => True) zpk zpk none none 0 0 v2 zpk_ok zpk_ok (RB.nil _ _) (RB.nil _ _)).mono ?_
      rintro e v3 ⟨rfl, hx⟩
      rw [Pk.eqB_self]
      have HX_v3 := Lib.hid hx
      clear hx
      go_wp2_with fail
      go_ret
      exact ⟨rfl, ((((((((HX_w1.out.trans HX_w2.out).trans HX_w3.out).andThen HX_w4.out (fun i hi e => by have := hb_bp; omega)).trans HX_w5.out).trans HX_w6.out).trans HX_v1.out).trans HX_v2.out).trans HX_v3.out)⟩
    | none =>
      have hal := alike_law hpe
      obtain ⟨hpl1, hpok, hpr, _, _, hpl2, _⟩ := ppk_good hpe
      obtain ⟨P7, hP7⟩ : ∃ P, ppk s1 = P := ⟨_, rfl⟩
      rw [hP7] at hal hpok hpr hpl2
      have HPE := Lib.hid hpe
      have HP7 := Lib.hid hP7
      have HAL := Lib.hid hal
      have HPOK := Lib.hid hpok
      have HPR := Lib.hid hpr
      clear hpe hP7 hal hpok hpr
      go_wp2_with fail
      refine (ipparse_yes _ D s1.length cd s1 w6 HSB.out HZ.out (by omega) P7 HPE.out HP7.out).mono ?_
      rintro e v1 ⟨A7, g7, o7, rfl, hg7, hb7, _, hx⟩
      clear hm
      obtain ⟨qtos, qid, qdf, qmf, qoff, qttl, qpr, qsrc, qdst, qb⟩ := P7
      have hv : pkv (⟨qtos, qid, qdf, qmf, qoff, qttl, qpr, qsrc, qdst, qb⟩ : Pk) (.slice A7 (⟨qtos, qid, qdf, qmf, qoff, qttl, qpr, qsrc, qdst, qb⟩ : Pk).b.length (⟨qtos, qid, qdf, qmf, qoff, qttl, qpr, qsrc, qdst, qb⟩ : Pk).b.length) = .agg #[.int .u8 qtos, .int .u16 qid, .bool qdf, .bool qmf, .int .i64 qoff, .int .u8 qttl, .int .u8 qpr, .int .u32 qsrc, .int .u32 qdst, .slice A7 qb.length qb.length] := rfl
      rw [hv]
      have hb7' : RB v1 (fun j => j = g7) (.slice A7 qb.length qb.length) qb := hb7
      have hpl2' : 20 + qb.length ≤ s1.length := hpl2
      clear hv hb7 hpl2
      have HX_v1 := Lib.hid hx
      clear hx
      have HB7 := Lib.hid hb7'
      clear hb7'
      go_upto_region 12 with fail
      have hx : Ex (fun _ => False) v1 (v1.alloc (.cells #[.int .u8 qtos, .int .u16 qid, .bool qdf, .bool qmf, .int .i64 qoff, .int .u8 qttl, .int .u8 qpr, .int .u32 qsrc, .int .u32 qdst, .slice A7 qb.length qb.length] 51)) := (Ex.refl _ v1).alloc _
      have hb : (v1.alloc (.cells #[.int .u8 qtos, .int .u16 qid, .bool qdf, .bool qmf, .int .i64 qoff, .int .u8 qttl, .int .u8 qpr, .int .u32 qsrc, .int .u32 qdst, .slice A7 qb.length qb.length] 51)).heap[v1.heap.size]? = some (.cells #[.int .u8 qtos, .int .u16 qid, .bool qdf, .bool qmf, .int .i64 qoff, .int .u8 qttl, .int .u8 qpr, .int .u32 qsrc, .int .u32 qdst, .slice A7 qb.length qb.length] 51) := heap_alloc_new v1 _
      obtain ⟨zb, hzb⟩ : ∃ zb, zb = v1.heap.size := ⟨_, rfl⟩
      have hb_zb : v1.heap.size ≤ zb := by omega
      rw [← hzb] at hb
      try simp only [← hzb]
      generalize v1.alloc (.cells #[.int .u8 qtos, .int .u16 qid, .bool qdf, .bool qmf, .int .i64 qoff, .int .u8 qttl, .int .u8 qpr, .int .u32 qsrc, .int .u32 qdst, .slice A7 qb.length qb.length] 51) = v2 at hx hb ⊢
      clear hzb
      have HX_v2 := Lib.hid hx
      clear hx
      have B_zb := Lib.hid hb
      clear hb
      have czb0 := row_cell (k := 0) (v := .int .u8 qtos) B_zb.out rfl
      have czb1 := row_cell (k := 1) (v := .int .u16 qid) B_zb.out rfl
      have czb2 := row_cell (k := 2) (v := .bool qdf) B_zb.out rfl
      have czb3 := row_cell (k := 3) (v := .bool qmf) B_zb.out rfl
      have czb4 := row_cell (k := 4) (v := .int .i64 qoff) B_zb.out rfl
      have czb5 := row_cell (k := 5) (v := .int .u8 qttl) B_zb.out rfl
      have czb6 := row_cell (k := 6) (v := .int .u8 qpr) B_zb.out rfl
      have czb7 := row_cell (k := 7) (v := .int .u32 qsrc) B_zb.out rfl
      have czb8 := row_cell (k := 8) (v := .int .u32 qdst) B_zb.out rfl
      have czb9 := row_cell (k := 9) (v := .slice A7 qb.length qb.length) B_zb.out rfl
      have hqb := (RB.keep HB7.out HX_v2.out (fun _ _ _ => id))
      have HQB := Lib.hid hqb
      clear hqb
      go_wp2_with fail
      refine (pbytes_yes _ (⟨qtos, qid, qdf, qmf, qoff, qttl, qpr, qsrc, qdst, qb⟩ : Pk) A7 qb.length v2 HPOK.out HQB.out (by show qb.length ≤ _; omega) HPR.out).mono ?_
      rintro e v3 ⟨g8, c8, rfl, ho8, hg8, _, hx⟩
      have hl8 : (pb (⟨qtos, qid, qdf, qmf, qoff, qttl, qpr, qsrc, qdst, qb⟩ : Pk)).length = 20 + qb.length := pb_len _
      obtain ⟨M, hM⟩ : ∃ M, pb (⟨qtos, qid, qdf, qmf, qoff, qttl, qpr, qsrc, qdst, qb⟩ : Pk) = M := ⟨_, rfl⟩
      have hal := HAL.out
      rw [hM] at ho8 hal hl8 ⊢
      have HAL2 := Lib.hid hal
      have hle8 : (M.length : Int) ≤ (s1.length : Int) := by omega
      clear hal HAL hM czb0 czb1 czb2 czb3 czb4 czb5 czb6 czb7 czb8 czb9
      have HX_v3 := Lib.hid hx
      clear hx
      have HO8 := Lib.hid ho8
      clear ho8
      replace HSB := Lib.hid (RB.keep HSB.out ((HX_v1.out.trans HX_v2.out).trans HX_v3.out) (fun _ _ _ => id))
      have HL8 := Lib.hid hl8
      clear hl8
      obtain ⟨ha1, ha2, ha3⟩ := HAL2.out
      clear HAL2
      rcases ha3 with ha3 | ⟨ha3, ha4, ha5, ha6, ha7⟩
      ·
        have HA3 := Lib.hid ha3
        clear ha3
        go_wp2_with fail
        refine (alike_same _ _ (some ⟨g8, 0, none⟩) D M.length c8 s1.length cd M s1 v3 HO8.out.rb HSB.out (by omega) ha1 HA3.out).mono ?_
        rintro e v4 ⟨rfl, hx⟩
        have HX_v4 := Lib.hid hx
        clear hx
        go_wp2_with fail
        go_ret
        exact ⟨rfl, (((((((((HX_w1.out.trans HX_w2.out).trans HX_w3.out).andThen HX_w4.out (fun i hi e => by have := hb_bp; omega)).trans HX_w5.out).trans HX_w6.out).trans HX_v1.out).trans HX_v2.out).trans HX_v3.out).trans HX_v4.out)⟩
      ·
        have HA3 := Lib.hid ha3
        have HA4 := Lib.hid (ha4 (by omega))
        have HA5 := Lib.hid (ha5 (by omega))
        have HA6 := Lib.hid (ha6 (by omega))
        have HA7 := Lib.hid (ha7 (by omega))
        clear ha3 ha4 ha5 ha6 ha7
        go_wp2_with fail
        refine (alike_sum _ _ (some ⟨g8, 0, none⟩) D M.length c8 s1.length cd M s1 v3 HO8.out.rb HSB.out (by omega) ha1 ha2 HA3.out HA4.out HA5.out HA6.out HA7.out).mono ?_
        rintro e v4 ⟨rfl, hx⟩
        have HX_v4 := Lib.hid hx
        clear hx
        go_wp2_with fail
        go_ret
        exact ⟨rfl, (((((((((HX_w1.out.trans HX_w2.out).trans HX_w3.out).andThen HX_w4.out (fun i hi e => by have := hb_bp; omega)).trans HX_w5.out).trans HX_w6.out).trans HX_v1.out).trans HX_v2.out).trans HX_v3.out).trans HX_v4.out)⟩
  have HRT := Lib.hid hrt
  clear hrt
  have cbp0 := row_cell (k := 0) (v := .int .u8 xtos) B_bp.out rfl
  have cbp1 := row_cell (k := 1) (v := .int .u16 xid) B_bp.out rfl
  have cbp2 := row_cell (k := 2) (v := .bool xdf) B_bp.out rfl
  have cbp3 := row_cell (k := 3) (v := .bool xmf) B_bp.out rfl
  have cbp4 := row_cell (k := 4) (v := .int .i64 xoff) B_bp.out rfl
  have cbp5 := row_cell (k := 5) (v := .int .u8 xttl) B_bp.out rfl
  have cbp6 := row_cell (k := 6) (v := .int .u8 xpr) B_bp.out rfl
  have cbp7 := row_cell (k := 7) (v := .int .u32 xsrc) B_bp.out rfl
  have cbp8 := row_cell (k := 8) (v := .int .u32 xdst) B_bp.out rfl
  have cbp9 := row_cell (k := 9) (v := .slice (some xA) xl.length xc) B_bp.out rfl
  have okl : (⟨xtos, xid, xdf, xmf, xoff, xttl, xpr, xsrc, xdst, xl⟩ : Pk).ok := OKP.out
  go_wp2_with fail
  refine (pbytes_yes _ (⟨xtos, xid, xdf, xmf, xoff, xttl, xpr, xsrc, xdst, xl⟩ : Pk) (some xA) xc w4 okl (OB.keepB HO_x.out HX_w4.out (by omega)).rb (by show xl.length ≤ _; omega) HRT.out).mono ?_
  rintro e w5 ⟨g5, c5, rfl, ho5, hb_g5, hg5, hx⟩
  have hl5 : (pb (⟨xtos, xid, xdf, xmf, xoff, xttl, xpr, xsrc, xdst, xl⟩ : Pk)).length = 20 + xl.length := pb_len _
  have hpb := fun m => pb_back (p := (⟨xtos, xid, xdf, xmf, xoff, xttl, xpr, xsrc, xdst, xl⟩ : Pk)) OKP.out HRT.out m
  obtain ⟨M5, hM5⟩ : ∃ M, pb (⟨xtos, xid, xdf, xmf, xoff, xttl, xpr, xsrc, xdst, xl⟩ : Pk) = M := ⟨_, rfl⟩
  rw [hM5] at ho5 hl5 ⊢
  rw [hM5] at hpb
  have HPB := Lib.hid hpb
  have hm5 : M5.length ≤ 3020 := by omega
  have HL5 := Lib.hid hl5
  clear okl hpb hM5 hl5 cbp0 cbp1 cbp2 cbp3 cbp4 cbp5 cbp6 cbp7 cbp8 cbp9
  have HX_w5 := Lib.hid hx
  clear hx
  have HO5 := Lib.hid ho5
  clear ho5
  replace B_bp := Lib.hid ((HX_w5.out.block bp (row_lt B_bp.out) id).trans B_bp.out)
  have cbp0 := row_cell (k := 0) (v := .int .u8 xtos) B_bp.out rfl
  have cbp1 := row_cell (k := 1) (v := .int .u16 xid) B_bp.out rfl
  have cbp2 := row_cell (k := 2) (v := .bool xdf) B_bp.out rfl
  have cbp3 := row_cell (k := 3) (v := .bool xmf) B_bp.out rfl
  have cbp4 := row_cell (k := 4) (v := .int .i64 xoff) B_bp.out rfl
  have cbp5 := row_cell (k := 5) (v := .int .u8 xttl) B_bp.out rfl
  have cbp6 := row_cell (k := 6) (v := .int .u8 xpr) B_bp.out rfl
  have cbp7 := row_cell (k := 7) (v := .int .u32 xsrc) B_bp.out rfl
  have cbp8 := row_cell (k := 8) (v := .int .u32 xdst) B_bp.out rfl
  have cbp9 := row_cell (k := 9) (v := .slice (some xA) xl.length xc) B_bp.out rfl
  go_upto_region 4 with fail
  have hS0 : Ex (fun _ => False) w5 w5.drew := (Ex.refl _ w5).drew
  refine wp_region_held_drew (S := fun W => Ex (fun _ => False) w5 W) (by kernel_rfl) hS0 (fun _ => ?_)
  refine wpAnyH_take (i := 0) (oi := { dst := some 22, op := Go.Op.move (Go.Operand.tmp 9), type := 29, pos := "law.go:71", after := #[], guard := none }) (v := ?v6) rfl (by kernel_rfl) (by kernel_rfl) (by kernel_rfl) (fun _ _ _ h => h) (Or.inl ⟨by rfl, ?hy6⟩) (by assumption) ?rest6
  case hy6 => (intro w hSw; (try dsimp only at hSw); have ecbp0 := hSw.cell cbp0 id; have ecbp1 := hSw.cell cbp1 id; have ecbp2 := hSw.cell cbp2 id; have ecbp3 := hSw.cell cbp3 id; have ecbp4 := hSw.cell cbp4 id; have ecbp5 := hSw.cell cbp5 id; have ecbp6 := hSw.cell cbp6 id; have ecbp7 := hSw.cell cbp7 id; have ecbp8 := hSw.cell cbp8 id; have ecbp9 := hSw.cell cbp9 id; go_simp <;> with_reducible rfl)
  try simp only [Act.put, List.setIfInBounds_toArray, List.set_cons_zero, List.set_cons_succ]
  refine wpAnyH_take (i := 1) (oi := { dst := some 23, op := Go.Op.binOp Go.BinOp.eql 29 (Go.Operand.tmp 22) (Go.Operand.const Go.Value.nilIface) 29, type := 4, pos := "law.go:71", after := #[{ on := 0, ground := Go.Ground.data }], guard := none }) (v := ?v7) rfl (by kernel_rfl) (by kernel_rfl) (by kernel_rfl) (fun _ _ _ h => h) (Or.inl ⟨by rfl, ?hy7⟩) (by assumption) ?rest7
  case hy7 => (intro w hSw; (try dsimp only at hSw); have ecbp0 := hSw.cell cbp0 id; have ecbp1 := hSw.cell cbp1 id; have ecbp2 := hSw.cell cbp2 id; have ecbp3 := hSw.cell cbp3 id; have ecbp4 := hSw.cell cbp4 id; have ecbp5 := hSw.cell cbp5 id; have ecbp6 := hSw.cell cbp6 id; have ecbp7 := hSw.cell cbp7 id; have ecbp8 := hSw.cell cbp8 id; have ecbp9 := hSw.cell cbp9 id; go_simp <;> with_reducible rfl)
  try simp only [Act.put, List.setIfInBounds_toArray, List.set_cons_zero, List.set_cons_succ]
  refine wpAnyH_take (i := 2) (oi := { dst := some 24, op := Go.Op.load 51 (Go.Operand.tmp 3), type := 51, pos := "law.go:71", after := #[], guard := none }) (v := ?v8) rfl (by kernel_rfl) (by kernel_rfl) (by kernel_rfl) (fun _ _ _ h => h) (Or.inl ⟨by rfl, ?hy8⟩) (by assumption) ?rest8
  case hy8 => (intro w hSw; (try dsimp only at hSw); have ecbp0 := hSw.cell cbp0 id; have ecbp1 := hSw.cell cbp1 id; have ecbp2 := hSw.cell cbp2 id; have ecbp3 := hSw.cell cbp3 id; have ecbp4 := hSw.cell cbp4 id; have ecbp5 := hSw.cell cbp5 id; have ecbp6 := hSw.cell cbp6 id; have ecbp7 := hSw.cell cbp7 id; have ecbp8 := hSw.cell cbp8 id; have ecbp9 := hSw.cell cbp9 id; go_simp <;> with_reducible rfl)
  try simp only [Act.put, List.setIfInBounds_toArray, List.set_cons_zero, List.set_cons_succ]
  refine wpAnyH_ready (rs := [3]) (by kernel_rfl) (by simp) ?_
  refine AllReadyH.cons (o := { dst := some 25, op := Go.Op.call { callee := Go.Callee.value (Go.Operand.func 31), args := #[Go.Operand.tmp 24], argTypes := #[51] }, type := 29, pos := "law.go:71", after := #[{ on := 2, ground := Go.Ground.data }], guard := none }) rfl (fun K hK => ?_) AllReadyH.nil
  go_simp
  refine (right_yes (⟨xtos, xid, xdf, xmf, xoff, xttl, xpr, xsrc, xdst, xl⟩ : Pk) (some xA) xc _ (by show xl.length ≤ _; omega) HRT.out).mono ?_
  rintro e w6 ⟨rfl, hx⟩
  have hS1 := hS0.trans hx
  clear hx
  refine hK.out _ _ hS1 (fun _ => ?_)
  refine wpAnyH_take (i := 4) (oi := { dst := some 26, op := Go.Op.binOp Go.BinOp.eql 29 (Go.Operand.tmp 25) (Go.Operand.const Go.Value.nilIface) 29, type := 4, pos := "law.go:71", after := #[{ on := 3, ground := Go.Ground.data }], guard := none }) (v := ?v9) rfl (by kernel_rfl) (by kernel_rfl) (by kernel_rfl) (fun _ _ _ h => h) (Or.inl ⟨by rfl, ?hy9⟩) (by assumption) ?rest9
  case hy9 => (intro w hSw; (try dsimp only at hSw); have ecbp0 := hSw.cell cbp0 id; have ecbp1 := hSw.cell cbp1 id; have ecbp2 := hSw.cell cbp2 id; have ecbp3 := hSw.cell cbp3 id; have ecbp4 := hSw.cell cbp4 id; have ecbp5 := hSw.cell cbp5 id; have ecbp6 := hSw.cell cbp6 id; have ecbp7 := hSw.cell cbp7 id; have ecbp8 := hSw.cell cbp8 id; have ecbp9 := hSw.cell cbp9 id; go_simp <;> with_reducible rfl)
  try simp only [Act.put, List.setIfInBounds_toArray, List.set_cons_zero, List.set_cons_succ]
  refine wpAnyH_take (i := 5) (oi := { dst := some 27, op := Go.Op.binOp Go.BinOp.neq 4 (Go.Operand.tmp 23) (Go.Operand.tmp 26) 4, type := 4, pos := "law.go:71", after := #[{ on := 1, ground := Go.Ground.data }, { on := 4, ground := Go.Ground.data }], guard := none }) (v := ?v10) rfl (by kernel_rfl) (by kernel_rfl) (by kernel_rfl) (fun _ _ _ h => h) (Or.inl ⟨by rfl, ?hy10⟩) (by assumption) ?rest10
  case hy10 => (intro w hSw; (try dsimp only at hSw); have ecbp0 := hSw.cell cbp0 id; have ecbp1 := hSw.cell cbp1 id; have ecbp2 := hSw.cell cbp2 id; have ecbp3 := hSw.cell cbp3 id; have ecbp4 := hSw.cell cbp4 id; have ecbp5 := hSw.cell cbp5 id; have ecbp6 := hSw.cell cbp6 id; have ecbp7 := hSw.cell cbp7 id; have ecbp8 := hSw.cell cbp8 id; have ecbp9 := hSw.cell cbp9 id; go_simp <;> with_reducible rfl)
  try simp only [Act.put, List.setIfInBounds_toArray, List.set_cons_zero, List.set_cons_succ]
  refine wpAnyH_done (by kernel_rfl) ?_ _
  have hx := hS1
  clear hS0 hS1 cbp0 cbp1 cbp2 cbp3 cbp4 cbp5 cbp6 cbp7 cbp8 cbp9
  have HX_w6 := Lib.hid hx
  clear hx
  replace HO5 := Lib.hid (OB.keep HO5.out HX_w6.out (fun _ _ _ _ => id))
  replace HR := Lib.hid (RB.keep HR.out (((((HX_w1.out.trans HX_w2.out).trans HX_w3.out).andThen HX_w4.out (fun i hi e => by have := hb_bp; omega)).trans HX_w5.out).trans HX_w6.out) (fun _ _ _ => id))
  go_upto_region 7 with fail
  have hk := HK.out
  have HPA := Lib.hid (HPB.out r1)
  clear HPB
  have hm20 : 20 ≤ M5.length := by have := HL5.out; omega
  go_cut [10, 11] (fun x f wx => ∃ (xb : Nat) (A9 : Option Addr), x = .pointer (some ⟨xb, 0, none⟩) ∧ f = .nilIface ∧ Hid (wx.heap[xb]? = some (.cells #[.int .u8 xtos, .int .u16 xid, .bool xdf, .bool xmf, .int .i64 xoff, .int .u8 xttl, .int .u8 xpr, .int .u32 xsrc, .int .u32 xdst, .slice A9 xl.length xl.length] 51)) ∧ Hid (RB wx (fun _ => True) (.slice A9 xl.length xl.length) xl) ∧ Hid (Ex (fun _ => False) w6 wx))
  case first =>
    have hS0 : Ex (fun _ => False) w6 w6.drew := (Ex.refl _ w6).drew
    refine wp_region_held_drew (S := fun W => Ex (fun _ => False) w6 W) (by kernel_rfl) hS0 (fun _ => ?_)
    generalize w6.drew = wd at hS0 ⊢
    have HX_wd := Lib.hid hS0
    refine wpAnyH_take (i := 1) (oi := { dst := some 32, op := Go.Op.move (Go.Operand.tmp 8), type := 22, pos := "law.go:75", after := #[], guard := none }) (v := ?v11) rfl (by kernel_rfl) (by kernel_rfl) (by kernel_rfl) (fun _ _ _ h => h) (Or.inl ⟨by rfl, ?hy11⟩) (by assumption) ?rest11
    case hy11 => (intro w hSw; (try dsimp only at hSw); go_simp <;> with_reducible rfl)
    try simp only [Act.put, List.setIfInBounds_toArray, List.set_cons_zero, List.set_cons_succ]
    refine wpAnyH_take (i := 3) (oi := { dst := some 34, op := Go.Op.move (Go.Operand.tmp 1), type := 22, pos := "law.go:75", after := #[], guard := none }) (v := ?v12) rfl (by kernel_rfl) (by kernel_rfl) (by kernel_rfl) (fun _ _ _ h => h) (Or.inl ⟨by rfl, ?hy12⟩) (by assumption) ?rest12
    case hy12 => (intro w hSw; (try dsimp only at hSw); go_simp <;> with_reducible rfl)
    try simp only [Act.put, List.setIfInBounds_toArray, List.set_cons_zero, List.set_cons_succ]
    refine wpAnyH_take (i := 4) (oi := { dst := some 35, op := Go.Op.move (Go.Operand.tmp 1), type := 22, pos := "law.go:75", after := #[], guard := none }) (v := ?v13) rfl (by kernel_rfl) (by kernel_rfl) (by kernel_rfl) (fun _ _ _ h => h) (Or.inl ⟨by rfl, ?hy13⟩) (by assumption) ?rest13
    case hy13 => (intro w hSw; (try dsimp only at hSw); go_simp <;> with_reducible rfl)
    try simp only [Act.put, List.setIfInBounds_toArray, List.set_cons_zero, List.set_cons_succ]
    refine wpAnyH_take (i := 5) (oi := { dst := some 36, op := Go.Op.call { callee := Go.Callee.builtin Go.Builtin.len, args := #[Go.Operand.tmp 35], argTypes := #[22] }, type := 3, pos := "law.go:75", after := #[{ on := 4, ground := Go.Ground.data }], guard := none }) (v := ?v14) rfl (by kernel_rfl) (by kernel_rfl) (by kernel_rfl) (fun _ _ _ h => h) (Or.inl ⟨by rfl, ?hy14⟩) (by assumption) ?rest14
    case hy14 => (intro w hSw; (try dsimp only at hSw); go_simp <;> with_reducible rfl)
    try simp only [Act.put, List.setIfInBounds_toArray, List.set_cons_zero, List.set_cons_succ]
    refine wpAnyH_take (i := 6) (oi := { dst := some 37, op := Go.Op.call { callee := Go.Callee.builtin Go.Builtin.min, args := #[Go.Operand.tmp 36, Go.Operand.const (Go.Value.int Go.IntKind.i64 50)], argTypes := #[3, 3] }, type := 3, pos := "law.go:75", after := #[{ on := 5, ground := Go.Ground.data }], guard := none }) (v := ?v15) rfl (by kernel_rfl) (by kernel_rfl) (by kernel_rfl) (fun _ _ _ h => h) (Or.inl ⟨by rfl, ?hy15⟩) (by assumption) ?rest15
    case hy15 => (intro w hSw; (try dsimp only at hSw); go_simp <;> with_reducible rfl)
    try simp only [Act.put, List.setIfInBounds_toArray, List.set_cons_zero, List.set_cons_succ]
    refine wpAnyH_take (i := 7) (oi := { dst := some 38, op := Go.Op.slice 22 (Go.Operand.tmp 34) none (some (Go.Operand.tmp 37)) none, type := 22, pos := "law.go:75", after := #[{ on := 3, ground := Go.Ground.data }, { on := 6, ground := Go.Ground.data }], guard := none }) (v := ?v16) rfl (by kernel_rfl) (by kernel_rfl) (by kernel_rfl) (fun _ _ _ h => h) (Or.inl ⟨by rfl, ?hy16⟩) (by assumption) ?rest16
    case hy16 => (intro w hSw; (try dsimp only at hSw); go_simp <;> with_reducible rfl)
    try simp only [Act.put, List.setIfInBounds_toArray, List.set_cons_zero, List.set_cons_succ]
    refine wpAnyH_ready (rs := [0, 13]) (by kernel_rfl) (by simp) ?_
    refine AllReadyH.cons (o := { dst := some 31, op := Go.Op.buildSlice 22 0 #[], type := 22, pos := "law.go:75", after := #[], guard := none }) rfl (fun K hK => ?_) ?_
    ·
      go_simp
      have hx : Ex (fun _ => False) wd (wd.alloc (.cells #[] 5)) := (Ex.refl _ wd).alloc _
      have hsz := HX_wd.out.size
      have hob : OB (wd.alloc (.cells #[] 5)) w6.heap.size (.slice (some ⟨wd.heap.size, 0, none⟩) 0 0) [] := OB.lit wd w6.heap.size [] hsz (by simp)
      have hlt_b0 : wd.heap.size < (wd.alloc (.cells #[] 5)).heap.size := by simp
      obtain ⟨b0, hb0⟩ : ∃ b, b = wd.heap.size := ⟨_, rfl⟩
      have hb_b0 : wd.heap.size ≤ b0 := by omega
      rw [← hb0] at hob hlt_b0
      try simp only [← hb0]
      generalize wd.alloc (.cells #[] 5) = wa at hx hob hlt_b0 ⊢
      clear hb0
      have HX_wa := Lib.hid hx
      clear hx
      have HOa := Lib.hid hob
      clear hob hsz
      have hS : Ex (fun _ => False) w6 wa := (HX_wd.out.trans HX_wa.out)
      refine hK.out _ _ hS (fun _ => ?_)
      refine wpAnyH_ready (rs := [2, 13]) (by kernel_rfl) (by simp) ?_
      refine AllReadyH.cons (o := { dst := some 33, op := Go.Op.call { callee := Go.Callee.builtin Go.Builtin.append, args := #[Go.Operand.tmp 31, Go.Operand.tmp 32], argTypes := #[22, 22] }, type := 22, pos := "law.go:75", after := #[{ on := 0, ground := Go.Ground.data }, { on := 1, ground := Go.Ground.data }], guard := none }) rfl (fun K hK => ?_) ?_
      ·
        have hsz := (HX_wd.out.trans HX_wa.out).size
        refine step_append_ob i0 22 Tryd.underlying22 hi hz0 hz1 hz2 rfl (.tmp 31) (.tmp 32) rfl w6.heap.size (.slice (some ⟨b0, 0, none⟩) 0 0) [] rfl (fun _ => True) (.slice (some ⟨g5, 0, none⟩) M5.length c5) M5 rfl HOa.out (RB.any (OB.keep HO5.out (HX_wd.out.trans HX_wa.out) (fun _ _ _ _ => id)).rb) (by simp; omega) hsz ?_
        intro A2 c2 wb ho3 hg3 hn3 hb3
        try simp only [Act.put, List.setIfInBounds_toArray, List.set_cons_zero, List.set_cons_succ]
        have hs2 : ∃ a, A2 = some a := by
          cases A2 with
          | none => exact absurd (hn3.1 rfl).1 (by simp)
          | some a => exact ⟨a, rfl⟩
        obtain ⟨A2, rfl⟩ := hs2
        have ho : OB wb w6.heap.size (.slice (some A2) M5.length c2) M5 := by simpa using ho3
        try simp only [List.length_nil, Nat.zero_add]
        obtain ⟨g2, rfl, hb_g2, hlt_g2⟩ := ho.plain
        have hx : Ex (fun j => j = b0) wa wb := (Ex.refl _ wa).grown hg3 (fun k hk => .inl (by obtain rfl := Option.some.inj hk; rfl))
        have hg2 : g2 = b0 ∨ g2 = wa.heap.size := by
          rcases hb3 with h | h
          · exact .inl (Option.some.inj h)
          · exact .inr (Option.some.inj h)
        clear ho3 hg3 hn3 hb3
        have HX_wb := Lib.hid hx
        clear hx
        have HOb := Lib.hid ho
        clear ho hsz hg2
        have hS : Ex (fun _ => False) w6 wb := ((HX_wd.out.trans HX_wa.out).andThen HX_wb.out (fun i hi e => by have := HX_wd.out.size; have := hb_b0; omega))
        refine hK.out _ _ hS (fun _ => ?_)
        refine wpAnyH_ready (rs := [8, 13]) (by kernel_rfl) (by simp) ?_
        refine AllReadyH.cons (o := { dst := some 39, op := Go.Op.call { callee := Go.Callee.builtin Go.Builtin.append, args := #[Go.Operand.tmp 33, Go.Operand.tmp 38], argTypes := #[22, 22] }, type := 22, pos := "law.go:75", after := #[{ on := 2, ground := Go.Ground.data }, { on := 7, ground := Go.Ground.data }, { on := 2, ground := Go.Ground.chain }], guard := none }) rfl (fun K hK => ?_) ?_
        ·
          have hsz := ((HX_wd.out.trans HX_wa.out).andThen HX_wb.out (fun i hi e => by have := HX_wd.out.size; have := hb_b0; omega)).size
          refine step_append_ob i0 22 Tryd.underlying22 hi hz0 hz1 hz2 rfl (.tmp 33) (.tmp 38) rfl w6.heap.size (.slice (some ⟨g2, 0, none⟩) M5.length c2) M5 rfl (fun _ => True) (.slice B r1.length cb) r1 rfl HOb.out (RB.keep HR.out ((HX_wd.out.trans HX_wa.out).andThen HX_wb.out (fun i hi e => by have := HX_wd.out.size; have := hb_b0; omega)) (fun _ _ _ => id)) (by omega) hsz ?_
          intro A3 c3 wc ho3 hg3 hn3 hb3
          try simp only [Act.put, List.setIfInBounds_toArray, List.set_cons_zero, List.set_cons_succ]
          have hs2 : ∃ a, A3 = some a := by
            cases A3 with
            | none => exact absurd (hn3.1 rfl).1 (by simp)
            | some a => exact ⟨a, rfl⟩
          obtain ⟨A3, rfl⟩ := hs2
          have hx : Ex (fun j => j = g2) wb wc := (Ex.refl _ wb).grown hg3 (fun k hk => .inl (by obtain rfl := Option.some.inj hk; rfl))
          have HOc : Hid (OB wc w6.heap.size (.slice (some A3) (M5.length + r1.length) c3) (M5 ++ r1)) := Lib.hid ho3
          clear ho3 hg3 hn3 hb3
          have HX_wc := Lib.hid hx
          clear hx
          clear hsz
          have hS : Ex (fun _ => False) w6 wc := (((HX_wd.out.trans HX_wa.out).andThen HX_wb.out (fun i hi e => by have := HX_wd.out.size; have := hb_b0; omega)).andThen HX_wc.out (fun i hi e => by have := hb_g2; omega))
          refine hK.out _ _ hS (fun _ => ?_)
          refine wpAnyH_ready (rs := [9, 13]) (by kernel_rfl) (by simp) ?_
          refine AllReadyH.cons (o := { dst := some 40, op := Go.Op.call { callee := Go.Callee.value (Go.Operand.func 24), args := #[Go.Operand.tmp 39], argTypes := #[22] }, type := 52, pos := "law.go:75", after := #[{ on := 8, ground := Go.Ground.data }, { on := 8, ground := Go.Ground.chain }], guard := none }) rfl (fun K hK => ?_) ?_
          ·
            go_simp
            refine (ipparse_yes _ (some A3) (M5.length + r1.length) c3 (M5 ++ r1) wc HOc.out.rb (fun h => by cases h) (by rw [List.length_append]; omega) (⟨xtos, xid, xdf, xmf, xoff, xttl, xpr, xsrc, xdst, xl⟩ : Pk) HPA.out.1 HPA.out.2).mono ?_
            rintro e wp ⟨A9, g9, o9, rfl, hg9, hb9, _, hx⟩
            have hv : pkv (⟨xtos, xid, xdf, xmf, xoff, xttl, xpr, xsrc, xdst, xl⟩ : Pk) (.slice A9 (⟨xtos, xid, xdf, xmf, xoff, xttl, xpr, xsrc, xdst, xl⟩ : Pk).b.length (⟨xtos, xid, xdf, xmf, xoff, xttl, xpr, xsrc, xdst, xl⟩ : Pk).b.length) = .agg #[.int .u8 xtos, .int .u16 xid, .bool xdf, .bool xmf, .int .i64 xoff, .int .u8 xttl, .int .u8 xpr, .int .u32 xsrc, .int .u32 xdst, .slice A9 xl.length xl.length] := rfl
            rw [hv]
            clear hv
            have hb9' : RB wp (fun j => j = g9) (.slice A9 xl.length xl.length) xl := hb9
            clear hb9
            have HX_wp := Lib.hid hx
            clear hx
            have HB9 := Lib.hid hb9'
            clear hb9'
            have hS : Ex (fun _ => False) w6 wp := ((((HX_wd.out.trans HX_wa.out).andThen HX_wb.out (fun i hi e => by have := HX_wd.out.size; have := hb_b0; omega)).andThen HX_wc.out (fun i hi e => by have := hb_g2; omega)).trans HX_wp.out)
            refine hK.out _ _ hS (fun _ => ?_)
            refine wpAnyH_take (i := 10) (oi := { dst := some 30, op := Go.Op.move (Go.Operand.tmp 40), type := 52, pos := "law.go:75", after := #[{ on := 9, ground := Go.Ground.data }], guard := none }) (v := ?v17) rfl (by kernel_rfl) (by kernel_rfl) (by kernel_rfl) (fun _ _ _ h => h) (Or.inl ⟨by rfl, ?hy17⟩) (by assumption) ?rest17
            case hy17 => (intro w hSw; (try dsimp only at hSw); go_simp <;> with_reducible rfl)
            try simp only [Act.put, List.setIfInBounds_toArray, List.set_cons_zero, List.set_cons_succ]
            refine wpAnyH_take (i := 11) (oi := { dst := some 41, op := Go.Op.extract (Go.Operand.tmp 30) 0, type := 51, pos := "law.go:75", after := #[{ on := 10, ground := Go.Ground.data }], guard := none }) (v := ?v18) rfl (by kernel_rfl) (by kernel_rfl) (by kernel_rfl) (fun _ _ _ h => h) (Or.inl ⟨by rfl, ?hy18⟩) (by assumption) ?rest18
            case hy18 => (intro w hSw; (try dsimp only at hSw); go_simp <;> with_reducible rfl)
            try simp only [Act.put, List.setIfInBounds_toArray, List.set_cons_zero, List.set_cons_succ]
            refine wpAnyH_take (i := 12) (oi := { dst := some 42, op := Go.Op.extract (Go.Operand.tmp 30) 1, type := 29, pos := "law.go:75", after := #[{ on := 10, ground := Go.Ground.data }, { on := 14, ground := Go.Ground.gcOnly Go.Departure.lateStores }], guard := none }) (v := ?v19) rfl (by kernel_rfl) (by kernel_rfl) (by kernel_rfl) (fun _ _ _ h => h) (Or.inl ⟨by rfl, ?hy19⟩) (by assumption) ?rest19
            case hy19 => (intro w hSw; (try dsimp only at hSw); go_simp <;> with_reducible rfl)
            try simp only [Act.put, List.setIfInBounds_toArray, List.set_cons_zero, List.set_cons_succ]
            refine wpAnyH_ready (rs := [13]) (by kernel_rfl) (by simp) ?_
            refine AllReadyH.cons (o := { dst := some 10, op := Go.Op.alloc 51, type := 0, pos := "law.go:75", after := #[], guard := none }) rfl (fun K hK => ?_) AllReadyH.nil
            go_simp
            have hx : Ex (fun _ => False) wp (wp.alloc (.cells #[.int .u8 0, .int .u16 0, .bool false, .bool false, .int .i64 0, .int .u8 0, .int .u8 0, .int .u32 0, .int .u32 0, .slice none 0 0] 51)) := (Ex.refl _ wp).alloc _
            have hb : (wp.alloc (.cells #[.int .u8 0, .int .u16 0, .bool false, .bool false, .int .i64 0, .int .u8 0, .int .u8 0, .int .u32 0, .int .u32 0, .slice none 0 0] 51)).heap[wp.heap.size]? = some (.cells #[.int .u8 0, .int .u16 0, .bool false, .bool false, .int .i64 0, .int .u8 0, .int .u8 0, .int .u32 0, .int .u32 0, .slice none 0 0] 51) := heap_alloc_new wp _
            obtain ⟨xb, hxb⟩ : ∃ xb, xb = wp.heap.size := ⟨_, rfl⟩
            have hb_xb : wp.heap.size ≤ xb := by omega
            rw [← hxb] at hb
            try simp only [← hxb]
            generalize wp.alloc (.cells #[.int .u8 0, .int .u16 0, .bool false, .bool false, .int .i64 0, .int .u8 0, .int .u8 0, .int .u32 0, .int .u32 0, .slice none 0 0] 51) = we at hx hb ⊢
            clear hxb
            have HX_we := Lib.hid hx
            clear hx
            have B_xb := Lib.hid hb
            clear hb
            have hS : Ex (fun _ => False) w6 we := (((((HX_wd.out.trans HX_wa.out).andThen HX_wb.out (fun i hi e => by have := HX_wd.out.size; have := hb_b0; omega)).andThen HX_wc.out (fun i hi e => by have := hb_g2; omega)).trans HX_wp.out).trans HX_we.out)
            refine hK.out _ _ hS (fun _ => ?_)
            refine wpAnyH_ready (rs := [14]) (by kernel_rfl) (by simp) ?_
            refine AllReadyH.cons (o := { dst := none, op := Go.Op.store 51 (Go.Operand.tmp 10) (Go.Operand.tmp 41), type := 0, pos := "law.go:75", after := #[{ on := 13, ground := Go.Ground.data }, { on := 11, ground := Go.Ground.data }, { on := 9, ground := Go.Ground.chain }, { on := 0, ground := Go.Ground.phase }, { on := 1, ground := Go.Ground.phase }, { on := 2, ground := Go.Ground.phase }, { on := 3, ground := Go.Ground.phase }, { on := 4, ground := Go.Ground.phase }, { on := 5, ground := Go.Ground.phase }, { on := 6, ground := Go.Ground.phase }, { on := 7, ground := Go.Ground.phase }, { on := 8, ground := Go.Ground.phase }, { on := 9, ground := Go.Ground.phase }, { on := 10, ground := Go.Ground.phase }, { on := 11, ground := Go.Ground.phase }, { on := 12, ground := Go.Ground.textOnly Go.Departure.lateStores }, { on := 13, ground := Go.Ground.phase }], guard := none }) rfl (fun K hK => ?_) AllReadyH.nil
            have cxb0 := row_cell (k := 0) (v := .int .u8 0) B_xb.out rfl
            have cxb1 := row_cell (k := 1) (v := .int .u16 0) B_xb.out rfl
            have cxb2 := row_cell (k := 2) (v := .bool false) B_xb.out rfl
            have cxb3 := row_cell (k := 3) (v := .bool false) B_xb.out rfl
            have cxb4 := row_cell (k := 4) (v := .int .i64 0) B_xb.out rfl
            have cxb5 := row_cell (k := 5) (v := .int .u8 0) B_xb.out rfl
            have cxb6 := row_cell (k := 6) (v := .int .u8 0) B_xb.out rfl
            have cxb7 := row_cell (k := 7) (v := .int .u32 0) B_xb.out rfl
            have cxb8 := row_cell (k := 8) (v := .int .u32 0) B_xb.out rfl
            have cxb9 := row_cell (k := 9) (v := .slice none 0 0) B_xb.out rfl
            have fxb0 := row_frozen B_xb.out 0
            have fxb1 := row_frozen B_xb.out 1
            have fxb2 := row_frozen B_xb.out 2
            have fxb3 := row_frozen B_xb.out 3
            have fxb4 := row_frozen B_xb.out 4
            have fxb5 := row_frozen B_xb.out 5
            have fxb6 := row_frozen B_xb.out 6
            have fxb7 := row_frozen B_xb.out 7
            have fxb8 := row_frozen B_xb.out 8
            have fxb9 := row_frozen B_xb.out 9
            go_simp
            have r0 : (we.setCell ⟨xb, 0, none⟩ (.int .u8 xtos)).heap[xb]? = some (.cells #[.int .u8 xtos, .int .u16 0, .bool false, .bool false, .int .i64 0, .int .u8 0, .int .u8 0, .int .u32 0, .int .u32 0, .slice none 0 0] 51) := row_set B_xb.out 0 (.int .u8 xtos)
            have r1 : ((we.setCell ⟨xb, 0, none⟩ (.int .u8 xtos)).setCell ⟨xb, 1, none⟩ (.int .u16 xid)).heap[xb]? = some (.cells #[.int .u8 xtos, .int .u16 xid, .bool false, .bool false, .int .i64 0, .int .u8 0, .int .u8 0, .int .u32 0, .int .u32 0, .slice none 0 0] 51) := row_set r0 1 (.int .u16 xid)
            clear r0
            have r2 : (((we.setCell ⟨xb, 0, none⟩ (.int .u8 xtos)).setCell ⟨xb, 1, none⟩ (.int .u16 xid)).setCell ⟨xb, 2, none⟩ (.bool xdf)).heap[xb]? = some (.cells #[.int .u8 xtos, .int .u16 xid, .bool xdf, .bool false, .int .i64 0, .int .u8 0, .int .u8 0, .int .u32 0, .int .u32 0, .slice none 0 0] 51) := row_set r1 2 (.bool xdf)
            clear r1
            have r3 : ((((we.setCell ⟨xb, 0, none⟩ (.int .u8 xtos)).setCell ⟨xb, 1, none⟩ (.int .u16 xid)).setCell ⟨xb, 2, none⟩ (.bool xdf)).setCell ⟨xb, 3, none⟩ (.bool xmf)).heap[xb]? = some (.cells #[.int .u8 xtos, .int .u16 xid, .bool xdf, .bool xmf, .int .i64 0, .int .u8 0, .int .u8 0, .int .u32 0, .int .u32 0, .slice none 0 0] 51) := row_set r2 3 (.bool xmf)
            clear r2
            have r4 : (((((we.setCell ⟨xb, 0, none⟩ (.int .u8 xtos)).setCell ⟨xb, 1, none⟩ (.int .u16 xid)).setCell ⟨xb, 2, none⟩ (.bool xdf)).setCell ⟨xb, 3, none⟩ (.bool xmf)).setCell ⟨xb, 4, none⟩ (.int .i64 xoff)).heap[xb]? = some (.cells #[.int .u8 xtos, .int .u16 xid, .bool xdf, .bool xmf, .int .i64 xoff, .int .u8 0, .int .u8 0, .int .u32 0, .int .u32 0, .slice none 0 0] 51) := row_set r3 4 (.int .i64 xoff)
            clear r3
            have r5 : ((((((we.setCell ⟨xb, 0, none⟩ (.int .u8 xtos)).setCell ⟨xb, 1, none⟩ (.int .u16 xid)).setCell ⟨xb, 2, none⟩ (.bool xdf)).setCell ⟨xb, 3, none⟩ (.bool xmf)).setCell ⟨xb, 4, none⟩ (.int .i64 xoff)).setCell ⟨xb, 5, none⟩ (.int .u8 xttl)).heap[xb]? = some (.cells #[.int .u8 xtos, .int .u16 xid, .bool xdf, .bool xmf, .int .i64 xoff, .int .u8 xttl, .int .u8 0, .int .u32 0, .int .u32 0, .slice none 0 0] 51) := row_set r4 5 (.int .u8 xttl)
            clear r4
            have r6 : (((((((we.setCell ⟨xb, 0, none⟩ (.int .u8 xtos)).setCell ⟨xb, 1, none⟩ (.int .u16 xid)).setCell ⟨xb, 2, none⟩ (.bool xdf)).setCell ⟨xb, 3, none⟩ (.bool xmf)).setCell ⟨xb, 4, none⟩ (.int .i64 xoff)).setCell ⟨xb, 5, none⟩ (.int .u8 xttl)).setCell ⟨xb, 6, none⟩ (.int .u8 xpr)).heap[xb]? = some (.cells #[.int .u8 xtos, .int .u16 xid, .bool xdf, .bool xmf, .int .i64 xoff, .int .u8 xttl, .int .u8 xpr, .int .u32 0, .int .u32 0, .slice none 0 0] 51) := row_set r5 6 (.int .u8 xpr)
            clear r5
            have r7 : ((((((((we.setCell ⟨xb, 0, none⟩ (.int .u8 xtos)).setCell ⟨xb, 1, none⟩ (.int .u16 xid)).setCell ⟨xb, 2, none⟩ (.bool xdf)).setCell ⟨xb, 3, none⟩ (.bool xmf)).setCell ⟨xb, 4, none⟩ (.int .i64 xoff)).setCell ⟨xb, 5, none⟩ (.int .u8 xttl)).setCell ⟨xb, 6, none⟩ (.int .u8 xpr)).setCell ⟨xb, 7, none⟩ (.int .u32 xsrc)).heap[xb]? = some (.cells #[.int .u8 xtos, .int .u16 xid, .bool xdf, .bool xmf, .int .i64 xoff, .int .u8 xttl, .int .u8 xpr, .int .u32 xsrc, .int .u32 0, .slice none 0 0] 51) := row_set r6 7 (.int .u32 xsrc)
            clear r6
            have r8 : (((((((((we.setCell ⟨xb, 0, none⟩ (.int .u8 xtos)).setCell ⟨xb, 1, none⟩ (.int .u16 xid)).setCell ⟨xb, 2, none⟩ (.bool xdf)).setCell ⟨xb, 3, none⟩ (.bool xmf)).setCell ⟨xb, 4, none⟩ (.int .i64 xoff)).setCell ⟨xb, 5, none⟩ (.int .u8 xttl)).setCell ⟨xb, 6, none⟩ (.int .u8 xpr)).setCell ⟨xb, 7, none⟩ (.int .u32 xsrc)).setCell ⟨xb, 8, none⟩ (.int .u32 xdst)).heap[xb]? = some (.cells #[.int .u8 xtos, .int .u16 xid, .bool xdf, .bool xmf, .int .i64 xoff, .int .u8 xttl, .int .u8 xpr, .int .u32 xsrc, .int .u32 xdst, .slice none 0 0] 51) := row_set r7 8 (.int .u32 xdst)
            clear r7
            have r9 : ((((((((((we.setCell ⟨xb, 0, none⟩ (.int .u8 xtos)).setCell ⟨xb, 1, none⟩ (.int .u16 xid)).setCell ⟨xb, 2, none⟩ (.bool xdf)).setCell ⟨xb, 3, none⟩ (.bool xmf)).setCell ⟨xb, 4, none⟩ (.int .i64 xoff)).setCell ⟨xb, 5, none⟩ (.int .u8 xttl)).setCell ⟨xb, 6, none⟩ (.int .u8 xpr)).setCell ⟨xb, 7, none⟩ (.int .u32 xsrc)).setCell ⟨xb, 8, none⟩ (.int .u32 xdst)).setCell ⟨xb, 9, none⟩ (.slice A9 xl.length xl.length)).heap[xb]? = some (.cells #[.int .u8 xtos, .int .u16 xid, .bool xdf, .bool xmf, .int .i64 xoff, .int .u8 xttl, .int .u8 xpr, .int .u32 xsrc, .int .u32 xdst, .slice A9 xl.length xl.length] 51) := row_set r8 9 (.slice A9 xl.length xl.length)
            clear r8
            have hx : Ex (fun j => j = xb) we ((((((((((we.setCell ⟨xb, 0, none⟩ (.int .u8 xtos)).setCell ⟨xb, 1, none⟩ (.int .u16 xid)).setCell ⟨xb, 2, none⟩ (.bool xdf)).setCell ⟨xb, 3, none⟩ (.bool xmf)).setCell ⟨xb, 4, none⟩ (.int .i64 xoff)).setCell ⟨xb, 5, none⟩ (.int .u8 xttl)).setCell ⟨xb, 6, none⟩ (.int .u8 xpr)).setCell ⟨xb, 7, none⟩ (.int .u32 xsrc)).setCell ⟨xb, 8, none⟩ (.int .u32 xdst)).setCell ⟨xb, 9, none⟩ (.slice A9 xl.length xl.length)) := (((((((((((Ex.refl (fun j => j = xb) we).setCell (p := ⟨xb, 0, none⟩) (.inl rfl) (.int .u8 xtos)).setCell (p := ⟨xb, 1, none⟩) (.inl rfl) (.int .u16 xid)).setCell (p := ⟨xb, 2, none⟩) (.inl rfl) (.bool xdf)).setCell (p := ⟨xb, 3, none⟩) (.inl rfl) (.bool xmf)).setCell (p := ⟨xb, 4, none⟩) (.inl rfl) (.int .i64 xoff)).setCell (p := ⟨xb, 5, none⟩) (.inl rfl) (.int .u8 xttl)).setCell (p := ⟨xb, 6, none⟩) (.inl rfl) (.int .u8 xpr)).setCell (p := ⟨xb, 7, none⟩) (.inl rfl) (.int .u32 xsrc)).setCell (p := ⟨xb, 8, none⟩) (.inl rfl) (.int .u32 xdst)).setCell (p := ⟨xb, 9, none⟩) (.inl rfl) (.slice A9 xl.length xl.length))
            clear cxb0 cxb1 cxb2 cxb3 cxb4 cxb5 cxb6 cxb7 cxb8 cxb9 fxb0 fxb1 fxb2 fxb3 fxb4 fxb5 fxb6 fxb7 fxb8 fxb9
            generalize ((((((((((we.setCell ⟨xb, 0, none⟩ (.int .u8 xtos)).setCell ⟨xb, 1, none⟩ (.int .u16 xid)).setCell ⟨xb, 2, none⟩ (.bool xdf)).setCell ⟨xb, 3, none⟩ (.bool xmf)).setCell ⟨xb, 4, none⟩ (.int .i64 xoff)).setCell ⟨xb, 5, none⟩ (.int .u8 xttl)).setCell ⟨xb, 6, none⟩ (.int .u8 xpr)).setCell ⟨xb, 7, none⟩ (.int .u32 xsrc)).setCell ⟨xb, 8, none⟩ (.int .u32 xdst)).setCell ⟨xb, 9, none⟩ (.slice A9 xl.length xl.length)) = wf at r9 hx ⊢
            replace B_xb := Lib.hid r9
            clear r9
            have HX_wf := Lib.hid hx
            clear hx
            have hS : Ex (fun _ => False) w6 wf := ((((((HX_wd.out.trans HX_wa.out).andThen HX_wb.out (fun i hi e => by have := HX_wd.out.size; have := hb_b0; omega)).andThen HX_wc.out (fun i hi e => by have := hb_g2; omega)).trans HX_wp.out).trans HX_we.out).andThen HX_wf.out (fun i hi e => by have := ((((HX_wd.out.trans HX_wa.out).andThen HX_wb.out (fun i hi e => by have := HX_wd.out.size; have := hb_b0; omega)).andThen HX_wc.out (fun i hi e => by have := hb_g2; omega)).trans HX_wp.out).size; have := hb_xb; omega))
            refine hK.out _ _ hS (fun _ => ?_)
            refine wpAnyH_take (i := 15) (oi := { dst := some 11, op := Go.Op.assign (Go.Operand.tmp 42), type := 29, pos := "law.go:75", after := #[{ on := 12, ground := Go.Ground.data }, { on := 14, ground := Go.Ground.chain }, { on := 0, ground := Go.Ground.phase }, { on := 1, ground := Go.Ground.phase }, { on := 2, ground := Go.Ground.phase }, { on := 3, ground := Go.Ground.phase }, { on := 4, ground := Go.Ground.phase }, { on := 5, ground := Go.Ground.phase }, { on := 6, ground := Go.Ground.phase }, { on := 7, ground := Go.Ground.phase }, { on := 8, ground := Go.Ground.phase }, { on := 9, ground := Go.Ground.phase }, { on := 10, ground := Go.Ground.phase }, { on := 11, ground := Go.Ground.phase }, { on := 12, ground := Go.Ground.phase }, { on := 13, ground := Go.Ground.phase }, { on := 14, ground := Go.Ground.phase }], guard := none }) (v := ?v20) rfl (by kernel_rfl) (by kernel_rfl) (by kernel_rfl) (fun _ _ _ h => h) (Or.inl ⟨by rfl, ?hy20⟩) (by assumption) ?rest20
            case hy20 => (intro w hSw; (try dsimp only at hSw); go_simp <;> with_reducible rfl)
            try simp only [Act.put, List.setIfInBounds_toArray, List.set_cons_zero, List.set_cons_succ]
            refine wpAnyH_done (by kernel_rfl) ?_ _
            go_wp2_with fail
            go_meet
            exact ⟨xb, A9, rfl, rfl, Lib.hid B_xb.out, Lib.hid (RB.any (RB.keep HB9.out (HX_we.out.andThen HX_wf.out (fun i hi e => by have := hb_xb; omega)) (fun _ _ _ => id))), Lib.hid ((((((HX_wd.out.trans HX_wa.out).andThen HX_wb.out (fun i hi e => by have := HX_wd.out.size; have := hb_b0; omega)).andThen HX_wc.out (fun i hi e => by have := hb_g2; omega)).trans HX_wp.out).trans HX_we.out).andThen HX_wf.out (fun i hi e => by have := ((((HX_wd.out.trans HX_wa.out).andThen HX_wb.out (fun i hi e => by have := HX_wd.out.size; have := hb_b0; omega)).andThen HX_wc.out (fun i hi e => by have := hb_g2; omega)).trans HX_wp.out).size; have := hb_xb; omega))⟩
          refine AllReadyH.cons (o := { dst := some 10, op := Go.Op.alloc 51, type := 0, pos := "law.go:75", after := #[], guard := none }) rfl (fun K hK => ?_) AllReadyH.nil
          go_simp
          have hx : Ex (fun _ => False) wc (wc.alloc (.cells #[.int .u8 0, .int .u16 0, .bool false, .bool false, .int .i64 0, .int .u8 0, .int .u8 0, .int .u32 0, .int .u32 0, .slice none 0 0] 51)) := (Ex.refl _ wc).alloc _
          have hb : (wc.alloc (.cells #[.int .u8 0, .int .u16 0, .bool false, .bool false, .int .i64 0, .int .u8 0, .int .u8 0, .int .u32 0, .int .u32 0, .slice none 0 0] 51)).heap[wc.heap.size]? = some (.cells #[.int .u8 0, .int .u16 0, .bool false, .bool false, .int .i64 0, .int .u8 0, .int .u8 0, .int .u32 0, .int .u32 0, .slice none 0 0] 51) := heap_alloc_new wc _
          obtain ⟨xb, hxb⟩ : ∃ xb, xb = wc.heap.size := ⟨_, rfl⟩
          have hb_xb : wc.heap.size ≤ xb := by omega
          rw [← hxb] at hb
          try simp only [← hxb]
          generalize wc.alloc (.cells #[.int .u8 0, .int .u16 0, .bool false, .bool false, .int .i64 0, .int .u8 0, .int .u8 0, .int .u32 0, .int .u32 0, .slice none 0 0] 51) = we at hx hb ⊢
          clear hxb
          have HX_we := Lib.hid hx
          clear hx
          have B_xb := Lib.hid hb
          clear hb
          have hS : Ex (fun _ => False) w6 we := ((((HX_wd.out.trans HX_wa.out).andThen HX_wb.out (fun i hi e => by have := HX_wd.out.size; have := hb_b0; omega)).andThen HX_wc.out (fun i hi e => by have := hb_g2; omega)).trans HX_we.out)
          refine hK.out _ _ hS (fun _ => ?_)
          refine wpAnyH_ready (rs := [9]) (by kernel_rfl) (by simp) ?_
          refine AllReadyH.cons (o := { dst := some 40, op := Go.Op.call { callee := Go.Callee.value (Go.Operand.func 24), args := #[Go.Operand.tmp 39], argTypes := #[22] }, type := 52, pos := "law.go:75", after := #[{ on := 8, ground := Go.Ground.data }, { on := 8, ground := Go.Ground.chain }], guard := none }) rfl (fun K hK => ?_) AllReadyH.nil
          go_simp
          refine (ipparse_yes _ (some A3) (M5.length + r1.length) c3 (M5 ++ r1) we (OB.keep HOc.out HX_we.out (fun _ _ _ _ => id)).rb (fun h => by cases h) (by rw [List.length_append]; omega) (⟨xtos, xid, xdf, xmf, xoff, xttl, xpr, xsrc, xdst, xl⟩ : Pk) HPA.out.1 HPA.out.2).mono ?_
          rintro e wp ⟨A9, g9, o9, rfl, hg9, hb9, _, hx⟩
          have hv : pkv (⟨xtos, xid, xdf, xmf, xoff, xttl, xpr, xsrc, xdst, xl⟩ : Pk) (.slice A9 (⟨xtos, xid, xdf, xmf, xoff, xttl, xpr, xsrc, xdst, xl⟩ : Pk).b.length (⟨xtos, xid, xdf, xmf, xoff, xttl, xpr, xsrc, xdst, xl⟩ : Pk).b.length) = .agg #[.int .u8 xtos, .int .u16 xid, .bool xdf, .bool xmf, .int .i64 xoff, .int .u8 xttl, .int .u8 xpr, .int .u32 xsrc, .int .u32 xdst, .slice A9 xl.length xl.length] := rfl
          rw [hv]
          clear hv
          have hb9' : RB wp (fun j => j = g9) (.slice A9 xl.length xl.length) xl := hb9
          clear hb9
          have hlx := row_lt B_xb.out
          have ne_g9_xb : g9 ≠ xb := by omega
          clear hlx
          have HX_wp := Lib.hid hx
          clear hx
          have HB9 := Lib.hid hb9'
          clear hb9'
          have hS : Ex (fun _ => False) w6 wp := (((((HX_wd.out.trans HX_wa.out).andThen HX_wb.out (fun i hi e => by have := HX_wd.out.size; have := hb_b0; omega)).andThen HX_wc.out (fun i hi e => by have := hb_g2; omega)).trans HX_we.out).trans HX_wp.out)
          refine hK.out _ _ hS (fun _ => ?_)
          refine wpAnyH_take (i := 10) (oi := { dst := some 30, op := Go.Op.move (Go.Operand.tmp 40), type := 52, pos := "law.go:75", after := #[{ on := 9, ground := Go.Ground.data }], guard := none }) (v := ?v21) rfl (by kernel_rfl) (by kernel_rfl) (by kernel_rfl) (fun _ _ _ h => h) (Or.inl ⟨by rfl, ?hy21⟩) (by assumption) ?rest21
          case hy21 => (intro w hSw; (try dsimp only at hSw); go_simp <;> with_reducible rfl)
          try simp only [Act.put, List.setIfInBounds_toArray, List.set_cons_zero, List.set_cons_succ]
          refine wpAnyH_take (i := 11) (oi := { dst := some 41, op := Go.Op.extract (Go.Operand.tmp 30) 0, type := 51, pos := "law.go:75", after := #[{ on := 10, ground := Go.Ground.data }], guard := none }) (v := ?v22) rfl (by kernel_rfl) (by kernel_rfl) (by kernel_rfl) (fun _ _ _ h => h) (Or.inl ⟨by rfl, ?hy22⟩) (by assumption) ?rest22
          case hy22 => (intro w hSw; (try dsimp only at hSw); go_simp <;> with_reducible rfl)
          try simp only [Act.put, List.setIfInBounds_toArray, List.set_cons_zero, List.set_cons_succ]
          refine wpAnyH_take (i := 12) (oi := { dst := some 42, op := Go.Op.extract (Go.Operand.tmp 30) 1, type := 29, pos := "law.go:75", after := #[{ on := 10, ground := Go.Ground.data }, { on := 14, ground := Go.Ground.gcOnly Go.Departure.lateStores }], guard := none }) (v := ?v23) rfl (by kernel_rfl) (by kernel_rfl) (by kernel_rfl) (fun _ _ _ h => h) (Or.inl ⟨by rfl, ?hy23⟩) (by assumption) ?rest23
          case hy23 => (intro w hSw; (try dsimp only at hSw); go_simp <;> with_reducible rfl)
          try simp only [Act.put, List.setIfInBounds_toArray, List.set_cons_zero, List.set_cons_succ]
          refine wpAnyH_ready (rs := [14]) (by kernel_rfl) (by simp) ?_
          refine AllReadyH.cons (o := { dst := none, op := Go.Op.store 51 (Go.Operand.tmp 10) (Go.Operand.tmp 41), type := 0, pos := "law.go:75", after := #[{ on := 13, ground := Go.Ground.data }, { on := 11, ground := Go.Ground.data }, { on := 9, ground := Go.Ground.chain }, { on := 0, ground := Go.Ground.phase }, { on := 1, ground := Go.Ground.phase }, { on := 2, ground := Go.Ground.phase }, { on := 3, ground := Go.Ground.phase }, { on := 4, ground := Go.Ground.phase }, { on := 5, ground := Go.Ground.phase }, { on := 6, ground := Go.Ground.phase }, { on := 7, ground := Go.Ground.phase }, { on := 8, ground := Go.Ground.phase }, { on := 9, ground := Go.Ground.phase }, { on := 10, ground := Go.Ground.phase }, { on := 11, ground := Go.Ground.phase }, { on := 12, ground := Go.Ground.textOnly Go.Departure.lateStores }, { on := 13, ground := Go.Ground.phase }], guard := none }) rfl (fun K hK => ?_) AllReadyH.nil
          replace B_xb := Lib.hid ((HX_wp.out.block xb (row_lt B_xb.out) id).trans B_xb.out)
          have cxb0 := row_cell (k := 0) (v := .int .u8 0) B_xb.out rfl
          have cxb1 := row_cell (k := 1) (v := .int .u16 0) B_xb.out rfl
          have cxb2 := row_cell (k := 2) (v := .bool false) B_xb.out rfl
          have cxb3 := row_cell (k := 3) (v := .bool false) B_xb.out rfl
          have cxb4 := row_cell (k := 4) (v := .int .i64 0) B_xb.out rfl
          have cxb5 := row_cell (k := 5) (v := .int .u8 0) B_xb.out rfl
          have cxb6 := row_cell (k := 6) (v := .int .u8 0) B_xb.out rfl
          have cxb7 := row_cell (k := 7) (v := .int .u32 0) B_xb.out rfl
          have cxb8 := row_cell (k := 8) (v := .int .u32 0) B_xb.out rfl
          have cxb9 := row_cell (k := 9) (v := .slice none 0 0) B_xb.out rfl
          have fxb0 := row_frozen B_xb.out 0
          have fxb1 := row_frozen B_xb.out 1
          have fxb2 := row_frozen B_xb.out 2
          have fxb3 := row_frozen B_xb.out 3
          have fxb4 := row_frozen B_xb.out 4
          have fxb5 := row_frozen B_xb.out 5
          have fxb6 := row_frozen B_xb.out 6
          have fxb7 := row_frozen B_xb.out 7
          have fxb8 := row_frozen B_xb.out 8
          have fxb9 := row_frozen B_xb.out 9
          go_simp
          have r0 : (wp.setCell ⟨xb, 0, none⟩ (.int .u8 xtos)).heap[xb]? = some (.cells #[.int .u8 xtos, .int .u16 0, .bool false, .bool false, .int .i64 0, .int .u8 0, .int .u8 0, .int .u32 0, .int .u32 0, .slice none 0 0] 51) := row_set B_xb.out 0 (.int .u8 xtos)
          have r1 : ((wp.setCell ⟨xb, 0, none⟩ (.int .u8 xtos)).setCell ⟨xb, 1, none⟩ (.int .u16 xid)).heap[xb]? = some (.cells #[.int .u8 xtos, .int .u16 xid, .bool false, .bool false, .int .i64 0, .int .u8 0, .int .u8 0, .int .u32 0, .int .u32 0, .slice none 0 0] 51) := row_set r0 1 (.int .u16 xid)
          clear r0
          have r2 : (((wp.setCell ⟨xb, 0, none⟩ (.int .u8 xtos)).setCell ⟨xb, 1, none⟩ (.int .u16 xid)).setCell ⟨xb, 2, none⟩ (.bool xdf)).heap[xb]? = some (.cells #[.int .u8 xtos, .int .u16 xid, .bool xdf, .bool false, .int .i64 0, .int .u8 0, .int .u8 0, .int .u32 0, .int .u32 0, .slice none 0 0] 51) := row_set r1 2 (.bool xdf)
          clear r1
          have r3 : ((((wp.setCell ⟨xb, 0, none⟩ (.int .u8 xtos)).setCell ⟨xb, 1, none⟩ (.int .u16 xid)).setCell ⟨xb, 2, none⟩ (.bool xdf)).setCell ⟨xb, 3, none⟩ (.bool xmf)).heap[xb]? = some (.cells #[.int .u8 xtos, .int .u16 xid, .bool xdf, .bool xmf, .int .i64 0, .int .u8 0, .int .u8 0, .int .u32 0, .int .u32 0, .slice none 0 0] 51) := row_set r2 3 (.bool xmf)
          clear r2
          have r4 : (((((wp.setCell ⟨xb, 0, none⟩ (.int .u8 xtos)).setCell ⟨xb, 1, none⟩ (.int .u16 xid)).setCell ⟨xb, 2, none⟩ (.bool xdf)).setCell ⟨xb, 3, none⟩ (.bool xmf)).setCell ⟨xb, 4, none⟩ (.int .i64 xoff)).heap[xb]? = some (.cells #[.int .u8 xtos, .int .u16 xid, .bool xdf, .bool xmf, .int .i64 xoff, .int .u8 0, .int .u8 0, .int .u32 0, .int .u32 0, .slice none 0 0] 51) := row_set r3 4 (.int .i64 xoff)
          clear r3
          have r5 : ((((((wp.setCell ⟨xb, 0, none⟩ (.int .u8 xtos)).setCell ⟨xb, 1, none⟩ (.int .u16 xid)).setCell ⟨xb, 2, none⟩ (.bool xdf)).setCell ⟨xb, 3, none⟩ (.bool xmf)).setCell ⟨xb, 4, none⟩ (.int .i64 xoff)).setCell ⟨xb, 5, none⟩ (.int .u8 xttl)).heap[xb]? = some (.cells #[.int .u8 xtos, .int .u16 xid, .bool xdf, .bool xmf, .int .i64 xoff, .int .u8 xttl, .int .u8 0, .int .u32 0, .int .u32 0, .slice none 0 0] 51) := row_set r4 5 (.int .u8 xttl)
          clear r4
          have r6 : (((((((wp.setCell ⟨xb, 0, none⟩ (.int .u8 xtos)).setCell ⟨xb, 1, none⟩ (.int .u16 xid)).setCell ⟨xb, 2, none⟩ (.bool xdf)).setCell ⟨xb, 3, none⟩ (.bool xmf)).setCell ⟨xb, 4, none⟩ (.int .i64 xoff)).setCell ⟨xb, 5, none⟩ (.int .u8 xttl)).setCell ⟨xb, 6, none⟩ (.int .u8 xpr)).heap[xb]? = some (.cells #[.int .u8 xtos, .int .u16 xid, .bool xdf, .bool xmf, .int .i64 xoff, .int .u8 xttl, .int .u8 xpr, .int .u32 0, .int .u32 0, .slice none 0 0] 51) := row_set r5 6 (.int .u8 xpr)
          clear r5
          have r7 : ((((((((wp.setCell ⟨xb, 0, none⟩ (.int .u8 xtos)).setCell ⟨xb, 1, none⟩ (.int .u16 xid)).setCell ⟨xb, 2, none⟩ (.bool xdf)).setCell ⟨xb, 3, none⟩ (.bool xmf)).setCell ⟨xb, 4, none⟩ (.int .i64 xoff)).setCell ⟨xb, 5, none⟩ (.int .u8 xttl)).setCell ⟨xb, 6, none⟩ (.int .u8 xpr)).setCell ⟨xb, 7, none⟩ (.int .u32 xsrc)).heap[xb]? = some (.cells #[.int .u8 xtos, .int .u16 xid, .bool xdf, .bool xmf, .int .i64 xoff, .int .u8 xttl, .int .u8 xpr, .int .u32 xsrc, .int .u32 0, .slice none 0 0] 51) := row_set r6 7 (.int .u32 xsrc)
          clear r6
          have r8 : (((((((((wp.setCell ⟨xb, 0, none⟩ (.int .u8 xtos)).setCell ⟨xb, 1, none⟩ (.int .u16 xid)).setCell ⟨xb, 2, none⟩ (.bool xdf)).setCell ⟨xb, 3, none⟩ (.bool xmf)).setCell ⟨xb, 4, none⟩ (.int .i64 xoff)).setCell ⟨xb, 5, none⟩ (.int .u8 xttl)).setCell ⟨xb, 6, none⟩ (.int .u8 xpr)).setCell ⟨xb, 7, none⟩ (.int .u32 xsrc)).setCell ⟨xb, 8, none⟩ (.int .u32 xdst)).heap[xb]? = some (.cells #[.int .u8 xtos, .int .u16 xid, .bool xdf, .bool xmf, .int .i64 xoff, .int .u8 xttl, .int .u8 xpr, .int .u32 xsrc, .int .u32 xdst, .slice none 0 0] 51) := row_set r7 8 (.int .u32 xdst)
          clear r7
          have r9 : ((((((((((wp.setCell ⟨xb, 0, none⟩ (.int .u8 xtos)).setCell ⟨xb, 1, none⟩ (.int .u16 xid)).setCell ⟨xb, 2, none⟩ (.bool xdf)).setCell ⟨xb, 3, none⟩ (.bool xmf)).setCell ⟨xb, 4, none⟩ (.int .i64 xoff)).setCell ⟨xb, 5, none⟩ (.int .u8 xttl)).setCell ⟨xb, 6, none⟩ (.int .u8 xpr)).setCell ⟨xb, 7, none⟩ (.int .u32 xsrc)).setCell ⟨xb, 8, none⟩ (.int .u32 xdst)).setCell ⟨xb, 9, none⟩ (.slice A9 xl.length xl.length)).heap[xb]? = some (.cells #[.int .u8 xtos, .int .u16 xid, .bool xdf, .bool xmf, .int .i64 xoff, .int .u8 xttl, .int .u8 xpr, .int .u32 xsrc, .int .u32 xdst, .slice A9 xl.length xl.length] 51) := row_set r8 9 (.slice A9 xl.length xl.length)
          clear r8
          have hx : Ex (fun j => j = xb) wp ((((((((((wp.setCell ⟨xb, 0, none⟩ (.int .u8 xtos)).setCell ⟨xb, 1, none⟩ (.int .u16 xid)).setCell ⟨xb, 2, none⟩ (.bool xdf)).setCell ⟨xb, 3, none⟩ (.bool xmf)).setCell ⟨xb, 4, none⟩ (.int .i64 xoff)).setCell ⟨xb, 5, none⟩ (.int .u8 xttl)).setCell ⟨xb, 6, none⟩ (.int .u8 xpr)).setCell ⟨xb, 7, none⟩ (.int .u32 xsrc)).setCell ⟨xb, 8, none⟩ (.int .u32 xdst)).setCell ⟨xb, 9, none⟩ (.slice A9 xl.length xl.length)) := (((((((((((Ex.refl (fun j => j = xb) wp).setCell (p := ⟨xb, 0, none⟩) (.inl rfl) (.int .u8 xtos)).setCell (p := ⟨xb, 1, none⟩) (.inl rfl) (.int .u16 xid)).setCell (p := ⟨xb, 2, none⟩) (.inl rfl) (.bool xdf)).setCell (p := ⟨xb, 3, none⟩) (.inl rfl) (.bool xmf)).setCell (p := ⟨xb, 4, none⟩) (.inl rfl) (.int .i64 xoff)).setCell (p := ⟨xb, 5, none⟩) (.inl rfl) (.int .u8 xttl)).setCell (p := ⟨xb, 6, none⟩) (.inl rfl) (.int .u8 xpr)).setCell (p := ⟨xb, 7, none⟩) (.inl rfl) (.int .u32 xsrc)).setCell (p := ⟨xb, 8, none⟩) (.inl rfl) (.int .u32 xdst)).setCell (p := ⟨xb, 9, none⟩) (.inl rfl) (.slice A9 xl.length xl.length))
          clear cxb0 cxb1 cxb2 cxb3 cxb4 cxb5 cxb6 cxb7 cxb8 cxb9 fxb0 fxb1 fxb2 fxb3 fxb4 fxb5 fxb6 fxb7 fxb8 fxb9
          generalize ((((((((((wp.setCell ⟨xb, 0, none⟩ (.int .u8 xtos)).setCell ⟨xb, 1, none⟩ (.int .u16 xid)).setCell ⟨xb, 2, none⟩ (.bool xdf)).setCell ⟨xb, 3, none⟩ (.bool xmf)).setCell ⟨xb, 4, none⟩ (.int .i64 xoff)).setCell ⟨xb, 5, none⟩ (.int .u8 xttl)).setCell ⟨xb, 6, none⟩ (.int .u8 xpr)).setCell ⟨xb, 7, none⟩ (.int .u32 xsrc)).setCell ⟨xb, 8, none⟩ (.int .u32 xdst)).setCell ⟨xb, 9, none⟩ (.slice A9 xl.length xl.length)) = wf at r9 hx ⊢
          replace B_xb := Lib.hid r9
          clear r9
          have HX_wf := Lib.hid hx
          clear hx
          have hS : Ex (fun _ => False) w6 wf := ((((((HX_wd.out.trans HX_wa.out).andThen HX_wb.out (fun i hi e => by have := HX_wd.out.size; have := hb_b0; omega)).andThen HX_wc.out (fun i hi e => by have := hb_g2; omega)).trans HX_we.out).trans HX_wp.out).andThen HX_wf.out (fun i hi e => by have := (((HX_wd.out.trans HX_wa.out).andThen HX_wb.out (fun i hi e => by have := HX_wd.out.size; have := hb_b0; omega)).andThen HX_wc.out (fun i hi e => by have := hb_g2; omega)).size; have := hb_xb; omega))
          refine hK.out _ _ hS (fun _ => ?_)
          refine wpAnyH_take (i := 15) (oi := { dst := some 11, op := Go.Op.assign (Go.Operand.tmp 42), type := 29, pos := "law.go:75", after := #[{ on := 12, ground := Go.Ground.data }, { on := 14, ground := Go.Ground.chain }, { on := 0, ground := Go.Ground.phase }, { on := 1, ground := Go.Ground.phase }, { on := 2, ground := Go.Ground.phase }, { on := 3, ground := Go.Ground.phase }, { on := 4, ground := Go.Ground.phase }, { on := 5, ground := Go.Ground.phase }, { on := 6, ground := Go.Ground.phase }, { on := 7, ground := Go.Ground.phase }, { on := 8, ground := Go.Ground.phase }, { on := 9, ground := Go.Ground.phase }, { on := 10, ground := Go.Ground.phase }, { on := 11, ground := Go.Ground.phase }, { on := 12, ground := Go.Ground.phase }, { on := 13, ground := Go.Ground.phase }, { on := 14, ground := Go.Ground.phase }], guard := none }) (v := ?v24) rfl (by kernel_rfl) (by kernel_rfl) (by kernel_rfl) (fun _ _ _ h => h) (Or.inl ⟨by rfl, ?hy24⟩) (by assumption) ?rest24
          case hy24 => (intro w hSw; (try dsimp only at hSw); go_simp <;> with_reducible rfl)
          try simp only [Act.put, List.setIfInBounds_toArray, List.set_cons_zero, List.set_cons_succ]
          refine wpAnyH_done (by kernel_rfl) ?_ _
          go_wp2_with fail
          go_meet
          exact ⟨xb, A9, rfl, rfl, Lib.hid B_xb.out, Lib.hid (RB.any (RB.keep HB9.out HX_wf.out (fun k _ hk e => ne_g9_xb (hk.symm.trans e)))), Lib.hid ((((((HX_wd.out.trans HX_wa.out).andThen HX_wb.out (fun i hi e => by have := HX_wd.out.size; have := hb_b0; omega)).andThen HX_wc.out (fun i hi e => by have := hb_g2; omega)).trans HX_we.out).trans HX_wp.out).andThen HX_wf.out (fun i hi e => by have := (((HX_wd.out.trans HX_wa.out).andThen HX_wb.out (fun i hi e => by have := HX_wd.out.size; have := hb_b0; omega)).andThen HX_wc.out (fun i hi e => by have := hb_g2; omega)).size; have := hb_xb; omega))⟩
        refine AllReadyH.cons (o := { dst := some 10, op := Go.Op.alloc 51, type := 0, pos := "law.go:75", after := #[], guard := none }) rfl (fun K hK => ?_) AllReadyH.nil
        go_simp
        have hx : Ex (fun _ => False) wb (wb.alloc (.cells #[.int .u8 0, .int .u16 0, .bool false, .bool false, .int .i64 0, .int .u8 0, .int .u8 0, .int .u32 0, .int .u32 0, .slice none 0 0] 51)) := (Ex.refl _ wb).alloc _
        have hb : (wb.alloc (.cells #[.int .u8 0, .int .u16 0, .bool false, .bool false, .int .i64 0, .int .u8 0, .int .u8 0, .int .u32 0, .int .u32 0, .slice none 0 0] 51)).heap[wb.heap.size]? = some (.cells #[.int .u8 0, .int .u16 0, .bool false, .bool false, .int .i64 0, .int .u8 0, .int .u8 0, .int .u32 0, .int .u32 0, .slice none 0 0] 51) := heap_alloc_new wb _
        obtain ⟨xb, hxb⟩ : ∃ xb, xb = wb.heap.size := ⟨_, rfl⟩
        have hb_xb : wb.heap.size ≤ xb := by omega
        rw [← hxb] at hb
        try simp only [← hxb]
        generalize wb.alloc (.cells #[.int .u8 0, .int .u16 0, .bool false, .bool false, .int .i64 0, .int .u8 0, .int .u8 0, .int .u32 0, .int .u32 0, .slice none 0 0] 51) = we at hx hb ⊢
        clear hxb
        have HX_we := Lib.hid hx
        clear hx
        have B_xb := Lib.hid hb
        clear hb
        have hS : Ex (fun _ => False) w6 we := (((HX_wd.out.trans HX_wa.out).andThen HX_wb.out (fun i hi e => by have := HX_wd.out.size; have := hb_b0; omega)).trans HX_we.out)
        refine hK.out _ _ hS (fun _ => ?_)
        refine wpAnyH_ready (rs := [8]) (by kernel_rfl) (by simp) ?_
        refine AllReadyH.cons (o := { dst := some 39, op := Go.Op.call { callee := Go.Callee.builtin Go.Builtin.append, args := #[Go.Operand.tmp 33, Go.Operand.tmp 38], argTypes := #[22, 22] }, type := 22, pos := "law.go:75", after := #[{ on := 2, ground := Go.Ground.data }, { on := 7, ground := Go.Ground.data }, { on := 2, ground := Go.Ground.chain }], guard := none }) rfl (fun K hK => ?_) AllReadyH.nil
        have hsz := (((HX_wd.out.trans HX_wa.out).andThen HX_wb.out (fun i hi e => by have := HX_wd.out.size; have := hb_b0; omega)).trans HX_we.out).size
        refine step_append_ob i0 22 Tryd.underlying22 hi hz0 hz1 hz2 rfl (.tmp 33) (.tmp 38) rfl w6.heap.size (.slice (some ⟨g2, 0, none⟩) M5.length c2) M5 rfl (fun _ => True) (.slice B r1.length cb) r1 rfl (OB.keep HOb.out HX_we.out (fun _ _ _ _ => id)) (RB.keep HR.out (((HX_wd.out.trans HX_wa.out).andThen HX_wb.out (fun i hi e => by have := HX_wd.out.size; have := hb_b0; omega)).trans HX_we.out) (fun _ _ _ => id)) (by omega) hsz ?_
        intro A3 c3 wc ho3 hg3 hn3 hb3
        try simp only [Act.put, List.setIfInBounds_toArray, List.set_cons_zero, List.set_cons_succ]
        have hs2 : ∃ a, A3 = some a := by
          cases A3 with
          | none => exact absurd (hn3.1 rfl).1 (by simp)
          | some a => exact ⟨a, rfl⟩
        obtain ⟨A3, rfl⟩ := hs2
        have hx : Ex (fun j => j = g2) we wc := (Ex.refl _ we).grown hg3 (fun k hk => .inl (by obtain rfl := Option.some.inj hk; rfl))
        have HOc : Hid (OB wc w6.heap.size (.slice (some A3) (M5.length + r1.length) c3) (M5 ++ r1)) := Lib.hid ho3
        clear ho3 hg3 hn3 hb3
        have hsx := (Ex.refl (fun _ => False) wb).size
        have ne_xb_g2 : xb ≠ g2 := by omega
        clear hsx
        have HX_wc := Lib.hid hx
        clear hx
        clear hsz
        have hS : Ex (fun _ => False) w6 wc := ((((HX_wd.out.trans HX_wa.out).andThen HX_wb.out (fun i hi e => by have := HX_wd.out.size; have := hb_b0; omega)).trans HX_we.out).andThen HX_wc.out (fun i hi e => by have := hb_g2; omega))
        refine hK.out _ _ hS (fun _ => ?_)
        refine wpAnyH_ready (rs := [9]) (by kernel_rfl) (by simp) ?_
        refine AllReadyH.cons (o := { dst := some 40, op := Go.Op.call { callee := Go.Callee.value (Go.Operand.func 24), args := #[Go.Operand.tmp 39], argTypes := #[22] }, type := 52, pos := "law.go:75", after := #[{ on := 8, ground := Go.Ground.data }, { on := 8, ground := Go.Ground.chain }], guard := none }) rfl (fun K hK => ?_) AllReadyH.nil
        go_simp
        refine (ipparse_yes _ (some A3) (M5.length + r1.length) c3 (M5 ++ r1) wc HOc.out.rb (fun h => by cases h) (by rw [List.length_append]; omega) (⟨xtos, xid, xdf, xmf, xoff, xttl, xpr, xsrc, xdst, xl⟩ : Pk) HPA.out.1 HPA.out.2).mono ?_
        rintro e wp ⟨A9, g9, o9, rfl, hg9, hb9, _, hx⟩
        have hv : pkv (⟨xtos, xid, xdf, xmf, xoff, xttl, xpr, xsrc, xdst, xl⟩ : Pk) (.slice A9 (⟨xtos, xid, xdf, xmf, xoff, xttl, xpr, xsrc, xdst, xl⟩ : Pk).b.length (⟨xtos, xid, xdf, xmf, xoff, xttl, xpr, xsrc, xdst, xl⟩ : Pk).b.length) = .agg #[.int .u8 xtos, .int .u16 xid, .bool xdf, .bool xmf, .int .i64 xoff, .int .u8 xttl, .int .u8 xpr, .int .u32 xsrc, .int .u32 xdst, .slice A9 xl.length xl.length] := rfl
        rw [hv]
        clear hv
        have hb9' : RB wp (fun j => j = g9) (.slice A9 xl.length xl.length) xl := hb9
        clear hb9
        have hlx := row_lt ((HX_wc.out.block xb (row_lt B_xb.out) ne_xb_g2).trans B_xb.out)
        have ne_g9_xb : g9 ≠ xb := by omega
        clear hlx
        have HX_wp := Lib.hid hx
        clear hx
        have HB9 := Lib.hid hb9'
        clear hb9'
        have hS : Ex (fun _ => False) w6 wp := (((((HX_wd.out.trans HX_wa.out).andThen HX_wb.out (fun i hi e => by have := HX_wd.out.size; have := hb_b0; omega)).trans HX_we.out).andThen HX_wc.out (fun i hi e => by have := hb_g2; omega)).trans HX_wp.out)
        refine hK.out _ _ hS (fun _ => ?_)
        refine wpAnyH_take (i := 10) (oi := { dst := some 30, op := Go.Op.move (Go.Operand.tmp 40), type := 52, pos := "law.go:75", after := #[{ on := 9, ground := Go.Ground.data }], guard := none }) (v := ?v25) rfl (by kernel_rfl) (by kernel_rfl) (by kernel_rfl) (fun _ _ _ h => h) (Or.inl ⟨by rfl, ?hy25⟩) (by assumption) ?rest25
        case hy25 => (intro w hSw; (try dsimp only at hSw); go_simp <;> with_reducible rfl)
        try simp only [Act.put, List.setIfInBounds_toArray, List.set_cons_zero, List.set_cons_succ]
        refine wpAnyH_take (i := 11) (oi := { dst := some 41, op := Go.Op.extract (Go.Operand.tmp 30) 0, type := 51, pos := "law.go:75", after := #[{ on := 10, ground := Go.Ground.data }], guard := none }) (v := ?v26) rfl (by kernel_rfl) (by kernel_rfl) (by kernel_rfl) (fun _ _ _ h => h) (Or.inl ⟨by rfl, ?hy26⟩) (by assumption) ?rest26
        case hy26 => (intro w hSw; (try dsimp only at hSw); go_simp <;> with_reducible rfl)
        try simp only [Act.put, List.setIfInBounds_toArray, List.set_cons_zero, List.set_cons_succ]
        refine wpAnyH_take (i := 12) (oi := { dst := some 42, op := Go.Op.extract (Go.Operand.tmp 30) 1, type := 29, pos := "law.go:75", after := #[{ on := 10, ground := Go.Ground.data }, { on := 14, ground := Go.Ground.gcOnly Go.Departure.lateStores }], guard := none }) (v := ?v27) rfl (by kernel_rfl) (by kernel_rfl) (by kernel_rfl) (fun _ _ _ h => h) (Or.inl ⟨by rfl, ?hy27⟩) (by assumption) ?rest27
        case hy27 => (intro w hSw; (try dsimp only at hSw); go_simp <;> with_reducible rfl)
        try simp only [Act.put, List.setIfInBounds_toArray, List.set_cons_zero, List.set_cons_succ]
        refine wpAnyH_ready (rs := [14]) (by kernel_rfl) (by simp) ?_
        refine AllReadyH.cons (o := { dst := none, op := Go.Op.store 51 (Go.Operand.tmp 10) (Go.Operand.tmp 41), type := 0, pos := "law.go:75", after := #[{ on := 13, ground := Go.Ground.data }, { on := 11, ground := Go.Ground.data }, { on := 9, ground := Go.Ground.chain }, { on := 0, ground := Go.Ground.phase }, { on := 1, ground := Go.Ground.phase }, { on := 2, ground := Go.Ground.phase }, { on := 3, ground := Go.Ground.phase }, { on := 4, ground := Go.Ground.phase }, { on := 5, ground := Go.Ground.phase }, { on := 6, ground := Go.Ground.phase }, { on := 7, ground := Go.Ground.phase }, { on := 8, ground := Go.Ground.phase }, { on := 9, ground := Go.Ground.phase }, { on := 10, ground := Go.Ground.phase }, { on := 11, ground := Go.Ground.phase }, { on := 12, ground := Go.Ground.textOnly Go.Departure.lateStores }, { on := 13, ground := Go.Ground.phase }], guard := none }) rfl (fun K hK => ?_) AllReadyH.nil
        replace B_xb := Lib.hid ((HX_wp.out.block xb (row_lt ((HX_wc.out.block xb (row_lt B_xb.out) ne_xb_g2).trans B_xb.out)) id).trans ((HX_wc.out.block xb (row_lt B_xb.out) ne_xb_g2).trans B_xb.out))
        have cxb0 := row_cell (k := 0) (v := .int .u8 0) B_xb.out rfl
        have cxb1 := row_cell (k := 1) (v := .int .u16 0) B_xb.out rfl
        have cxb2 := row_cell (k := 2) (v := .bool false) B_xb.out rfl
        have cxb3 := row_cell (k := 3) (v := .bool false) B_xb.out rfl
        have cxb4 := row_cell (k := 4) (v := .int .i64 0) B_xb.out rfl
        have cxb5 := row_cell (k := 5) (v := .int .u8 0) B_xb.out rfl
        have cxb6 := row_cell (k := 6) (v := .int .u8 0) B_xb.out rfl
        have cxb7 := row_cell (k := 7) (v := .int .u32 0) B_xb.out rfl
        have cxb8 := row_cell (k := 8) (v := .int .u32 0) B_xb.out rfl
        have cxb9 := row_cell (k := 9) (v := .slice none 0 0) B_xb.out rfl
        have fxb0 := row_frozen B_xb.out 0
        have fxb1 := row_frozen B_xb.out 1
        have fxb2 := row_frozen B_xb.out 2
        have fxb3 := row_frozen B_xb.out 3
        have fxb4 := row_frozen B_xb.out 4
        have fxb5 := row_frozen B_xb.out 5
        have fxb6 := row_frozen B_xb.out 6
        have fxb7 := row_frozen B_xb.out 7
        have fxb8 := row_frozen B_xb.out 8
        have fxb9 := row_frozen B_xb.out 9
        go_simp
        have r0 : (wp.setCell ⟨xb, 0, none⟩ (.int .u8 xtos)).heap[xb]? = some (.cells #[.int .u8 xtos, .int .u16 0, .bool false, .bool false, .int .i64 0, .int .u8 0, .int .u8 0, .int .u32 0, .int .u32 0, .slice none 0 0] 51) := row_set B_xb.out 0 (.int .u8 xtos)
        have r1 : ((wp.setCell ⟨xb, 0, none⟩ (.int .u8 xtos)).setCell ⟨xb, 1, none⟩ (.int .u16 xid)).heap[xb]? = some (.cells #[.int .u8 xtos, .int .u16 xid, .bool false, .bool false, .int .i64 0, .int .u8 0, .int .u8 0, .int .u32 0, .int .u32 0, .slice none 0 0] 51) := row_set r0 1 (.int .u16 xid)
        clear r0
        have r2 : (((wp.setCell ⟨xb, 0, none⟩ (.int .u8 xtos)).setCell ⟨xb, 1, none⟩ (.int .u16 xid)).setCell ⟨xb, 2, none⟩ (.bool xdf)).heap[xb]? = some (.cells #[.int .u8 xtos, .int .u16 xid, .bool xdf, .bool false, .int .i64 0, .int .u8 0, .int .u8 0, .int .u32 0, .int .u32 0, .slice none 0 0] 51) := row_set r1 2 (.bool xdf)
        clear r1
        have r3 : ((((wp.setCell ⟨xb, 0, none⟩ (.int .u8 xtos)).setCell ⟨xb, 1, none⟩ (.int .u16 xid)).setCell ⟨xb, 2, none⟩ (.bool xdf)).setCell ⟨xb, 3, none⟩ (.bool xmf)).heap[xb]? = some (.cells #[.int .u8 xtos, .int .u16 xid, .bool xdf, .bool xmf, .int .i64 0, .int .u8 0, .int .u8 0, .int .u32 0, .int .u32 0, .slice none 0 0] 51) := row_set r2 3 (.bool xmf)
        clear r2
        have r4 : (((((wp.setCell ⟨xb, 0, none⟩ (.int .u8 xtos)).setCell ⟨xb, 1, none⟩ (.int .u16 xid)).setCell ⟨xb, 2, none⟩ (.bool xdf)).setCell ⟨xb, 3, none⟩ (.bool xmf)).setCell ⟨xb, 4, none⟩ (.int .i64 xoff)).heap[xb]? = some (.cells #[.int .u8 xtos, .int .u16 xid, .bool xdf, .bool xmf, .int .i64 xoff, .int .u8 0, .int .u8 0, .int .u32 0, .int .u32 0, .slice none 0 0] 51) := row_set r3 4 (.int .i64 xoff)
        clear r3
        have r5 : ((((((wp.setCell ⟨xb, 0, none⟩ (.int .u8 xtos)).setCell ⟨xb, 1, none⟩ (.int .u16 xid)).setCell ⟨xb, 2, none⟩ (.bool xdf)).setCell ⟨xb, 3, none⟩ (.bool xmf)).setCell ⟨xb, 4, none⟩ (.int .i64 xoff)).setCell ⟨xb, 5, none⟩ (.int .u8 xttl)).heap[xb]? = some (.cells #[.int .u8 xtos, .int .u16 xid, .bool xdf, .bool xmf, .int .i64 xoff, .int .u8 xttl, .int .u8 0, .int .u32 0, .int .u32 0, .slice none 0 0] 51) := row_set r4 5 (.int .u8 xttl)
        clear r4
        have r6 : (((((((wp.setCell ⟨xb, 0, none⟩ (.int .u8 xtos)).setCell ⟨xb, 1, none⟩ (.int .u16 xid)).setCell ⟨xb, 2, none⟩ (.bool xdf)).setCell ⟨xb, 3, none⟩ (.bool xmf)).setCell ⟨xb, 4, none⟩ (.int .i64 xoff)).setCell ⟨xb, 5, none⟩ (.int .u8 xttl)).setCell ⟨xb, 6, none⟩ (.int .u8 xpr)).heap[xb]? = some (.cells #[.int .u8 xtos, .int .u16 xid, .bool xdf, .bool xmf, .int .i64 xoff, .int .u8 xttl, .int .u8 xpr, .int .u32 0, .int .u32 0, .slice none 0 0] 51) := row_set r5 6 (.int .u8 xpr)
        clear r5
        have r7 : ((((((((wp.setCell ⟨xb, 0, none⟩ (.int .u8 xtos)).setCell ⟨xb, 1, none⟩ (.int .u16 xid)).setCell ⟨xb, 2, none⟩ (.bool xdf)).setCell ⟨xb, 3, none⟩ (.bool xmf)).setCell ⟨xb, 4, none⟩ (.int .i64 xoff)).setCell ⟨xb, 5, none⟩ (.int .u8 xttl)).setCell ⟨xb, 6, none⟩ (.int .u8 xpr)).setCell ⟨xb, 7, none⟩ (.int .u32 xsrc)).heap[xb]? = some (.cells #[.int .u8 xtos, .int .u16 xid, .bool xdf, .bool xmf, .int .i64 xoff, .int .u8 xttl, .int .u8 xpr, .int .u32 xsrc, .int .u32 0, .slice none 0 0] 51) := row_set r6 7 (.int .u32 xsrc)
        clear r6
        have r8 : (((((((((wp.setCell ⟨xb, 0, none⟩ (.int .u8 xtos)).setCell ⟨xb, 1, none⟩ (.int .u16 xid)).setCell ⟨xb, 2, none⟩ (.bool xdf)).setCell ⟨xb, 3, none⟩ (.bool xmf)).setCell ⟨xb, 4, none⟩ (.int .i64 xoff)).setCell ⟨xb, 5, none⟩ (.int .u8 xttl)).setCell ⟨xb, 6, none⟩ (.int .u8 xpr)).setCell ⟨xb, 7, none⟩ (.int .u32 xsrc)).setCell ⟨xb, 8, none⟩ (.int .u32 xdst)).heap[xb]? = some (.cells #[.int .u8 xtos, .int .u16 xid, .bool xdf, .bool xmf, .int .i64 xoff, .int .u8 xttl, .int .u8 xpr, .int .u32 xsrc, .int .u32 xdst, .slice none 0 0] 51) := row_set r7 8 (.int .u32 xdst)
        clear r7
        have r9 : ((((((((((wp.setCell ⟨xb, 0, none⟩ (.int .u8 xtos)).setCell ⟨xb, 1, none⟩ (.int .u16 xid)).setCell ⟨xb, 2, none⟩ (.bool xdf)).setCell ⟨xb, 3, none⟩ (.bool xmf)).setCell ⟨xb, 4, none⟩ (.int .i64 xoff)).setCell ⟨xb, 5, none⟩ (.int .u8 xttl)).setCell ⟨xb, 6, none⟩ (.int .u8 xpr)).setCell ⟨xb, 7, none⟩ (.int .u32 xsrc)).setCell ⟨xb, 8, none⟩ (.int .u32 xdst)).setCell ⟨xb, 9, none⟩ (.slice A9 xl.length xl.length)).heap[xb]? = some (.cells #[.int .u8 xtos, .int .u16 xid, .bool xdf, .bool xmf, .int .i64 xoff, .int .u8 xttl, .int .u8 xpr, .int .u32 xsrc, .int .u32 xdst, .slice A9 xl.length xl.length] 51) := row_set r8 9 (.slice A9 xl.length xl.length)
        clear r8
        have hx : Ex (fun j => j = xb) wp ((((((((((wp.setCell ⟨xb, 0, none⟩ (.int .u8 xtos)).setCell ⟨xb, 1, none⟩ (.int .u16 xid)).setCell ⟨xb, 2, none⟩ (.bool xdf)).setCell ⟨xb, 3, none⟩ (.bool xmf)).setCell ⟨xb, 4, none⟩ (.int .i64 xoff)).setCell ⟨xb, 5, none⟩ (.int .u8 xttl)).setCell ⟨xb, 6, none⟩ (.int .u8 xpr)).setCell ⟨xb, 7, none⟩ (.int .u32 xsrc)).setCell ⟨xb, 8, none⟩ (.int .u32 xdst)).setCell ⟨xb, 9, none⟩ (.slice A9 xl.length xl.length)) := (((((((((((Ex.refl (fun j => j = xb) wp).setCell (p := ⟨xb, 0, none⟩) (.inl rfl) (.int .u8 xtos)).setCell (p := ⟨xb, 1, none⟩) (.inl rfl) (.int .u16 xid)).setCell (p := ⟨xb, 2, none⟩) (.inl rfl) (.bool xdf)).setCell (p := ⟨xb, 3, none⟩) (.inl rfl) (.bool xmf)).setCell (p := ⟨xb, 4, none⟩) (.inl rfl) (.int .i64 xoff)).setCell (p := ⟨xb, 5, none⟩) (.inl rfl) (.int .u8 xttl)).setCell (p := ⟨xb, 6, none⟩) (.inl rfl) (.int .u8 xpr)).setCell (p := ⟨xb, 7, none⟩) (.inl rfl) (.int .u32 xsrc)).setCell (p := ⟨xb, 8, none⟩) (.inl rfl) (.int .u32 xdst)).setCell (p := ⟨xb, 9, none⟩) (.inl rfl) (.slice A9 xl.length xl.length))
        clear cxb0 cxb1 cxb2 cxb3 cxb4 cxb5 cxb6 cxb7 cxb8 cxb9 fxb0 fxb1 fxb2 fxb3 fxb4 fxb5 fxb6 fxb7 fxb8 fxb9
        generalize ((((((((((wp.setCell ⟨xb, 0, none⟩ (.int .u8 xtos)).setCell ⟨xb, 1, none⟩ (.int .u16 xid)).setCell ⟨xb, 2, none⟩ (.bool xdf)).setCell ⟨xb, 3, none⟩ (.bool xmf)).setCell ⟨xb, 4, none⟩ (.int .i64 xoff)).setCell ⟨xb, 5, none⟩ (.int .u8 xttl)).setCell ⟨xb, 6, none⟩ (.int .u8 xpr)).setCell ⟨xb, 7, none⟩ (.int .u32 xsrc)).setCell ⟨xb, 8, none⟩ (.int .u32 xdst)).setCell ⟨xb, 9, none⟩ (.slice A9 xl.length xl.length)) = wf at r9 hx ⊢
        replace B_xb := Lib.hid r9
        clear r9
        have HX_wf := Lib.hid hx
        clear hx
        have hS : Ex (fun _ => False) w6 wf := ((((((HX_wd.out.trans HX_wa.out).andThen HX_wb.out (fun i hi e => by have := HX_wd.out.size; have := hb_b0; omega)).trans HX_we.out).andThen HX_wc.out (fun i hi e => by have := hb_g2; omega)).trans HX_wp.out).andThen HX_wf.out (fun i hi e => by have := ((HX_wd.out.trans HX_wa.out).andThen HX_wb.out (fun i hi e => by have := HX_wd.out.size; have := hb_b0; omega)).size; have := hb_xb; omega))
        refine hK.out _ _ hS (fun _ => ?_)
        refine wpAnyH_take (i := 15) (oi := { dst := some 11, op := Go.Op.assign (Go.Operand.tmp 42), type := 29, pos := "law.go:75", after := #[{ on := 12, ground := Go.Ground.data }, { on := 14, ground := Go.Ground.chain }, { on := 0, ground := Go.Ground.phase }, { on := 1, ground := Go.Ground.phase }, { on := 2, ground := Go.Ground.phase }, { on := 3, ground := Go.Ground.phase }, { on := 4, ground := Go.Ground.phase }, { on := 5, ground := Go.Ground.phase }, { on := 6, ground := Go.Ground.phase }, { on := 7, ground := Go.Ground.phase }, { on := 8, ground := Go.Ground.phase }, { on := 9, ground := Go.Ground.phase }, { on := 10, ground := Go.Ground.phase }, { on := 11, ground := Go.Ground.phase }, { on := 12, ground := Go.Ground.phase }, { on := 13, ground := Go.Ground.phase }, { on := 14, ground := Go.Ground.phase }], guard := none }) (v := ?v28) rfl (by kernel_rfl) (by kernel_rfl) (by kernel_rfl) (fun _ _ _ h => h) (Or.inl ⟨by rfl, ?hy28⟩) (by assumption) ?rest28
        case hy28 => (intro w hSw; (try dsimp only at hSw); go_simp <;> with_reducible rfl)
        try simp only [Act.put, List.setIfInBounds_toArray, List.set_cons_zero, List.set_cons_succ]
        refine wpAnyH_done (by kernel_rfl) ?_ _
        go_wp2_with fail
        go_meet
        exact ⟨xb, A9, rfl, rfl, Lib.hid B_xb.out, Lib.hid (RB.any (RB.keep HB9.out HX_wf.out (fun k _ hk e => ne_g9_xb (hk.symm.trans e)))), Lib.hid ((((((HX_wd.out.trans HX_wa.out).andThen HX_wb.out (fun i hi e => by have := HX_wd.out.size; have := hb_b0; omega)).trans HX_we.out).andThen HX_wc.out (fun i hi e => by have := hb_g2; omega)).trans HX_wp.out).andThen HX_wf.out (fun i hi e => by have := ((HX_wd.out.trans HX_wa.out).andThen HX_wb.out (fun i hi e => by have := HX_wd.out.size; have := hb_b0; omega)).size; have := hb_xb; omega))⟩
      refine AllReadyH.cons (o := { dst := some 10, op := Go.Op.alloc 51, type := 0, pos := "law.go:75", after := #[], guard := none }) rfl (fun K hK => ?_) AllReadyH.nil
      go_simp
      have hx : Ex (fun _ => False) wa (wa.alloc (.cells #[.int .u8 0, .int .u16 0, .bool false, .bool false, .int .i64 0, .int .u8 0, .int .u8 0, .int .u32 0, .int .u32 0, .slice none 0 0] 51)) := (Ex.refl _ wa).alloc _
      have hb : (wa.alloc (.cells #[.int .u8 0, .int .u16 0, .bool false, .bool false, .int .i64 0, .int .u8 0, .int .u8 0, .int .u32 0, .int .u32 0, .slice none 0 0] 51)).heap[wa.heap.size]? = some (.cells #[.int .u8 0, .int .u16 0, .bool false, .bool false, .int .i64 0, .int .u8 0, .int .u8 0, .int .u32 0, .int .u32 0, .slice none 0 0] 51) := heap_alloc_new wa _
      obtain ⟨xb, hxb⟩ : ∃ xb, xb = wa.heap.size := ⟨_, rfl⟩
      have hb_xb : wa.heap.size ≤ xb := by omega
      rw [← hxb] at hb
      try simp only [← hxb]
      generalize wa.alloc (.cells #[.int .u8 0, .int .u16 0, .bool false, .bool false, .int .i64 0, .int .u8 0, .int .u8 0, .int .u32 0, .int .u32 0, .slice none 0 0] 51) = we at hx hb ⊢
      clear hxb
      have HX_we := Lib.hid hx
      clear hx
      have B_xb := Lib.hid hb
      clear hb
      have hS : Ex (fun _ => False) w6 we := ((HX_wd.out.trans HX_wa.out).trans HX_we.out)
      refine hK.out _ _ hS (fun _ => ?_)
      refine wpAnyH_ready (rs := [2]) (by kernel_rfl) (by simp) ?_
      refine AllReadyH.cons (o := { dst := some 33, op := Go.Op.call { callee := Go.Callee.builtin Go.Builtin.append, args := #[Go.Operand.tmp 31, Go.Operand.tmp 32], argTypes := #[22, 22] }, type := 22, pos := "law.go:75", after := #[{ on := 0, ground := Go.Ground.data }, { on := 1, ground := Go.Ground.data }], guard := none }) rfl (fun K hK => ?_) AllReadyH.nil
      have hsz := ((HX_wd.out.trans HX_wa.out).trans HX_we.out).size
      refine step_append_ob i0 22 Tryd.underlying22 hi hz0 hz1 hz2 rfl (.tmp 31) (.tmp 32) rfl w6.heap.size (.slice (some ⟨b0, 0, none⟩) 0 0) [] rfl (fun _ => True) (.slice (some ⟨g5, 0, none⟩) M5.length c5) M5 rfl (OB.keep HOa.out HX_we.out (fun _ _ _ _ => id)) (RB.any (OB.keep HO5.out ((HX_wd.out.trans HX_wa.out).trans HX_we.out) (fun _ _ _ _ => id)).rb) (by simp; omega) hsz ?_
      intro A2 c2 wb ho3 hg3 hn3 hb3
      try simp only [Act.put, List.setIfInBounds_toArray, List.set_cons_zero, List.set_cons_succ]
      have hs2 : ∃ a, A2 = some a := by
        cases A2 with
        | none => exact absurd (hn3.1 rfl).1 (by simp)
        | some a => exact ⟨a, rfl⟩
      obtain ⟨A2, rfl⟩ := hs2
      have ho : OB wb w6.heap.size (.slice (some A2) M5.length c2) M5 := by simpa using ho3
      try simp only [List.length_nil, Nat.zero_add]
      obtain ⟨g2, rfl, hb_g2, hlt_g2⟩ := ho.plain
      have hx : Ex (fun j => j = b0) we wb := (Ex.refl _ we).grown hg3 (fun k hk => .inl (by obtain rfl := Option.some.inj hk; rfl))
      have hg2 : g2 = b0 ∨ g2 = we.heap.size := by
        rcases hb3 with h | h
        · exact .inl (Option.some.inj h)
        · exact .inr (Option.some.inj h)
      clear ho3 hg3 hn3 hb3
      have hlx := row_lt B_xb.out
      have hsx := HX_we.out.size
      have ne_xb_b0 : xb ≠ b0 := by omega
      have ne_xb_g2 : xb ≠ g2 := by omega
      clear hlx hsx
      have HX_wb := Lib.hid hx
      clear hx
      have HOb := Lib.hid ho
      clear ho hsz hg2
      have hS : Ex (fun _ => False) w6 wb := (((HX_wd.out.trans HX_wa.out).trans HX_we.out).andThen HX_wb.out (fun i hi e => by have := HX_wd.out.size; have := hb_b0; omega))
      refine hK.out _ _ hS (fun _ => ?_)
      refine wpAnyH_ready (rs := [8]) (by kernel_rfl) (by simp) ?_
      refine AllReadyH.cons (o := { dst := some 39, op := Go.Op.call { callee := Go.Callee.builtin Go.Builtin.append, args := #[Go.Operand.tmp 33, Go.Operand.tmp 38], argTypes := #[22, 22] }, type := 22, pos := "law.go:75", after := #[{ on := 2, ground := Go.Ground.data }, { on := 7, ground := Go.Ground.data }, { on := 2, ground := Go.Ground.chain }], guard := none }) rfl (fun K hK => ?_) AllReadyH.nil
      have hsz := (((HX_wd.out.trans HX_wa.out).trans HX_we.out).andThen HX_wb.out (fun i hi e => by have := HX_wd.out.size; have := hb_b0; omega)).size
      refine step_append_ob i0 22 Tryd.underlying22 hi hz0 hz1 hz2 rfl (.tmp 33) (.tmp 38) rfl w6.heap.size (.slice (some ⟨g2, 0, none⟩) M5.length c2) M5 rfl (fun _ => True) (.slice B r1.length cb) r1 rfl HOb.out (RB.keep HR.out (((HX_wd.out.trans HX_wa.out).trans HX_we.out).andThen HX_wb.out (fun i hi e => by have := HX_wd.out.size; have := hb_b0; omega)) (fun _ _ _ => id)) (by omega) hsz ?_
      intro A3 c3 wc ho3 hg3 hn3 hb3
      try simp only [Act.put, List.setIfInBounds_toArray, List.set_cons_zero, List.set_cons_succ]
      have hs2 : ∃ a, A3 = some a := by
        cases A3 with
        | none => exact absurd (hn3.1 rfl).1 (by simp)
        | some a => exact ⟨a, rfl⟩
      obtain ⟨A3, rfl⟩ := hs2
      have hx : Ex (fun j => j = g2) wb wc := (Ex.refl _ wb).grown hg3 (fun k hk => .inl (by obtain rfl := Option.some.inj hk; rfl))
      have HOc : Hid (OB wc w6.heap.size (.slice (some A3) (M5.length + r1.length) c3) (M5 ++ r1)) := Lib.hid ho3
      clear ho3 hg3 hn3 hb3
      have HX_wc := Lib.hid hx
      clear hx
      clear hsz
      have hS : Ex (fun _ => False) w6 wc := ((((HX_wd.out.trans HX_wa.out).trans HX_we.out).andThen HX_wb.out (fun i hi e => by have := HX_wd.out.size; have := hb_b0; omega)).andThen HX_wc.out (fun i hi e => by have := hb_g2; omega))
      refine hK.out _ _ hS (fun _ => ?_)
      refine wpAnyH_ready (rs := [9]) (by kernel_rfl) (by simp) ?_
      refine AllReadyH.cons (o := { dst := some 40, op := Go.Op.call { callee := Go.Callee.value (Go.Operand.func 24), args := #[Go.Operand.tmp 39], argTypes := #[22] }, type := 52, pos := "law.go:75", after := #[{ on := 8, ground := Go.Ground.data }, { on := 8, ground := Go.Ground.chain }], guard := none }) rfl (fun K hK => ?_) AllReadyH.nil
      go_simp
      refine (ipparse_yes _ (some A3) (M5.length + r1.length) c3 (M5 ++ r1) wc HOc.out.rb (fun h => by cases h) (by rw [List.length_append]; omega) (⟨xtos, xid, xdf, xmf, xoff, xttl, xpr, xsrc, xdst, xl⟩ : Pk) HPA.out.1 HPA.out.2).mono ?_
      rintro e wp ⟨A9, g9, o9, rfl, hg9, hb9, _, hx⟩
      have hv : pkv (⟨xtos, xid, xdf, xmf, xoff, xttl, xpr, xsrc, xdst, xl⟩ : Pk) (.slice A9 (⟨xtos, xid, xdf, xmf, xoff, xttl, xpr, xsrc, xdst, xl⟩ : Pk).b.length (⟨xtos, xid, xdf, xmf, xoff, xttl, xpr, xsrc, xdst, xl⟩ : Pk).b.length) = .agg #[.int .u8 xtos, .int .u16 xid, .bool xdf, .bool xmf, .int .i64 xoff, .int .u8 xttl, .int .u8 xpr, .int .u32 xsrc, .int .u32 xdst, .slice A9 xl.length xl.length] := rfl
      rw [hv]
      clear hv
      have hb9' : RB wp (fun j => j = g9) (.slice A9 xl.length xl.length) xl := hb9
      clear hb9
      have hlx := row_lt ((HX_wc.out.block xb (row_lt ((HX_wb.out.block xb (row_lt B_xb.out) ne_xb_b0).trans B_xb.out)) ne_xb_g2).trans ((HX_wb.out.block xb (row_lt B_xb.out) ne_xb_b0).trans B_xb.out))
      have ne_g9_xb : g9 ≠ xb := by omega
      clear hlx
      have HX_wp := Lib.hid hx
      clear hx
      have HB9 := Lib.hid hb9'
      clear hb9'
      have hS : Ex (fun _ => False) w6 wp := (((((HX_wd.out.trans HX_wa.out).trans HX_we.out).andThen HX_wb.out (fun i hi e => by have := HX_wd.out.size; have := hb_b0; omega)).andThen HX_wc.out (fun i hi e => by have := hb_g2; omega)).trans HX_wp.out)
      refine hK.out _ _ hS (fun _ => ?_)
      refine wpAnyH_take (i := 10) (oi := { dst := some 30, op := Go.Op.move (Go.Operand.tmp 40), type := 52, pos := "law.go:75", after := #[{ on := 9, ground := Go.Ground.data }], guard := none }) (v := ?v29) rfl (by kernel_rfl) (by kernel_rfl) (by kernel_rfl) (fun _ _ _ h => h) (Or.inl ⟨by rfl, ?hy29⟩) (by assumption) ?rest29
      case hy29 => (intro w hSw; (try dsimp only at hSw); go_simp <;> with_reducible rfl)
      try simp only [Act.put, List.setIfInBounds_toArray, List.set_cons_zero, List.set_cons_succ]
      refine wpAnyH_take (i := 11) (oi := { dst := some 41, op := Go.Op.extract (Go.Operand.tmp 30) 0, type := 51, pos := "law.go:75", after := #[{ on := 10, ground := Go.Ground.data }], guard := none }) (v := ?v30) rfl (by kernel_rfl) (by kernel_rfl) (by kernel_rfl) (fun _ _ _ h => h) (Or.inl ⟨by rfl, ?hy30⟩) (by assumption) ?rest30
      case hy30 => (intro w hSw; (try dsimp only at hSw); go_simp <;> with_reducible rfl)
      try simp only [Act.put, List.setIfInBounds_toArray, List.set_cons_zero, List.set_cons_succ]
      refine wpAnyH_take (i := 12) (oi := { dst := some 42, op := Go.Op.extract (Go.Operand.tmp 30) 1, type := 29, pos := "law.go:75", after := #[{ on := 10, ground := Go.Ground.data }, { on := 14, ground := Go.Ground.gcOnly Go.Departure.lateStores }], guard := none }) (v := ?v31) rfl (by kernel_rfl) (by kernel_rfl) (by kernel_rfl) (fun _ _ _ h => h) (Or.inl ⟨by rfl, ?hy31⟩) (by assumption) ?rest31
      case hy31 => (intro w hSw; (try dsimp only at hSw); go_simp <;> with_reducible rfl)
      try simp only [Act.put, List.setIfInBounds_toArray, List.set_cons_zero, List.set_cons_succ]
      refine wpAnyH_ready (rs := [14]) (by kernel_rfl) (by simp) ?_
      refine AllReadyH.cons (o := { dst := none, op := Go.Op.store 51 (Go.Operand.tmp 10) (Go.Operand.tmp 41), type := 0, pos := "law.go:75", after := #[{ on := 13, ground := Go.Ground.data }, { on := 11, ground := Go.Ground.data }, { on := 9, ground := Go.Ground.chain }, { on := 0, ground := Go.Ground.phase }, { on := 1, ground := Go.Ground.phase }, { on := 2, ground := Go.Ground.phase }, { on := 3, ground := Go.Ground.phase }, { on := 4, ground := Go.Ground.phase }, { on := 5, ground := Go.Ground.phase }, { on := 6, ground := Go.Ground.phase }, { on := 7, ground := Go.Ground.phase }, { on := 8, ground := Go.Ground.phase }, { on := 9, ground := Go.Ground.phase }, { on := 10, ground := Go.Ground.phase }, { on := 11, ground := Go.Ground.phase }, { on := 12, ground := Go.Ground.textOnly Go.Departure.lateStores }, { on := 13, ground := Go.Ground.phase }], guard := none }) rfl (fun K hK => ?_) AllReadyH.nil
      replace B_xb := Lib.hid ((HX_wp.out.block xb (row_lt ((HX_wc.out.block xb (row_lt ((HX_wb.out.block xb (row_lt B_xb.out) ne_xb_b0).trans B_xb.out)) ne_xb_g2).trans ((HX_wb.out.block xb (row_lt B_xb.out) ne_xb_b0).trans B_xb.out))) id).trans ((HX_wc.out.block xb (row_lt ((HX_wb.out.block xb (row_lt B_xb.out) ne_xb_b0).trans B_xb.out)) ne_xb_g2).trans ((HX_wb.out.block xb (row_lt B_xb.out) ne_xb_b0).trans B_xb.out)))
      have cxb0 := row_cell (k := 0) (v := .int .u8 0) B_xb.out rfl
      have cxb1 := row_cell (k := 1) (v := .int .u16 0) B_xb.out rfl
      have cxb2 := row_cell (k := 2) (v := .bool false) B_xb.out rfl
      have cxb3 := row_cell (k := 3) (v := .bool false) B_xb.out rfl
      have cxb4 := row_cell (k := 4) (v := .int .i64 0) B_xb.out rfl
      have cxb5 := row_cell (k := 5) (v := .int .u8 0) B_xb.out rfl
      have cxb6 := row_cell (k := 6) (v := .int .u8 0) B_xb.out rfl
      have cxb7 := row_cell (k := 7) (v := .int .u32 0) B_xb.out rfl
      have cxb8 := row_cell (k := 8) (v := .int .u32 0) B_xb.out rfl
      have cxb9 := row_cell (k := 9) (v := .slice none 0 0) B_xb.out rfl
      have fxb0 := row_frozen B_xb.out 0
      have fxb1 := row_frozen B_xb.out 1
      have fxb2 := row_frozen B_xb.out 2
      have fxb3 := row_frozen B_xb.out 3
      have fxb4 := row_frozen B_xb.out 4
      have fxb5 := row_frozen B_xb.out 5
      have fxb6 := row_frozen B_xb.out 6
      have fxb7 := row_frozen B_xb.out 7
      have fxb8 := row_frozen B_xb.out 8
      have fxb9 := row_frozen B_xb.out 9
      go_simp
      have r0 : (wp.setCell ⟨xb, 0, none⟩ (.int .u8 xtos)).heap[xb]? = some (.cells #[.int .u8 xtos, .int .u16 0, .bool false, .bool false, .int .i64 0, .int .u8 0, .int .u8 0, .int .u32 0, .int .u32 0, .slice none 0 0] 51) := row_set B_xb.out 0 (.int .u8 xtos)
      have r1 : ((wp.setCell ⟨xb, 0, none⟩ (.int .u8 xtos)).setCell ⟨xb, 1, none⟩ (.int .u16 xid)).heap[xb]? = some (.cells #[.int .u8 xtos, .int .u16 xid, .bool false, .bool false, .int .i64 0, .int .u8 0, .int .u8 0, .int .u32 0, .int .u32 0, .slice none 0 0] 51) := row_set r0 1 (.int .u16 xid)
      clear r0
      have r2 : (((wp.setCell ⟨xb, 0, none⟩ (.int .u8 xtos)).setCell ⟨xb, 1, none⟩ (.int .u16 xid)).setCell ⟨xb, 2, none⟩ (.bool xdf)).heap[xb]? = some (.cells #[.int .u8 xtos, .int .u16 xid, .bool xdf, .bool false, .int .i64 0, .int .u8 0, .int .u8 0, .int .u32 0, .int .u32 0, .slice none 0 0] 51) := row_set r1 2 (.bool xdf)
      clear r1
      have r3 : ((((wp.setCell ⟨xb, 0, none⟩ (.int .u8 xtos)).setCell ⟨xb, 1, none⟩ (.int .u16 xid)).setCell ⟨xb, 2, none⟩ (.bool xdf)).setCell ⟨xb, 3, none⟩ (.bool xmf)).heap[xb]? = some (.cells #[.int .u8 xtos, .int .u16 xid, .bool xdf, .bool xmf, .int .i64 0, .int .u8 0, .int .u8 0, .int .u32 0, .int .u32 0, .slice none 0 0] 51) := row_set r2 3 (.bool xmf)
      clear r2
      have r4 : (((((wp.setCell ⟨xb, 0, none⟩ (.int .u8 xtos)).setCell ⟨xb, 1, none⟩ (.int .u16 xid)).setCell ⟨xb, 2, none⟩ (.bool xdf)).setCell ⟨xb, 3, none⟩ (.bool xmf)).setCell ⟨xb, 4, none⟩ (.int .i64 xoff)).heap[xb]? = some (.cells #[.int .u8 xtos, .int .u16 xid, .bool xdf, .bool xmf, .int .i64 xoff, .int .u8 0, .int .u8 0, .int .u32 0, .int .u32 0, .slice none 0 0] 51) := row_set r3 4 (.int .i64 xoff)
      clear r3
      have r5 : ((((((wp.setCell ⟨xb, 0, none⟩ (.int .u8 xtos)).setCell ⟨xb, 1, none⟩ (.int .u16 xid)).setCell ⟨xb, 2, none⟩ (.bool xdf)).setCell ⟨xb, 3, none⟩ (.bool xmf)).setCell ⟨xb, 4, none⟩ (.int .i64 xoff)).setCell ⟨xb, 5, none⟩ (.int .u8 xttl)).heap[xb]? = some (.cells #[.int .u8 xtos, .int .u16 xid, .bool xdf, .bool xmf, .int .i64 xoff, .int .u8 xttl, .int .u8 0, .int .u32 0, .int .u32 0, .slice none 0 0] 51) := row_set r4 5 (.int .u8 xttl)
      clear r4
      have r6 : (((((((wp.setCell ⟨xb, 0, none⟩ (.int .u8 xtos)).setCell ⟨xb, 1, none⟩ (.int .u16 xid)).setCell ⟨xb, 2, none⟩ (.bool xdf)).setCell ⟨xb, 3, none⟩ (.bool xmf)).setCell ⟨xb, 4, none⟩ (.int .i64 xoff)).setCell ⟨xb, 5, none⟩ (.int .u8 xttl)).setCell ⟨xb, 6, none⟩ (.int .u8 xpr)).heap[xb]? = some (.cells #[.int .u8 xtos, .int .u16 xid, .bool xdf, .bool xmf, .int .i64 xoff, .int .u8 xttl, .int .u8 xpr, .int .u32 0, .int .u32 0, .slice none 0 0] 51) := row_set r5 6 (.int .u8 xpr)
      clear r5
      have r7 : ((((((((wp.setCell ⟨xb, 0, none⟩ (.int .u8 xtos)).setCell ⟨xb, 1, none⟩ (.int .u16 xid)).setCell ⟨xb, 2, none⟩ (.bool xdf)).setCell ⟨xb, 3, none⟩ (.bool xmf)).setCell ⟨xb, 4, none⟩ (.int .i64 xoff)).setCell ⟨xb, 5, none⟩ (.int .u8 xttl)).setCell ⟨xb, 6, none⟩ (.int .u8 xpr)).setCell ⟨xb, 7, none⟩ (.int .u32 xsrc)).heap[xb]? = some (.cells #[.int .u8 xtos, .int .u16 xid, .bool xdf, .bool xmf, .int .i64 xoff, .int .u8 xttl, .int .u8 xpr, .int .u32 xsrc, .int .u32 0, .slice none 0 0] 51) := row_set r6 7 (.int .u32 xsrc)
      clear r6
      have r8 : (((((((((wp.setCell ⟨xb, 0, none⟩ (.int .u8 xtos)).setCell ⟨xb, 1, none⟩ (.int .u16 xid)).setCell ⟨xb, 2, none⟩ (.bool xdf)).setCell ⟨xb, 3, none⟩ (.bool xmf)).setCell ⟨xb, 4, none⟩ (.int .i64 xoff)).setCell ⟨xb, 5, none⟩ (.int .u8 xttl)).setCell ⟨xb, 6, none⟩ (.int .u8 xpr)).setCell ⟨xb, 7, none⟩ (.int .u32 xsrc)).setCell ⟨xb, 8, none⟩ (.int .u32 xdst)).heap[xb]? = some (.cells #[.int .u8 xtos, .int .u16 xid, .bool xdf, .bool xmf, .int .i64 xoff, .int .u8 xttl, .int .u8 xpr, .int .u32 xsrc, .int .u32 xdst, .slice none 0 0] 51) := row_set r7 8 (.int .u32 xdst)
      clear r7
      have r9 : ((((((((((wp.setCell ⟨xb, 0, none⟩ (.int .u8 xtos)).setCell ⟨xb, 1, none⟩ (.int .u16 xid)).setCell ⟨xb, 2, none⟩ (.bool xdf)).setCell ⟨xb, 3, none⟩ (.bool xmf)).setCell ⟨xb, 4, none⟩ (.int .i64 xoff)).setCell ⟨xb, 5, none⟩ (.int .u8 xttl)).setCell ⟨xb, 6, none⟩ (.int .u8 xpr)).setCell ⟨xb, 7, none⟩ (.int .u32 xsrc)).setCell ⟨xb, 8, none⟩ (.int .u32 xdst)).setCell ⟨xb, 9, none⟩ (.slice A9 xl.length xl.length)).heap[xb]? = some (.cells #[.int .u8 xtos, .int .u16 xid, .bool xdf, .bool xmf, .int .i64 xoff, .int .u8 xttl, .int .u8 xpr, .int .u32 xsrc, .int .u32 xdst, .slice A9 xl.length xl.length] 51) := row_set r8 9 (.slice A9 xl.length xl.length)
      clear r8
      have hx : Ex (fun j => j = xb) wp ((((((((((wp.setCell ⟨xb, 0, none⟩ (.int .u8 xtos)).setCell ⟨xb, 1, none⟩ (.int .u16 xid)).setCell ⟨xb, 2, none⟩ (.bool xdf)).setCell ⟨xb, 3, none⟩ (.bool xmf)).setCell ⟨xb, 4, none⟩ (.int .i64 xoff)).setCell ⟨xb, 5, none⟩ (.int .u8 xttl)).setCell ⟨xb, 6, none⟩ (.int .u8 xpr)).setCell ⟨xb, 7, none⟩ (.int .u32 xsrc)).setCell ⟨xb, 8, none⟩ (.int .u32 xdst)).setCell ⟨xb, 9, none⟩ (.slice A9 xl.length xl.length)) := (((((((((((Ex.refl (fun j => j = xb) wp).setCell (p := ⟨xb, 0, none⟩) (.inl rfl) (.int .u8 xtos)).setCell (p := ⟨xb, 1, none⟩) (.inl rfl) (.int .u16 xid)).setCell (p := ⟨xb, 2, none⟩) (.inl rfl) (.bool xdf)).setCell (p := ⟨xb, 3, none⟩) (.inl rfl) (.bool xmf)).setCell (p := ⟨xb, 4, none⟩) (.inl rfl) (.int .i64 xoff)).setCell (p := ⟨xb, 5, none⟩) (.inl rfl) (.int .u8 xttl)).setCell (p := ⟨xb, 6, none⟩) (.inl rfl) (.int .u8 xpr)).setCell (p := ⟨xb, 7, none⟩) (.inl rfl) (.int .u32 xsrc)).setCell (p := ⟨xb, 8, none⟩) (.inl rfl) (.int .u32 xdst)).setCell (p := ⟨xb, 9, none⟩) (.inl rfl) (.slice A9 xl.length xl.length))
      clear cxb0 cxb1 cxb2 cxb3 cxb4 cxb5 cxb6 cxb7 cxb8 cxb9 fxb0 fxb1 fxb2 fxb3 fxb4 fxb5 fxb6 fxb7 fxb8 fxb9
      generalize ((((((((((wp.setCell ⟨xb, 0, none⟩ (.int .u8 xtos)).setCell ⟨xb, 1, none⟩ (.int .u16 xid)).setCell ⟨xb, 2, none⟩ (.bool xdf)).setCell ⟨xb, 3, none⟩ (.bool xmf)).setCell ⟨xb, 4, none⟩ (.int .i64 xoff)).setCell ⟨xb, 5, none⟩ (.int .u8 xttl)).setCell ⟨xb, 6, none⟩ (.int .u8 xpr)).setCell ⟨xb, 7, none⟩ (.int .u32 xsrc)).setCell ⟨xb, 8, none⟩ (.int .u32 xdst)).setCell ⟨xb, 9, none⟩ (.slice A9 xl.length xl.length)) = wf at r9 hx ⊢
      replace B_xb := Lib.hid r9
      clear r9
      have HX_wf := Lib.hid hx
      clear hx
      have hS : Ex (fun _ => False) w6 wf := ((((((HX_wd.out.trans HX_wa.out).trans HX_we.out).andThen HX_wb.out (fun i hi e => by have := HX_wd.out.size; have := hb_b0; omega)).andThen HX_wc.out (fun i hi e => by have := hb_g2; omega)).trans HX_wp.out).andThen HX_wf.out (fun i hi e => by have := (HX_wd.out.trans HX_wa.out).size; have := hb_xb; omega))
      refine hK.out _ _ hS (fun _ => ?_)
      refine wpAnyH_take (i := 15) (oi := { dst := some 11, op := Go.Op.assign (Go.Operand.tmp 42), type := 29, pos := "law.go:75", after := #[{ on := 12, ground := Go.Ground.data }, { on := 14, ground := Go.Ground.chain }, { on := 0, ground := Go.Ground.phase }, { on := 1, ground := Go.Ground.phase }, { on := 2, ground := Go.Ground.phase }, { on := 3, ground := Go.Ground.phase }, { on := 4, ground := Go.Ground.phase }, { on := 5, ground := Go.Ground.phase }, { on := 6, ground := Go.Ground.phase }, { on := 7, ground := Go.Ground.phase }, { on := 8, ground := Go.Ground.phase }, { on := 9, ground := Go.Ground.phase }, { on := 10, ground := Go.Ground.phase }, { on := 11, ground := Go.Ground.phase }, { on := 12, ground := Go.Ground.phase }, { on := 13, ground := Go.Ground.phase }, { on := 14, ground := Go.Ground.phase }], guard := none }) (v := ?v32) rfl (by kernel_rfl) (by kernel_rfl) (by kernel_rfl) (fun _ _ _ h => h) (Or.inl ⟨by rfl, ?hy32⟩) (by assumption) ?rest32
      case hy32 => (intro w hSw; (try dsimp only at hSw); go_simp <;> with_reducible rfl)
      try simp only [Act.put, List.setIfInBounds_toArray, List.set_cons_zero, List.set_cons_succ]
      refine wpAnyH_done (by kernel_rfl) ?_ _
      go_wp2_with fail
      go_meet
      exact ⟨xb, A9, rfl, rfl, Lib.hid B_xb.out, Lib.hid (RB.any (RB.keep HB9.out HX_wf.out (fun k _ hk e => ne_g9_xb (hk.symm.trans e)))), Lib.hid ((((((HX_wd.out.trans HX_wa.out).trans HX_we.out).andThen HX_wb.out (fun i hi e => by have := HX_wd.out.size; have := hb_b0; omega)).andThen HX_wc.out (fun i hi e => by have := hb_g2; omega)).trans HX_wp.out).andThen HX_wf.out (fun i hi e => by have := (HX_wd.out.trans HX_wa.out).size; have := hb_xb; omega))⟩
    refine AllReadyH.cons (o := { dst := some 10, op := Go.Op.alloc 51, type := 0, pos := "law.go:75", after := #[], guard := none }) rfl (fun K hK => ?_) AllReadyH.nil
    go_simp
    have hx : Ex (fun _ => False) wd (wd.alloc (.cells #[.int .u8 0, .int .u16 0, .bool false, .bool false, .int .i64 0, .int .u8 0, .int .u8 0, .int .u32 0, .int .u32 0, .slice none 0 0] 51)) := (Ex.refl _ wd).alloc _
    have hb : (wd.alloc (.cells #[.int .u8 0, .int .u16 0, .bool false, .bool false, .int .i64 0, .int .u8 0, .int .u8 0, .int .u32 0, .int .u32 0, .slice none 0 0] 51)).heap[wd.heap.size]? = some (.cells #[.int .u8 0, .int .u16 0, .bool false, .bool false, .int .i64 0, .int .u8 0, .int .u8 0, .int .u32 0, .int .u32 0, .slice none 0 0] 51) := heap_alloc_new wd _
    obtain ⟨xb, hxb⟩ : ∃ xb, xb = wd.heap.size := ⟨_, rfl⟩
    have hb_xb : wd.heap.size ≤ xb := by omega
    rw [← hxb] at hb
    try simp only [← hxb]
    generalize wd.alloc (.cells #[.int .u8 0, .int .u16 0, .bool false, .bool false, .int .i64 0, .int .u8 0, .int .u8 0, .int .u32 0, .int .u32 0, .slice none 0 0] 51) = we at hx hb ⊢
    clear hxb
    have HX_we := Lib.hid hx
    clear hx
    have B_xb := Lib.hid hb
    clear hb
    have hS : Ex (fun _ => False) w6 we := (HX_wd.out.trans HX_we.out)
    refine hK.out _ _ hS (fun _ => ?_)
    refine wpAnyH_ready (rs := [0]) (by kernel_rfl) (by simp) ?_
    refine AllReadyH.cons (o := { dst := some 31, op := Go.Op.buildSlice 22 0 #[], type := 22, pos := "law.go:75", after := #[], guard := none }) rfl (fun K hK => ?_) AllReadyH.nil
    go_simp
    have hx : Ex (fun _ => False) we (we.alloc (.cells #[] 5)) := (Ex.refl _ we).alloc _
    have hsz := (HX_wd.out.trans HX_we.out).size
    have hob : OB (we.alloc (.cells #[] 5)) w6.heap.size (.slice (some ⟨we.heap.size, 0, none⟩) 0 0) [] := OB.lit we w6.heap.size [] hsz (by simp)
    have hlt_b0 : we.heap.size < (we.alloc (.cells #[] 5)).heap.size := by simp
    obtain ⟨b0, hb0⟩ : ∃ b, b = we.heap.size := ⟨_, rfl⟩
    have hb_b0 : we.heap.size ≤ b0 := by omega
    rw [← hb0] at hob hlt_b0
    try simp only [← hb0]
    generalize we.alloc (.cells #[] 5) = wa at hx hob hlt_b0 ⊢
    clear hb0
    have hsx := row_lt B_xb.out
    have ne_xb_b0 : xb ≠ b0 := by omega
    clear hsx
    have HX_wa := Lib.hid hx
    clear hx
    have HOa := Lib.hid hob
    clear hob hsz
    have hS : Ex (fun _ => False) w6 wa := ((HX_wd.out.trans HX_we.out).trans HX_wa.out)
    refine hK.out _ _ hS (fun _ => ?_)
    refine wpAnyH_ready (rs := [2]) (by kernel_rfl) (by simp) ?_
    refine AllReadyH.cons (o := { dst := some 33, op := Go.Op.call { callee := Go.Callee.builtin Go.Builtin.append, args := #[Go.Operand.tmp 31, Go.Operand.tmp 32], argTypes := #[22, 22] }, type := 22, pos := "law.go:75", after := #[{ on := 0, ground := Go.Ground.data }, { on := 1, ground := Go.Ground.data }], guard := none }) rfl (fun K hK => ?_) AllReadyH.nil
    have hsz := ((HX_wd.out.trans HX_we.out).trans HX_wa.out).size
    refine step_append_ob i0 22 Tryd.underlying22 hi hz0 hz1 hz2 rfl (.tmp 31) (.tmp 32) rfl w6.heap.size (.slice (some ⟨b0, 0, none⟩) 0 0) [] rfl (fun _ => True) (.slice (some ⟨g5, 0, none⟩) M5.length c5) M5 rfl HOa.out (RB.any (OB.keep HO5.out ((HX_wd.out.trans HX_we.out).trans HX_wa.out) (fun _ _ _ _ => id)).rb) (by simp; omega) hsz ?_
    intro A2 c2 wb ho3 hg3 hn3 hb3
    try simp only [Act.put, List.setIfInBounds_toArray, List.set_cons_zero, List.set_cons_succ]
    have hs2 : ∃ a, A2 = some a := by
      cases A2 with
      | none => exact absurd (hn3.1 rfl).1 (by simp)
      | some a => exact ⟨a, rfl⟩
    obtain ⟨A2, rfl⟩ := hs2
    have ho : OB wb w6.heap.size (.slice (some A2) M5.length c2) M5 := by simpa using ho3
    try simp only [List.length_nil, Nat.zero_add]
    obtain ⟨g2, rfl, hb_g2, hlt_g2⟩ := ho.plain
    have hx : Ex (fun j => j = b0) wa wb := (Ex.refl _ wa).grown hg3 (fun k hk => .inl (by obtain rfl := Option.some.inj hk; rfl))
    have hg2 : g2 = b0 ∨ g2 = wa.heap.size := by
      rcases hb3 with h | h
      · exact .inl (Option.some.inj h)
      · exact .inr (Option.some.inj h)
    clear ho3 hg3 hn3 hb3
    have hlx := row_lt ((HX_wa.out.block xb (row_lt B_xb.out) id).trans B_xb.out)
    have hsx := trivial
    have ne_xb_g2 : xb ≠ g2 := by omega
    clear hlx hsx
    have HX_wb := Lib.hid hx
    clear hx
    have HOb := Lib.hid ho
    clear ho hsz hg2
    have hS : Ex (fun _ => False) w6 wb := (((HX_wd.out.trans HX_we.out).trans HX_wa.out).andThen HX_wb.out (fun i hi e => by have := (HX_wd.out.trans HX_we.out).size; have := hb_b0; omega))
    refine hK.out _ _ hS (fun _ => ?_)
    refine wpAnyH_ready (rs := [8]) (by kernel_rfl) (by simp) ?_
    refine AllReadyH.cons (o := { dst := some 39, op := Go.Op.call { callee := Go.Callee.builtin Go.Builtin.append, args := #[Go.Operand.tmp 33, Go.Operand.tmp 38], argTypes := #[22, 22] }, type := 22, pos := "law.go:75", after := #[{ on := 2, ground := Go.Ground.data }, { on := 7, ground := Go.Ground.data }, { on := 2, ground := Go.Ground.chain }], guard := none }) rfl (fun K hK => ?_) AllReadyH.nil
    have hsz := (((HX_wd.out.trans HX_we.out).trans HX_wa.out).andThen HX_wb.out (fun i hi e => by have := (HX_wd.out.trans HX_we.out).size; have := hb_b0; omega)).size
    refine step_append_ob i0 22 Tryd.underlying22 hi hz0 hz1 hz2 rfl (.tmp 33) (.tmp 38) rfl w6.heap.size (.slice (some ⟨g2, 0, none⟩) M5.length c2) M5 rfl (fun _ => True) (.slice B r1.length cb) r1 rfl HOb.out (RB.keep HR.out (((HX_wd.out.trans HX_we.out).trans HX_wa.out).andThen HX_wb.out (fun i hi e => by have := (HX_wd.out.trans HX_we.out).size; have := hb_b0; omega)) (fun _ _ _ => id)) (by omega) hsz ?_
    intro A3 c3 wc ho3 hg3 hn3 hb3
    try simp only [Act.put, List.setIfInBounds_toArray, List.set_cons_zero, List.set_cons_succ]
    have hs2 : ∃ a, A3 = some a := by
      cases A3 with
      | none => exact absurd (hn3.1 rfl).1 (by simp)
      | some a => exact ⟨a, rfl⟩
    obtain ⟨A3, rfl⟩ := hs2
    have hx : Ex (fun j => j = g2) wb wc := (Ex.refl _ wb).grown hg3 (fun k hk => .inl (by obtain rfl := Option.some.inj hk; rfl))
    have HOc : Hid (OB wc w6.heap.size (.slice (some A3) (M5.length + r1.length) c3) (M5 ++ r1)) := Lib.hid ho3
    clear ho3 hg3 hn3 hb3
    have HX_wc := Lib.hid hx
    clear hx
    clear hsz
    have hS : Ex (fun _ => False) w6 wc := ((((HX_wd.out.trans HX_we.out).trans HX_wa.out).andThen HX_wb.out (fun i hi e => by have := (HX_wd.out.trans HX_we.out).size; have := hb_b0; omega)).andThen HX_wc.out (fun i hi e => by have := hb_g2; omega))
    refine hK.out _ _ hS (fun _ => ?_)
    refine wpAnyH_ready (rs := [9]) (by kernel_rfl) (by simp) ?_
    refine AllReadyH.cons (o := { dst := some 40, op := Go.Op.call { callee := Go.Callee.value (Go.Operand.func 24), args := #[Go.Operand.tmp 39], argTypes := #[22] }, type := 52, pos := "law.go:75", after := #[{ on := 8, ground := Go.Ground.data }, { on := 8, ground := Go.Ground.chain }], guard := none }) rfl (fun K hK => ?_) AllReadyH.nil
    go_simp
    refine (ipparse_yes _ (some A3) (M5.length + r1.length) c3 (M5 ++ r1) wc HOc.out.rb (fun h => by cases h) (by rw [List.length_append]; omega) (⟨xtos, xid, xdf, xmf, xoff, xttl, xpr, xsrc, xdst, xl⟩ : Pk) HPA.out.1 HPA.out.2).mono ?_
    rintro e wp ⟨A9, g9, o9, rfl, hg9, hb9, _, hx⟩
    have hv : pkv (⟨xtos, xid, xdf, xmf, xoff, xttl, xpr, xsrc, xdst, xl⟩ : Pk) (.slice A9 (⟨xtos, xid, xdf, xmf, xoff, xttl, xpr, xsrc, xdst, xl⟩ : Pk).b.length (⟨xtos, xid, xdf, xmf, xoff, xttl, xpr, xsrc, xdst, xl⟩ : Pk).b.length) = .agg #[.int .u8 xtos, .int .u16 xid, .bool xdf, .bool xmf, .int .i64 xoff, .int .u8 xttl, .int .u8 xpr, .int .u32 xsrc, .int .u32 xdst, .slice A9 xl.length xl.length] := rfl
    rw [hv]
    clear hv
    have hb9' : RB wp (fun j => j = g9) (.slice A9 xl.length xl.length) xl := hb9
    clear hb9
    have hlx := row_lt ((HX_wc.out.block xb (row_lt (((HX_wa.out.andThen HX_wb.out (fun i hi e => by have := hb_b0; omega)).block xb (row_lt B_xb.out) id).trans B_xb.out)) ne_xb_g2).trans (((HX_wa.out.andThen HX_wb.out (fun i hi e => by have := hb_b0; omega)).block xb (row_lt B_xb.out) id).trans B_xb.out))
    have ne_g9_xb : g9 ≠ xb := by omega
    clear hlx
    have HX_wp := Lib.hid hx
    clear hx
    have HB9 := Lib.hid hb9'
    clear hb9'
    have hS : Ex (fun _ => False) w6 wp := (((((HX_wd.out.trans HX_we.out).trans HX_wa.out).andThen HX_wb.out (fun i hi e => by have := (HX_wd.out.trans HX_we.out).size; have := hb_b0; omega)).andThen HX_wc.out (fun i hi e => by have := hb_g2; omega)).trans HX_wp.out)
    refine hK.out _ _ hS (fun _ => ?_)
    refine wpAnyH_take (i := 10) (oi := { dst := some 30, op := Go.Op.move (Go.Operand.tmp 40), type := 52, pos := "law.go:75", after := #[{ on := 9, ground := Go.Ground.data }], guard := none }) (v := ?v33) rfl (by kernel_rfl) (by kernel_rfl) (by kernel_rfl) (fun _ _ _ h => h) (Or.inl ⟨by rfl, ?hy33⟩) (by assumption) ?rest33
    case hy33 => (intro w hSw; (try dsimp only at hSw); go_simp <;> with_reducible rfl)
    try simp only [Act.put, List.setIfInBounds_toArray, List.set_cons_zero, List.set_cons_succ]
    refine wpAnyH_take (i := 11) (oi := { dst := some 41, op := Go.Op.extract (Go.Operand.tmp 30) 0, type := 51, pos := "law.go:75", after := #[{ on := 10, ground := Go.Ground.data }], guard := none }) (v := ?v34) rfl (by kernel_rfl) (by kernel_rfl) (by kernel_rfl) (fun _ _ _ h => h) (Or.inl ⟨by rfl, ?hy34⟩) (by assumption) ?rest34
    case hy34 => (intro w hSw; (try dsimp only at hSw); go_simp <;> with_reducible rfl)
    try simp only [Act.put, List.setIfInBounds_toArray, List.set_cons_zero, List.set_cons_succ]
    refine wpAnyH_take (i := 12) (oi := { dst := some 42, op := Go.Op.extract (Go.Operand.tmp 30) 1, type := 29, pos := "law.go:75", after := #[{ on := 10, ground := Go.Ground.data }, { on := 14, ground := Go.Ground.gcOnly Go.Departure.lateStores }], guard := none }) (v := ?v35) rfl (by kernel_rfl) (by kernel_rfl) (by kernel_rfl) (fun _ _ _ h => h) (Or.inl ⟨by rfl, ?hy35⟩) (by assumption) ?rest35
    case hy35 => (intro w hSw; (try dsimp only at hSw); go_simp <;> with_reducible rfl)
    try simp only [Act.put, List.setIfInBounds_toArray, List.set_cons_zero, List.set_cons_succ]
    refine wpAnyH_ready (rs := [14]) (by kernel_rfl) (by simp) ?_
    refine AllReadyH.cons (o := { dst := none, op := Go.Op.store 51 (Go.Operand.tmp 10) (Go.Operand.tmp 41), type := 0, pos := "law.go:75", after := #[{ on := 13, ground := Go.Ground.data }, { on := 11, ground := Go.Ground.data }, { on := 9, ground := Go.Ground.chain }, { on := 0, ground := Go.Ground.phase }, { on := 1, ground := Go.Ground.phase }, { on := 2, ground := Go.Ground.phase }, { on := 3, ground := Go.Ground.phase }, { on := 4, ground := Go.Ground.phase }, { on := 5, ground := Go.Ground.phase }, { on := 6, ground := Go.Ground.phase }, { on := 7, ground := Go.Ground.phase }, { on := 8, ground := Go.Ground.phase }, { on := 9, ground := Go.Ground.phase }, { on := 10, ground := Go.Ground.phase }, { on := 11, ground := Go.Ground.phase }, { on := 12, ground := Go.Ground.textOnly Go.Departure.lateStores }, { on := 13, ground := Go.Ground.phase }], guard := none }) rfl (fun K hK => ?_) AllReadyH.nil
    replace B_xb := Lib.hid ((HX_wp.out.block xb (row_lt ((HX_wc.out.block xb (row_lt (((HX_wa.out.andThen HX_wb.out (fun i hi e => by have := hb_b0; omega)).block xb (row_lt B_xb.out) id).trans B_xb.out)) ne_xb_g2).trans (((HX_wa.out.andThen HX_wb.out (fun i hi e => by have := hb_b0; omega)).block xb (row_lt B_xb.out) id).trans B_xb.out))) id).trans ((HX_wc.out.block xb (row_lt (((HX_wa.out.andThen HX_wb.out (fun i hi e => by have := hb_b0; omega)).block xb (row_lt B_xb.out) id).trans B_xb.out)) ne_xb_g2).trans (((HX_wa.out.andThen HX_wb.out (fun i hi e => by have := hb_b0; omega)).block xb (row_lt B_xb.out) id).trans B_xb.out)))
    have cxb0 := row_cell (k := 0) (v := .int .u8 0) B_xb.out rfl
    have cxb1 := row_cell (k := 1) (v := .int .u16 0) B_xb.out rfl
    have cxb2 := row_cell (k := 2) (v := .bool false) B_xb.out rfl
    have cxb3 := row_cell (k := 3) (v := .bool false) B_xb.out rfl
    have cxb4 := row_cell (k := 4) (v := .int .i64 0) B_xb.out rfl
    have cxb5 := row_cell (k := 5) (v := .int .u8 0) B_xb.out rfl
    have cxb6 := row_cell (k := 6) (v := .int .u8 0) B_xb.out rfl
    have cxb7 := row_cell (k := 7) (v := .int .u32 0) B_xb.out rfl
    have cxb8 := row_cell (k := 8) (v := .int .u32 0) B_xb.out rfl
    have cxb9 := row_cell (k := 9) (v := .slice none 0 0) B_xb.out rfl
    have fxb0 := row_frozen B_xb.out 0
    have fxb1 := row_frozen B_xb.out 1
    have fxb2 := row_frozen B_xb.out 2
    have fxb3 := row_frozen B_xb.out 3
    have fxb4 := row_frozen B_xb.out 4
    have fxb5 := row_frozen B_xb.out 5
    have fxb6 := row_frozen B_xb.out 6
    have fxb7 := row_frozen B_xb.out 7
    have fxb8 := row_frozen B_xb.out 8
    have fxb9 := row_frozen B_xb.out 9
    go_simp
    have r0 : (wp.setCell ⟨xb, 0, none⟩ (.int .u8 xtos)).heap[xb]? = some (.cells #[.int .u8 xtos, .int .u16 0, .bool false, .bool false, .int .i64 0, .int .u8 0, .int .u8 0, .int .u32 0, .int .u32 0, .slice none 0 0] 51) := row_set B_xb.out 0 (.int .u8 xtos)
    have r1 : ((wp.setCell ⟨xb, 0, none⟩ (.int .u8 xtos)).setCell ⟨xb, 1, none⟩ (.int .u16 xid)).heap[xb]? = some (.cells #[.int .u8 xtos, .int .u16 xid, .bool false, .bool false, .int .i64 0, .int .u8 0, .int .u8 0, .int .u32 0, .int .u32 0, .slice none 0 0] 51) := row_set r0 1 (.int .u16 xid)
    clear r0
    have r2 : (((wp.setCell ⟨xb, 0, none⟩ (.int .u8 xtos)).setCell ⟨xb, 1, none⟩ (.int .u16 xid)).setCell ⟨xb, 2, none⟩ (.bool xdf)).heap[xb]? = some (.cells #[.int .u8 xtos, .int .u16 xid, .bool xdf, .bool false, .int .i64 0, .int .u8 0, .int .u8 0, .int .u32 0, .int .u32 0, .slice none 0 0] 51) := row_set r1 2 (.bool xdf)
    clear r1
    have r3 : ((((wp.setCell ⟨xb, 0, none⟩ (.int .u8 xtos)).setCell ⟨xb, 1, none⟩ (.int .u16 xid)).setCell ⟨xb, 2, none⟩ (.bool xdf)).setCell ⟨xb, 3, none⟩ (.bool xmf)).heap[xb]? = some (.cells #[.int .u8 xtos, .int .u16 xid, .bool xdf, .bool xmf, .int .i64 0, .int .u8 0, .int .u8 0, .int .u32 0, .int .u32 0, .slice none 0 0] 51) := row_set r2 3 (.bool xmf)
    clear r2
    have r4 : (((((wp.setCell ⟨xb, 0, none⟩ (.int .u8 xtos)).setCell ⟨xb, 1, none⟩ (.int .u16 xid)).setCell ⟨xb, 2, none⟩ (.bool xdf)).setCell ⟨xb, 3, none⟩ (.bool xmf)).setCell ⟨xb, 4, none⟩ (.int .i64 xoff)).heap[xb]? = some (.cells #[.int .u8 xtos, .int .u16 xid, .bool xdf, .bool xmf, .int .i64 xoff, .int .u8 0, .int .u8 0, .int .u32 0, .int .u32 0, .slice none 0 0] 51) := row_set r3 4 (.int .i64 xoff)
    clear r3
    have r5 : ((((((wp.setCell ⟨xb, 0, none⟩ (.int .u8 xtos)).setCell ⟨xb, 1, none⟩ (.int .u16 xid)).setCell ⟨xb, 2, none⟩ (.bool xdf)).setCell ⟨xb, 3, none⟩ (.bool xmf)).setCell ⟨xb, 4, none⟩ (.int .i64 xoff)).setCell ⟨xb, 5, none⟩ (.int .u8 xttl)).heap[xb]? = some (.cells #[.int .u8 xtos, .int .u16 xid, .bool xdf, .bool xmf, .int .i64 xoff, .int .u8 xttl, .int .u8 0, .int .u32 0, .int .u32 0, .slice none 0 0] 51) := row_set r4 5 (.int .u8 xttl)
    clear r4
    have r6 : (((((((wp.setCell ⟨xb, 0, none⟩ (.int .u8 xtos)).setCell ⟨xb, 1, none⟩ (.int .u16 xid)).setCell ⟨xb, 2, none⟩ (.bool xdf)).setCell ⟨xb, 3, none⟩ (.bool xmf)).setCell ⟨xb, 4, none⟩ (.int .i64 xoff)).setCell ⟨xb, 5, none⟩ (.int .u8 xttl)).setCell ⟨xb, 6, none⟩ (.int .u8 xpr)).heap[xb]? = some (.cells #[.int .u8 xtos, .int .u16 xid, .bool xdf, .bool xmf, .int .i64 xoff, .int .u8 xttl, .int .u8 xpr, .int .u32 0, .int .u32 0, .slice none 0 0] 51) := row_set r5 6 (.int .u8 xpr)
    clear r5
    have r7 : ((((((((wp.setCell ⟨xb, 0, none⟩ (.int .u8 xtos)).setCell ⟨xb, 1, none⟩ (.int .u16 xid)).setCell ⟨xb, 2, none⟩ (.bool xdf)).setCell ⟨xb, 3, none⟩ (.bool xmf)).setCell ⟨xb, 4, none⟩ (.int .i64 xoff)).setCell ⟨xb, 5, none⟩ (.int .u8 xttl)).setCell ⟨xb, 6, none⟩ (.int .u8 xpr)).setCell ⟨xb, 7, none⟩ (.int .u32 xsrc)).heap[xb]? = some (.cells #[.int .u8 xtos, .int .u16 xid, .bool xdf, .bool xmf, .int .i64 xoff, .int .u8 xttl, .int .u8 xpr, .int .u32 xsrc, .int .u32 0, .slice none 0 0] 51) := row_set r6 7 (.int .u32 xsrc)
    clear r6
    have r8 : (((((((((wp.setCell ⟨xb, 0, none⟩ (.int .u8 xtos)).setCell ⟨xb, 1, none⟩ (.int .u16 xid)).setCell ⟨xb, 2, none⟩ (.bool xdf)).setCell ⟨xb, 3, none⟩ (.bool xmf)).setCell ⟨xb, 4, none⟩ (.int .i64 xoff)).setCell ⟨xb, 5, none⟩ (.int .u8 xttl)).setCell ⟨xb, 6, none⟩ (.int .u8 xpr)).setCell ⟨xb, 7, none⟩ (.int .u32 xsrc)).setCell ⟨xb, 8, none⟩ (.int .u32 xdst)).heap[xb]? = some (.cells #[.int .u8 xtos, .int .u16 xid, .bool xdf, .bool xmf, .int .i64 xoff, .int .u8 xttl, .int .u8 xpr, .int .u32 xsrc, .int .u32 xdst, .slice none 0 0] 51) := row_set r7 8 (.int .u32 xdst)
    clear r7
    have r9 : ((((((((((wp.setCell ⟨xb, 0, none⟩ (.int .u8 xtos)).setCell ⟨xb, 1, none⟩ (.int .u16 xid)).setCell ⟨xb, 2, none⟩ (.bool xdf)).setCell ⟨xb, 3, none⟩ (.bool xmf)).setCell ⟨xb, 4, none⟩ (.int .i64 xoff)).setCell ⟨xb, 5, none⟩ (.int .u8 xttl)).setCell ⟨xb, 6, none⟩ (.int .u8 xpr)).setCell ⟨xb, 7, none⟩ (.int .u32 xsrc)).setCell ⟨xb, 8, none⟩ (.int .u32 xdst)).setCell ⟨xb, 9, none⟩ (.slice A9 xl.length xl.length)).heap[xb]? = some (.cells #[.int .u8 xtos, .int .u16 xid, .bool xdf, .bool xmf, .int .i64 xoff, .int .u8 xttl, .int .u8 xpr, .int .u32 xsrc, .int .u32 xdst, .slice A9 xl.length xl.length] 51) := row_set r8 9 (.slice A9 xl.length xl.length)
    clear r8
    have hx : Ex (fun j => j = xb) wp ((((((((((wp.setCell ⟨xb, 0, none⟩ (.int .u8 xtos)).setCell ⟨xb, 1, none⟩ (.int .u16 xid)).setCell ⟨xb, 2, none⟩ (.bool xdf)).setCell ⟨xb, 3, none⟩ (.bool xmf)).setCell ⟨xb, 4, none⟩ (.int .i64 xoff)).setCell ⟨xb, 5, none⟩ (.int .u8 xttl)).setCell ⟨xb, 6, none⟩ (.int .u8 xpr)).setCell ⟨xb, 7, none⟩ (.int .u32 xsrc)).setCell ⟨xb, 8, none⟩ (.int .u32 xdst)).setCell ⟨xb, 9, none⟩ (.slice A9 xl.length xl.length)) := (((((((((((Ex.refl (fun j => j = xb) wp).setCell (p := ⟨xb, 0, none⟩) (.inl rfl) (.int .u8 xtos)).setCell (p := ⟨xb, 1, none⟩) (.inl rfl) (.int .u16 xid)).setCell (p := ⟨xb, 2, none⟩) (.inl rfl) (.bool xdf)).setCell (p := ⟨xb, 3, none⟩) (.inl rfl) (.bool xmf)).setCell (p := ⟨xb, 4, none⟩) (.inl rfl) (.int .i64 xoff)).setCell (p := ⟨xb, 5, none⟩) (.inl rfl) (.int .u8 xttl)).setCell (p := ⟨xb, 6, none⟩) (.inl rfl) (.int .u8 xpr)).setCell (p := ⟨xb, 7, none⟩) (.inl rfl) (.int .u32 xsrc)).setCell (p := ⟨xb, 8, none⟩) (.inl rfl) (.int .u32 xdst)).setCell (p := ⟨xb, 9, none⟩) (.inl rfl) (.slice A9 xl.length xl.length))
    clear cxb0 cxb1 cxb2 cxb3 cxb4 cxb5 cxb6 cxb7 cxb8 cxb9 fxb0 fxb1 fxb2 fxb3 fxb4 fxb5 fxb6 fxb7 fxb8 fxb9
    generalize ((((((((((wp.setCell ⟨xb, 0, none⟩ (.int .u8 xtos)).setCell ⟨xb, 1, none⟩ (.int .u16 xid)).setCell ⟨xb, 2, none⟩ (.bool xdf)).setCell ⟨xb, 3, none⟩ (.bool xmf)).setCell ⟨xb, 4, none⟩ (.int .i64 xoff)).setCell ⟨xb, 5, none⟩ (.int .u8 xttl)).setCell ⟨xb, 6, none⟩ (.int .u8 xpr)).setCell ⟨xb, 7, none⟩ (.int .u32 xsrc)).setCell ⟨xb, 8, none⟩ (.int .u32 xdst)).setCell ⟨xb, 9, none⟩ (.slice A9 xl.length xl.length)) = wf at r9 hx ⊢
    replace B_xb := Lib.hid r9
    clear r9
    have HX_wf := Lib.hid hx
    clear hx
    have hS : Ex (fun _ => False) w6 wf := ((((((HX_wd.out.trans HX_we.out).trans HX_wa.out).andThen HX_wb.out (fun i hi e => by have := (HX_wd.out.trans HX_we.out).size; have := hb_b0; omega)).andThen HX_wc.out (fun i hi e => by have := hb_g2; omega)).trans HX_wp.out).andThen HX_wf.out (fun i hi e => by have := HX_wd.out.size; have := hb_xb; omega))
    refine hK.out _ _ hS (fun _ => ?_)
    refine wpAnyH_take (i := 15) (oi := { dst := some 11, op := Go.Op.assign (Go.Operand.tmp 42), type := 29, pos := "law.go:75", after := #[{ on := 12, ground := Go.Ground.data }, { on := 14, ground := Go.Ground.chain }, { on := 0, ground := Go.Ground.phase }, { on := 1, ground := Go.Ground.phase }, { on := 2, ground := Go.Ground.phase }, { on := 3, ground := Go.Ground.phase }, { on := 4, ground := Go.Ground.phase }, { on := 5, ground := Go.Ground.phase }, { on := 6, ground := Go.Ground.phase }, { on := 7, ground := Go.Ground.phase }, { on := 8, ground := Go.Ground.phase }, { on := 9, ground := Go.Ground.phase }, { on := 10, ground := Go.Ground.phase }, { on := 11, ground := Go.Ground.phase }, { on := 12, ground := Go.Ground.phase }, { on := 13, ground := Go.Ground.phase }, { on := 14, ground := Go.Ground.phase }], guard := none }) (v := ?v36) rfl (by kernel_rfl) (by kernel_rfl) (by kernel_rfl) (fun _ _ _ h => h) (Or.inl ⟨by rfl, ?hy36⟩) (by assumption) ?rest36
    case hy36 => (intro w hSw; (try dsimp only at hSw); go_simp <;> with_reducible rfl)
    try simp only [Act.put, List.setIfInBounds_toArray, List.set_cons_zero, List.set_cons_succ]
    refine wpAnyH_done (by kernel_rfl) ?_ _
    go_wp2_with fail
    go_meet
    exact ⟨xb, A9, rfl, rfl, Lib.hid B_xb.out, Lib.hid (RB.any (RB.keep HB9.out HX_wf.out (fun k _ hk e => ne_g9_xb (hk.symm.trans e)))), Lib.hid ((((((HX_wd.out.trans HX_we.out).trans HX_wa.out).andThen HX_wb.out (fun i hi e => by have := (HX_wd.out.trans HX_we.out).size; have := hb_b0; omega)).andThen HX_wc.out (fun i hi e => by have := hb_g2; omega)).trans HX_wp.out).andThen HX_wf.out (fun i hi e => by have := HX_wd.out.size; have := hb_xb; omega))⟩
  case rest =>
    obtain ⟨xb, A9, rfl, rfl, B_xb, HBX, hx⟩ := hcut
    have hx := hx.out
    have HX_wc := Lib.hid hx
    clear hx
    replace HO_x := Lib.hid (OB.keep (OB.keepB HO_x.out HX_w4.out (by omega)) ((HX_w5.out.trans HX_w6.out).trans HX_wc.out) (fun _ _ _ _ => id))
    replace B_bp := Lib.hid (((HX_w6.out.trans HX_wc.out).block bp (row_lt B_bp.out) id).trans B_bp.out)
    have cbp0 := row_cell (k := 0) (v := .int .u8 xtos) B_bp.out rfl
    have cbp1 := row_cell (k := 1) (v := .int .u16 xid) B_bp.out rfl
    have cbp2 := row_cell (k := 2) (v := .bool xdf) B_bp.out rfl
    have cbp3 := row_cell (k := 3) (v := .bool xmf) B_bp.out rfl
    have cbp4 := row_cell (k := 4) (v := .int .i64 xoff) B_bp.out rfl
    have cbp5 := row_cell (k := 5) (v := .int .u8 xttl) B_bp.out rfl
    have cbp6 := row_cell (k := 6) (v := .int .u8 xpr) B_bp.out rfl
    have cbp7 := row_cell (k := 7) (v := .int .u32 xsrc) B_bp.out rfl
    have cbp8 := row_cell (k := 8) (v := .int .u32 xdst) B_bp.out rfl
    have cbp9 := row_cell (k := 9) (v := .slice (some xA) xl.length xc) B_bp.out rfl
    have cxb0 := row_cell (k := 0) (v := .int .u8 xtos) B_xb.out rfl
    have cxb1 := row_cell (k := 1) (v := .int .u16 xid) B_xb.out rfl
    have cxb2 := row_cell (k := 2) (v := .bool xdf) B_xb.out rfl
    have cxb3 := row_cell (k := 3) (v := .bool xmf) B_xb.out rfl
    have cxb4 := row_cell (k := 4) (v := .int .i64 xoff) B_xb.out rfl
    have cxb5 := row_cell (k := 5) (v := .int .u8 xttl) B_xb.out rfl
    have cxb6 := row_cell (k := 6) (v := .int .u8 xpr) B_xb.out rfl
    have cxb7 := row_cell (k := 7) (v := .int .u32 xsrc) B_xb.out rfl
    have cxb8 := row_cell (k := 8) (v := .int .u32 xdst) B_xb.out rfl
    have cxb9 := row_cell (k := 9) (v := .slice A9 xl.length xl.length) B_xb.out rfl
    have hne5 : ((M5.length : Int) != 20 + (xl.length : Int)) = false := by have := HL5.out; rw [Bool.eq_false_iff, Ne, bne_iff_ne]; omega
    go_wp2_with fail
    refine (same_any _ _ (⟨xtos, xid, xdf, xmf, xoff, xttl, xpr, xsrc, xdst, xl⟩ : Pk) (⟨xtos, xid, xdf, xmf, xoff, xttl, xpr, xsrc, xdst, xl⟩ : Pk) (some xA) A9 xc xl.length wc OKP.out OKP.out HO_x.out.rb HBX.out).mono ?_
    rintro e w13 ⟨rfl, hx⟩
    rw [Pk.eqB_self]
    clear cbp0 cbp1 cbp2 cbp3 cbp4 cbp5 cbp6 cbp7 cbp8 cbp9 cxb0 cxb1 cxb2 cxb3 cxb4 cxb5 cxb6 cxb7 cxb8 cxb9
    have HX_w13 := Lib.hid hx
    clear hx
    have cbp9 := row_cell (k := 9) (v := .slice (some xA) xl.length xc) ((HX_w13.out.block bp (row_lt B_bp.out) id).trans B_bp.out) rfl
    have hm := HM.out
    have hsb := (RB.keep HS.out (((((((HX_w1.out.trans HX_w2.out).trans HX_w3.out).andThen HX_w4.out (fun i hi e => by have := hb_bp; omega)).trans HX_w5.out).trans HX_w6.out).trans HX_wc.out).trans HX_w13.out) (fun _ _ _ => id))
    have HSB := Lib.hid hsb
    clear hsb
    cases hpe : perr s1 with
    | some rk =>
      obtain ⟨rr, kk⟩ := rk
      have HPE := Lib.hid hpe
      clear hpe
      go_wp2_with fail
      refine (ipparse_no _ D s1.length cd s1 w13 HSB.out HZ.out (by omega) rr kk HPE.out).mono ?_
      rintro e v1 ⟨ty7, y7, rfl, _, hx⟩
      clear hm
      have HX_v1 := Lib.hid hx
      clear hx
      have hv : pkv zpk (.slice none 0 0) = .agg #[.int .u8 0, .int .u16 0, .bool false, .bool false, .int .i64 0, .int .u8 0, .int .u8 0, .int .u32 0, .int .u32 0, .slice none 0 0] := rfl
      rw [hv]
      clear hv
      go_upto_region 12 with fail
      have hx : Ex (fun _ => False) v1 (v1.alloc (.cells #[.int .u8 0, .int .u16 0, .bool false, .bool false, .int .i64 0, .int .u8 0, .int .u8 0, .int .u32 0, .int .u32 0, .slice none 0 0] 51)) := (Ex.refl _ v1).alloc _
      have hb : (v1.alloc (.cells #[.int .u8 0, .int .u16 0, .bool false, .bool false, .int .i64 0, .int .u8 0, .int .u8 0, .int .u32 0, .int .u32 0, .slice none 0 0] 51)).heap[v1.heap.size]? = some (.cells #[.int .u8 0, .int .u16 0, .bool false, .bool false, .int .i64 0, .int .u8 0, .int .u8 0, .int .u32 0, .int .u32 0, .slice none 0 0] 51) := heap_alloc_new v1 _
      obtain ⟨zb, hzb⟩ : ∃ zb, zb = v1.heap.size := ⟨_, rfl⟩
      have hb_zb : v1.heap.size ≤ zb := by omega
      rw [← hzb] at hb
      try simp only [← hzb]
      generalize v1.alloc (.cells #[.int .u8 0, .int .u16 0, .bool false, .bool false, .int .i64 0, .int .u8 0, .int .u8 0, .int .u32 0, .int .u32 0, .slice none 0 0] 51) = v2 at hx hb ⊢
      clear hzb
      have HX_v2 := Lib.hid hx
      clear hx
      have B_zb := Lib.hid hb
      clear hb
      have czb0 := row_cell (k := 0) (v := .int .u8 0) B_zb.out rfl
      have czb1 := row_cell (k := 1) (v := .int .u16 0) B_zb.out rfl
      have czb2 := row_cell (k := 2) (v := .bool false) B_zb.out rfl
      have czb3 := row_cell (k := 3) (v := .bool false) B_zb.out rfl
      have czb4 := row_cell (k := 4) (v := .int .i64 0) B_zb.out rfl
      have czb5 := row_cell (k := 5) (v := .int .u8 0) B_zb.out rfl
      have czb6 := row_cell (k := 6) (v := .int .u8 0) B_zb.out rfl
      have czb7 := row_cell (k := 7) (v := .int .u32 0) B_zb.out rfl
      have czb8 := row_cell (k := 8) (v := .int .u32 0) B_zb.out rfl
      have czb9 := row_cell (k := 9) (v := .slice none 0 0) B_zb.out rfl
      go_wp2_with fail
      refine (same_any (fun _ => True) (fun _ => True) zpk zpk none none 0 0 v2 zpk_ok zpk_ok (RB.nil _ _) (RB.nil _ _)).mono ?_
      rintro e v3 ⟨rfl, hx⟩
      rw [Pk.eqB_self]
      have HX_v3 := Lib.hid hx
      clear hx
      go_wp2_with fail
      go_ret
      exact ⟨rfl, ((((((((((HX_w1.out.trans HX_w2.out).trans HX_w3.out).andThen HX_w4.out (fun i hi e => by have := hb_bp; omega)).trans HX_w5.out).trans HX_w6.out).trans HX_wc.out).trans HX_w13.out).trans HX_v1.out).trans HX_v2.out).trans HX_v3.out)⟩
    | none =>
      have hal := alike_law hpe
      obtain ⟨hpl1, hpok, hpr, _, _, hpl2, _⟩ := ppk_good hpe
      obtain ⟨P7, hP7⟩ : ∃ P, ppk s1 = P := ⟨_, rfl⟩
      rw [hP7] at hal hpok hpr hpl2
      have HPE := Lib.hid hpe
      have HP7 := Lib.hid hP7
      have HAL := Lib.hid hal
      have HPOK := Lib.hid hpok
      have HPR := Lib.hid hpr
      clear hpe hP7 hal hpok hpr
      go_wp2_with fail
      refine (ipparse_yes _ D s1.length cd s1 w13 HSB.out HZ.out (by omega) P7 HPE.out HP7.out).mono ?_
      rintro e v1 ⟨A7, g7, o7, rfl, hg7, hb7, _, hx⟩
      clear hm
      obtain ⟨qtos, qid, qdf, qmf, qoff, qttl, qpr, qsrc, qdst, qb⟩ := P7
      have hv : pkv (⟨qtos, qid, qdf, qmf, qoff, qttl, qpr, qsrc, qdst, qb⟩ : Pk) (.slice A7 (⟨qtos, qid, qdf, qmf, qoff, qttl, qpr, qsrc, qdst, qb⟩ : Pk).b.length (⟨qtos, qid, qdf, qmf, qoff, qttl, qpr, qsrc, qdst, qb⟩ : Pk).b.length) = .agg #[.int .u8 qtos, .int .u16 qid, .bool qdf, .bool qmf, .int .i64 qoff, .int .u8 qttl, .int .u8 qpr, .int .u32 qsrc, .int .u32 qdst, .slice A7 qb.length qb.length] := rfl
      rw [hv]
      have hb7' : RB v1 (fun j => j = g7) (.slice A7 qb.length qb.length) qb := hb7
      have hpl2' : 20 + qb.length ≤ s1.length := hpl2
      clear hv hb7 hpl2
      have HX_v1 := Lib.hid hx
      clear hx
      have HB7 := Lib.hid hb7'
      clear hb7'
      go_upto_region 12 with fail
      have hx : Ex (fun _ => False) v1 (v1.alloc (.cells #[.int .u8 qtos, .int .u16 qid, .bool qdf, .bool qmf, .int .i64 qoff, .int .u8 qttl, .int .u8 qpr, .int .u32 qsrc, .int .u32 qdst, .slice A7 qb.length qb.length] 51)) := (Ex.refl _ v1).alloc _
      have hb : (v1.alloc (.cells #[.int .u8 qtos, .int .u16 qid, .bool qdf, .bool qmf, .int .i64 qoff, .int .u8 qttl, .int .u8 qpr, .int .u32 qsrc, .int .u32 qdst, .slice A7 qb.length qb.length] 51)).heap[v1.heap.size]? = some (.cells #[.int .u8 qtos, .int .u16 qid, .bool qdf, .bool qmf, .int .i64 qoff, .int .u8 qttl, .int .u8 qpr, .int .u32 qsrc, .int .u32 qdst, .slice A7 qb.length qb.length] 51) := heap_alloc_new v1 _
      obtain ⟨zb, hzb⟩ : ∃ zb, zb = v1.heap.size := ⟨_, rfl⟩
      have hb_zb : v1.heap.size ≤ zb := by omega
      rw [← hzb] at hb
      try simp only [← hzb]
      generalize v1.alloc (.cells #[.int .u8 qtos, .int .u16 qid, .bool qdf, .bool qmf, .int .i64 qoff, .int .u8 qttl, .int .u8 qpr, .int .u32 qsrc, .int .u32 qdst, .slice A7 qb.length qb.length] 51) = v2 at hx hb ⊢
      clear hzb
      have HX_v2 := Lib.hid hx
      clear hx
      have B_zb := Lib.hid hb
      clear hb
      have czb0 := row_cell (k := 0) (v := .int .u8 qtos) B_zb.out rfl
      have czb1 := row_cell (k := 1) (v := .int .u16 qid) B_zb.out rfl
      have czb2 := row_cell (k := 2) (v := .bool qdf) B_zb.out rfl
      have czb3 := row_cell (k := 3) (v := .bool qmf) B_zb.out rfl
      have czb4 := row_cell (k := 4) (v := .int .i64 qoff) B_zb.out rfl
      have czb5 := row_cell (k := 5) (v := .int .u8 qttl) B_zb.out rfl
      have czb6 := row_cell (k := 6) (v := .int .u8 qpr) B_zb.out rfl
      have czb7 := row_cell (k := 7) (v := .int .u32 qsrc) B_zb.out rfl
      have czb8 := row_cell (k := 8) (v := .int .u32 qdst) B_zb.out rfl
      have czb9 := row_cell (k := 9) (v := .slice A7 qb.length qb.length) B_zb.out rfl
      have hqb := (RB.keep HB7.out HX_v2.out (fun _ _ _ => id))
      have HQB := Lib.hid hqb
      clear hqb
      go_wp2_with fail
      refine (pbytes_yes _ (⟨qtos, qid, qdf, qmf, qoff, qttl, qpr, qsrc, qdst, qb⟩ : Pk) A7 qb.length v2 HPOK.out HQB.out (by show qb.length ≤ _; omega) HPR.out).mono ?_
      rintro e v3 ⟨g8, c8, rfl, ho8, hg8, _, hx⟩
      have hl8 : (pb (⟨qtos, qid, qdf, qmf, qoff, qttl, qpr, qsrc, qdst, qb⟩ : Pk)).length = 20 + qb.length := pb_len _
      obtain ⟨M, hM⟩ : ∃ M, pb (⟨qtos, qid, qdf, qmf, qoff, qttl, qpr, qsrc, qdst, qb⟩ : Pk) = M := ⟨_, rfl⟩
      have hal := HAL.out
      rw [hM] at ho8 hal hl8 ⊢
      have HAL2 := Lib.hid hal
      have hle8 : (M.length : Int) ≤ (s1.length : Int) := by omega
      clear hal HAL hM czb0 czb1 czb2 czb3 czb4 czb5 czb6 czb7 czb8 czb9
      have HX_v3 := Lib.hid hx
      clear hx
      have HO8 := Lib.hid ho8
      clear ho8
      replace HSB := Lib.hid (RB.keep HSB.out ((HX_v1.out.trans HX_v2.out).trans HX_v3.out) (fun _ _ _ => id))
      have HL8 := Lib.hid hl8
      clear hl8
      obtain ⟨ha1, ha2, ha3⟩ := HAL2.out
      clear HAL2
      rcases ha3 with ha3 | ⟨ha3, ha4, ha5, ha6, ha7⟩
      ·
        have HA3 := Lib.hid ha3
        clear ha3
        go_wp2_with fail
        refine (alike_same _ _ (some ⟨g8, 0, none⟩) D M.length c8 s1.length cd M s1 v3 HO8.out.rb HSB.out (by omega) ha1 HA3.out).mono ?_
        rintro e v4 ⟨rfl, hx⟩
        have HX_v4 := Lib.hid hx
        clear hx
        go_wp2_with fail
        go_ret
        exact ⟨rfl, (((((((((((HX_w1.out.trans HX_w2.out).trans HX_w3.out).andThen HX_w4.out (fun i hi e => by have := hb_bp; omega)).trans HX_w5.out).trans HX_w6.out).trans HX_wc.out).trans HX_w13.out).trans HX_v1.out).trans HX_v2.out).trans HX_v3.out).trans HX_v4.out)⟩
      ·
        have HA3 := Lib.hid ha3
        have HA4 := Lib.hid (ha4 (by omega))
        have HA5 := Lib.hid (ha5 (by omega))
        have HA6 := Lib.hid (ha6 (by omega))
        have HA7 := Lib.hid (ha7 (by omega))
        clear ha3 ha4 ha5 ha6 ha7
        go_wp2_with fail
        refine (alike_sum _ _ (some ⟨g8, 0, none⟩) D M.length c8 s1.length cd M s1 v3 HO8.out.rb HSB.out (by omega) ha1 ha2 HA3.out HA4.out HA5.out HA6.out HA7.out).mono ?_
        rintro e v4 ⟨rfl, hx⟩
        have HX_v4 := Lib.hid hx
        clear hx
        go_wp2_with fail
        go_ret
        exact ⟨rfl, (((((((((((HX_w1.out.trans HX_w2.out).trans HX_w3.out).andThen HX_w4.out (fun i hi e => by have := hb_bp; omega)).trans HX_w5.out).trans HX_w6.out).trans HX_wc.out).trans HX_w13.out).trans HX_v1.out).trans HX_v2.out).trans HX_v3.out).trans HX_v4.out)⟩
end Go.Proofs.YtfcfpkhcpijkfaaDoor
