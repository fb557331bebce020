/-
  The walk of Ipv4Fields. By an AI agent.
-/
import Derived.Test.YtfcfpkhcpijkfaaDoorShown05
import Derived.Test.YtfcfpkhcpijkfaaDoorStr
import Derived.Test.YtfcfpkhcpijkfaaDoorIpLaw
import Derived.Deep.QuietTactic
import Derived.BigQuiet
import Derived.IntWalk
namespace Go.Proofs.YtfcfpkhcpijkfaaDoor
open Go.RowKit

theorem getD_of (l : List UInt8) (k : Nat) (h : k < l.length) : l[k] = l.getD k 0 := by simp [List.getD, h]
/-- the numbers of a packet's head, byte by byte -/
theorem pb_num {p : Pk} (ok : p.ok) (h : p.right = 0) (l : List UInt8) (e : l = pb p) : ((l.getD 0 0).toNat : Int) = 69 ∧ ((l.getD 1 0).toNat : Int) = p.tos ∧ ((l.getD 2 0).toNat : Int) * 256 + ((l.getD 3 0).toNat : Int) = (l.length : Int) ∧ ((l.getD 4 0).toNat : Int) * 256 + ((l.getD 5 0).toNat : Int) = p.id ∧
    ((l.getD 6 0).toNat : Int) * 256 + ((l.getD 7 0).toNat : Int) = p.bits ∧ ((l.getD 8 0).toNat : Int) = p.ttl ∧ ((l.getD 9 0).toNat : Int) = p.pr ∧
    (((l.getD 12 0).toNat : Int) * 16777216 + ((l.getD 13 0).toNat : Int) * 65536 + ((l.getD 14 0).toNat : Int) * 256 + ((l.getD 15 0).toNat : Int) = p.src) ∧
    (((l.getD 16 0).toNat : Int) * 16777216 + ((l.getD 17 0).toNat : Int) * 65536 + ((l.getD 18 0).toNat : Int) * 256 + ((l.getD 19 0).toNat : Int) = p.dst) ∧ l.drop 20 = p.b := by
  have hs := Pk.sum_le p
  have h1 := Hd.of_bytes (Pk.hd_ok ok h (p.sum : Int) ⟨by omega, by omega⟩) p.b
  have h2 : Hd.of l = p.hd (p.sum : Int) := by rw [e]; exact h1
  have hl : (l.length : Int) = 20 + (p.b.length : Int) := by rw [e, pb_len]; omega
  have e0 := congrArg Hd.vi h2
  have e1 := congrArg Hd.tos h2
  have e2 := congrArg Hd.size h2
  have e3 := congrArg Hd.id h2
  have e4 := congrArg Hd.bits h2
  have e5 := congrArg Hd.ttl h2
  have e6 := congrArg Hd.pr h2
  have e8 := congrArg Hd.src h2
  have e9 := congrArg Hd.dst h2
  simp only [Hd.of, Pk.hd, nb, List.foldl] at e0 e1 e2 e3 e4 e5 e6 e8 e9
  refine ⟨e0, e1, by omega, by omega, by omega, e5, e6, by omega, by omega, ?_⟩
  rw [e]
  exact List.drop_left' (Hd.bytes_len _)
set_option maxRecDepth 100000 in
set_option maxHeartbeats 8000000 in
theorem fields05_any (p : Pk) (A : Option Addr) (c : Nat) (w : World) (ok : p.ok) (hp : RB w (fun _ => True) (.slice A p.b.length c) p.b) (hg : ET w) :
    Calls Tryd.prog 12 #[pkv p (.slice A p.b.length c)] w fun e w' => e = .returned (.bool true) ∧ Ex (fun _ => False) w w' := by
  obtain ⟨xtos, xid, xdf, xmf, xoff, xttl, xpr, xsrc, xdst, xb⟩ := p
  simp only at hp
  have HG := Lib.hid hg
  have HP := Lib.hid hp
  have OKP := Lib.hid ok
  clear hp ok hg
  show Calls Tryd.prog 12 #[.agg #[.int .u8 xtos, .int .u16 xid, .bool xdf, .bool xmf, .int .i64 xoff, .int .u8 xttl, .int .u8 xpr, .int .u32 xsrc, .int .u32 xdst, .slice A xb.length c]] w _
  go_enter Tryd.func12, Tryd.ntmps12
  go_upto_region 1 with fail
  rename_i Q0 K0 hk0
  have HQ0 := Lib.hid (show Q0 = bodyPost Tryd.prog Tryd.f12 (fun e w' => e = .returned (.bool true) ∧ Ex (fun _ => False) w w') from rfl)
  have hx : Ex (fun _ => False) w (w.alloc (.cells #[.int .u8 xtos, .int .u16 xid, .bool xdf, .bool xmf, .int .i64 xoff, .int .u8 xttl, .int .u8 xpr, .int .u32 xsrc, .int .u32 xdst, .slice A xb.length c] 51)) := (Ex.refl _ w).alloc _
  have hb : (w.alloc (.cells #[.int .u8 xtos, .int .u16 xid, .bool xdf, .bool xmf, .int .i64 xoff, .int .u8 xttl, .int .u8 xpr, .int .u32 xsrc, .int .u32 xdst, .slice A xb.length c] 51)).heap[w.heap.size]? = some (.cells #[.int .u8 xtos, .int .u16 xid, .bool xdf, .bool xmf, .int .i64 xoff, .int .u8 xttl, .int .u8 xpr, .int .u32 xsrc, .int .u32 xdst, .slice A xb.length c] 51) := heap_alloc_new w _
  obtain ⟨bp, hbp⟩ : ∃ bp, bp = w.heap.size := ⟨_, rfl⟩
  have hb_bp : w.heap.size ≤ bp := by omega
  rw [← hbp] at hb
  try simp only [← hbp]
  generalize w.alloc (.cells #[.int .u8 xtos, .int .u16 xid, .bool xdf, .bool xmf, .int .i64 xoff, .int .u8 xttl, .int .u8 xpr, .int .u32 xsrc, .int .u32 xdst, .slice A xb.length c] 51) = w1 at hx hb ⊢
  clear hbp
  have HX_w1 := Lib.hid hx
  clear hx
  have B_bp := Lib.hid hb
  clear hb
  have hlp := row_lt B_bp.out
  go_wp2_with fail
  refine (shown5_any w1 (HG.out.keep HX_w1.out id)).mono ?_
  rintro e w2 ⟨rfl, hx⟩
  have hz12 := hx.size
  have HX_w2 := Lib.hid hx
  clear hx
  replace B_bp := Lib.hid ((HX_w2.out.block bp (row_lt B_bp.out) id).trans B_bp.out)
  have cbp0 := row_cell (k := 0) (v := .int .u8 xtos) B_bp.out rfl
  have cbp1 := row_cell (k := 1) (v := .int .u16 xid) B_bp.out rfl
  have cbp2 := row_cell (k := 2) (v := .bool xdf) B_bp.out rfl
  have cbp3 := row_cell (k := 3) (v := .bool xmf) B_bp.out rfl
  have cbp4 := row_cell (k := 4) (v := .int .i64 xoff) B_bp.out rfl
  have cbp5 := row_cell (k := 5) (v := .int .u8 xttl) B_bp.out rfl
  have cbp6 := row_cell (k := 6) (v := .int .u8 xpr) B_bp.out rfl
  have cbp7 := row_cell (k := 7) (v := .int .u32 xsrc) B_bp.out rfl
  have cbp8 := row_cell (k := 8) (v := .int .u32 xdst) B_bp.out rfl
  have cbp9 := row_cell (k := 9) (v := .slice A xb.length c) B_bp.out rfl
  have fbp0 := row_frozen B_bp.out 0
  have fbp1 := row_frozen B_bp.out 1
  have fbp2 := row_frozen B_bp.out 2
  have fbp3 := row_frozen B_bp.out 3
  have fbp4 := row_frozen B_bp.out 4
  have fbp5 := row_frozen B_bp.out 5
  have fbp6 := row_frozen B_bp.out 6
  have fbp7 := row_frozen B_bp.out 7
  have fbp8 := row_frozen B_bp.out 8
  have fbp9 := row_frozen B_bp.out 9
  go_wp2_with fail
  refine (few5_any _ (⟨xtos, xid, xdf, xmf, xoff, xttl, xpr, xsrc, xdst, xb⟩ : Pk) A c w2 (RB.keep HP.out (HX_w1.out.trans HX_w2.out) (fun _ _ _ => id))).mono ?_
  rintro e w3 ⟨xA, xc, rfl, ho, hx⟩
  obtain ⟨xl, hxl⟩ : ∃ l, l = xb.take 3000 := ⟨_, rfl⟩
  have hfw : (⟨xtos, xid, xdf, xmf, xoff, xttl, xpr, xsrc, xdst, xb⟩ : Pk).few 3000 = (⟨xtos, xid, xdf, xmf, xoff, xttl, xpr, xsrc, xdst, xl⟩ : Pk) := by rw [hxl]; rfl
  rw [hfw] at ho ⊢
  have hxn : xl.length ≤ 3000 := by rw [hxl, List.length_take]; omega
  have hv : pkv (⟨xtos, xid, xdf, xmf, xoff, xttl, xpr, xsrc, xdst, xl⟩ : Pk) (.slice (some xA) (⟨xtos, xid, xdf, xmf, xoff, xttl, xpr, xsrc, xdst, xl⟩ : Pk).b.length xc) = .agg #[.int .u8 xtos, .int .u16 xid, .bool xdf, .bool xmf, .int .i64 xoff, .int .u8 xttl, .int .u8 xpr, .int .u32 xsrc, .int .u32 xdst, .slice (some xA) xl.length xc] := rfl
  rw [hv]
  have ho' : OB w3 w2.heap.size (.slice (some xA) xl.length xc) xl := ho
  clear hv hfw hxl ho cbp0 cbp1 cbp2 cbp3 cbp4 cbp5 cbp6 cbp7 cbp8 cbp9 fbp0 fbp1 fbp2 fbp3 fbp4 fbp5 fbp6 fbp7 fbp8 fbp9
  have HX_w3 := Lib.hid hx
  clear hx
  have HO_x := Lib.hid ho'
  clear ho'
  have hbl_bp := row_lt B_bp.out
  replace B_bp := Lib.hid ((HX_w3.out.block bp (row_lt B_bp.out) id).trans B_bp.out)
  have cbp0 := row_cell (k := 0) (v := .int .u8 xtos) B_bp.out rfl
  have cbp1 := row_cell (k := 1) (v := .int .u16 xid) B_bp.out rfl
  have cbp2 := row_cell (k := 2) (v := .bool xdf) B_bp.out rfl
  have cbp3 := row_cell (k := 3) (v := .bool xmf) B_bp.out rfl
  have cbp4 := row_cell (k := 4) (v := .int .i64 xoff) B_bp.out rfl
  have cbp5 := row_cell (k := 5) (v := .int .u8 xttl) B_bp.out rfl
  have cbp6 := row_cell (k := 6) (v := .int .u8 xpr) B_bp.out rfl
  have cbp7 := row_cell (k := 7) (v := .int .u32 xsrc) B_bp.out rfl
  have cbp8 := row_cell (k := 8) (v := .int .u32 xdst) B_bp.out rfl
  have cbp9 := row_cell (k := 9) (v := .slice A xb.length c) B_bp.out rfl
  have fbp0 := row_frozen B_bp.out 0
  have fbp1 := row_frozen B_bp.out 1
  have fbp2 := row_frozen B_bp.out 2
  have fbp3 := row_frozen B_bp.out 3
  have fbp4 := row_frozen B_bp.out 4
  have fbp5 := row_frozen B_bp.out 5
  have fbp6 := row_frozen B_bp.out 6
  have fbp7 := row_frozen B_bp.out 7
  have fbp8 := row_frozen B_bp.out 8
  have fbp9 := row_frozen B_bp.out 9
  go_upto_region 3 with fail
  have r0 : (w3.setCell ⟨bp, 0, none⟩ (.int .u8 xtos)).heap[bp]? = some (.cells #[.int .u8 xtos, .int .u16 xid, .bool xdf, .bool xmf, .int .i64 xoff, .int .u8 xttl, .int .u8 xpr, .int .u32 xsrc, .int .u32 xdst, .slice A xb.length c] 51) := row_set B_bp.out 0 (.int .u8 xtos)
  have r1 : ((w3.setCell ⟨bp, 0, none⟩ (.int .u8 xtos)).setCell ⟨bp, 1, none⟩ (.int .u16 xid)).heap[bp]? = some (.cells #[.int .u8 xtos, .int .u16 xid, .bool xdf, .bool xmf, .int .i64 xoff, .int .u8 xttl, .int .u8 xpr, .int .u32 xsrc, .int .u32 xdst, .slice A xb.length c] 51) := row_set r0 1 (.int .u16 xid)
  clear r0
  have r2 : (((w3.setCell ⟨bp, 0, none⟩ (.int .u8 xtos)).setCell ⟨bp, 1, none⟩ (.int .u16 xid)).setCell ⟨bp, 2, none⟩ (.bool xdf)).heap[bp]? = some (.cells #[.int .u8 xtos, .int .u16 xid, .bool xdf, .bool xmf, .int .i64 xoff, .int .u8 xttl, .int .u8 xpr, .int .u32 xsrc, .int .u32 xdst, .slice A xb.length c] 51) := row_set r1 2 (.bool xdf)
  clear r1
  have r3 : ((((w3.setCell ⟨bp, 0, none⟩ (.int .u8 xtos)).setCell ⟨bp, 1, none⟩ (.int .u16 xid)).setCell ⟨bp, 2, none⟩ (.bool xdf)).setCell ⟨bp, 3, none⟩ (.bool xmf)).heap[bp]? = some (.cells #[.int .u8 xtos, .int .u16 xid, .bool xdf, .bool xmf, .int .i64 xoff, .int .u8 xttl, .int .u8 xpr, .int .u32 xsrc, .int .u32 xdst, .slice A xb.length c] 51) := row_set r2 3 (.bool xmf)
  clear r2
  have r4 : (((((w3.setCell ⟨bp, 0, none⟩ (.int .u8 xtos)).setCell ⟨bp, 1, none⟩ (.int .u16 xid)).setCell ⟨bp, 2, none⟩ (.bool xdf)).setCell ⟨bp, 3, none⟩ (.bool xmf)).setCell ⟨bp, 4, none⟩ (.int .i64 xoff)).heap[bp]? = some (.cells #[.int .u8 xtos, .int .u16 xid, .bool xdf, .bool xmf, .int .i64 xoff, .int .u8 xttl, .int .u8 xpr, .int .u32 xsrc, .int .u32 xdst, .slice A xb.length c] 51) := row_set r3 4 (.int .i64 xoff)
  clear r3
  have r5 : ((((((w3.setCell ⟨bp, 0, none⟩ (.int .u8 xtos)).setCell ⟨bp, 1, none⟩ (.int .u16 xid)).setCell ⟨bp, 2, none⟩ (.bool xdf)).setCell ⟨bp, 3, none⟩ (.bool xmf)).setCell ⟨bp, 4, none⟩ (.int .i64 xoff)).setCell ⟨bp, 5, none⟩ (.int .u8 xttl)).heap[bp]? = some (.cells #[.int .u8 xtos, .int .u16 xid, .bool xdf, .bool xmf, .int .i64 xoff, .int .u8 xttl, .int .u8 xpr, .int .u32 xsrc, .int .u32 xdst, .slice A xb.length c] 51) := row_set r4 5 (.int .u8 xttl)
  clear r4
  have r6 : (((((((w3.setCell ⟨bp, 0, none⟩ (.int .u8 xtos)).setCell ⟨bp, 1, none⟩ (.int .u16 xid)).setCell ⟨bp, 2, none⟩ (.bool xdf)).setCell ⟨bp, 3, none⟩ (.bool xmf)).setCell ⟨bp, 4, none⟩ (.int .i64 xoff)).setCell ⟨bp, 5, none⟩ (.int .u8 xttl)).setCell ⟨bp, 6, none⟩ (.int .u8 xpr)).heap[bp]? = some (.cells #[.int .u8 xtos, .int .u16 xid, .bool xdf, .bool xmf, .int .i64 xoff, .int .u8 xttl, .int .u8 xpr, .int .u32 xsrc, .int .u32 xdst, .slice A xb.length c] 51) := row_set r5 6 (.int .u8 xpr)
  clear r5
  have r7 : ((((((((w3.setCell ⟨bp, 0, none⟩ (.int .u8 xtos)).setCell ⟨bp, 1, none⟩ (.int .u16 xid)).setCell ⟨bp, 2, none⟩ (.bool xdf)).setCell ⟨bp, 3, none⟩ (.bool xmf)).setCell ⟨bp, 4, none⟩ (.int .i64 xoff)).setCell ⟨bp, 5, none⟩ (.int .u8 xttl)).setCell ⟨bp, 6, none⟩ (.int .u8 xpr)).setCell ⟨bp, 7, none⟩ (.int .u32 xsrc)).heap[bp]? = some (.cells #[.int .u8 xtos, .int .u16 xid, .bool xdf, .bool xmf, .int .i64 xoff, .int .u8 xttl, .int .u8 xpr, .int .u32 xsrc, .int .u32 xdst, .slice A xb.length c] 51) := row_set r6 7 (.int .u32 xsrc)
  clear r6
  have r8 : (((((((((w3.setCell ⟨bp, 0, none⟩ (.int .u8 xtos)).setCell ⟨bp, 1, none⟩ (.int .u16 xid)).setCell ⟨bp, 2, none⟩ (.bool xdf)).setCell ⟨bp, 3, none⟩ (.bool xmf)).setCell ⟨bp, 4, none⟩ (.int .i64 xoff)).setCell ⟨bp, 5, none⟩ (.int .u8 xttl)).setCell ⟨bp, 6, none⟩ (.int .u8 xpr)).setCell ⟨bp, 7, none⟩ (.int .u32 xsrc)).setCell ⟨bp, 8, none⟩ (.int .u32 xdst)).heap[bp]? = some (.cells #[.int .u8 xtos, .int .u16 xid, .bool xdf, .bool xmf, .int .i64 xoff, .int .u8 xttl, .int .u8 xpr, .int .u32 xsrc, .int .u32 xdst, .slice A xb.length c] 51) := row_set r7 8 (.int .u32 xdst)
  clear r7
  have r9 : ((((((((((w3.setCell ⟨bp, 0, none⟩ (.int .u8 xtos)).setCell ⟨bp, 1, none⟩ (.int .u16 xid)).setCell ⟨bp, 2, none⟩ (.bool xdf)).setCell ⟨bp, 3, none⟩ (.bool xmf)).setCell ⟨bp, 4, none⟩ (.int .i64 xoff)).setCell ⟨bp, 5, none⟩ (.int .u8 xttl)).setCell ⟨bp, 6, none⟩ (.int .u8 xpr)).setCell ⟨bp, 7, none⟩ (.int .u32 xsrc)).setCell ⟨bp, 8, none⟩ (.int .u32 xdst)).setCell ⟨bp, 9, none⟩ (.slice (some xA) xl.length xc)).heap[bp]? = some (.cells #[.int .u8 xtos, .int .u16 xid, .bool xdf, .bool xmf, .int .i64 xoff, .int .u8 xttl, .int .u8 xpr, .int .u32 xsrc, .int .u32 xdst, .slice (some xA) xl.length xc] 51) := row_set r8 9 (.slice (some xA) xl.length xc)
  clear r8
  have hx : Ex (fun j => j = bp) w3 ((((((((((w3.setCell ⟨bp, 0, none⟩ (.int .u8 xtos)).setCell ⟨bp, 1, none⟩ (.int .u16 xid)).setCell ⟨bp, 2, none⟩ (.bool xdf)).setCell ⟨bp, 3, none⟩ (.bool xmf)).setCell ⟨bp, 4, none⟩ (.int .i64 xoff)).setCell ⟨bp, 5, none⟩ (.int .u8 xttl)).setCell ⟨bp, 6, none⟩ (.int .u8 xpr)).setCell ⟨bp, 7, none⟩ (.int .u32 xsrc)).setCell ⟨bp, 8, none⟩ (.int .u32 xdst)).setCell ⟨bp, 9, none⟩ (.slice (some xA) xl.length xc)) := (((((((((((Ex.refl (fun j => j = bp) w3).setCell (p := ⟨bp, 0, none⟩) (.inl rfl) (.int .u8 xtos)).setCell (p := ⟨bp, 1, none⟩) (.inl rfl) (.int .u16 xid)).setCell (p := ⟨bp, 2, none⟩) (.inl rfl) (.bool xdf)).setCell (p := ⟨bp, 3, none⟩) (.inl rfl) (.bool xmf)).setCell (p := ⟨bp, 4, none⟩) (.inl rfl) (.int .i64 xoff)).setCell (p := ⟨bp, 5, none⟩) (.inl rfl) (.int .u8 xttl)).setCell (p := ⟨bp, 6, none⟩) (.inl rfl) (.int .u8 xpr)).setCell (p := ⟨bp, 7, none⟩) (.inl rfl) (.int .u32 xsrc)).setCell (p := ⟨bp, 8, none⟩) (.inl rfl) (.int .u32 xdst)).setCell (p := ⟨bp, 9, none⟩) (.inl rfl) (.slice (some xA) xl.length xc))
  clear cbp0 cbp1 cbp2 cbp3 cbp4 cbp5 cbp6 cbp7 cbp8 cbp9 fbp0 fbp1 fbp2 fbp3 fbp4 fbp5 fbp6 fbp7 fbp8 fbp9
  generalize ((((((((((w3.setCell ⟨bp, 0, none⟩ (.int .u8 xtos)).setCell ⟨bp, 1, none⟩ (.int .u16 xid)).setCell ⟨bp, 2, none⟩ (.bool xdf)).setCell ⟨bp, 3, none⟩ (.bool xmf)).setCell ⟨bp, 4, none⟩ (.int .i64 xoff)).setCell ⟨bp, 5, none⟩ (.int .u8 xttl)).setCell ⟨bp, 6, none⟩ (.int .u8 xpr)).setCell ⟨bp, 7, none⟩ (.int .u32 xsrc)).setCell ⟨bp, 8, none⟩ (.int .u32 xdst)).setCell ⟨bp, 9, none⟩ (.slice (some xA) xl.length xc)) = w4 at r9 hx ⊢
  replace B_bp := Lib.hid r9
  clear r9
  have HX_w4 := Lib.hid hx
  clear hx
  have cbp0 := row_cell (k := 0) (v := .int .u8 xtos) B_bp.out rfl
  have cbp1 := row_cell (k := 1) (v := .int .u16 xid) B_bp.out rfl
  have cbp2 := row_cell (k := 2) (v := .bool xdf) B_bp.out rfl
  have cbp3 := row_cell (k := 3) (v := .bool xmf) B_bp.out rfl
  have cbp4 := row_cell (k := 4) (v := .int .i64 xoff) B_bp.out rfl
  have cbp5 := row_cell (k := 5) (v := .int .u8 xttl) B_bp.out rfl
  have cbp6 := row_cell (k := 6) (v := .int .u8 xpr) B_bp.out rfl
  have cbp7 := row_cell (k := 7) (v := .int .u32 xsrc) B_bp.out rfl
  have cbp8 := row_cell (k := 8) (v := .int .u32 xdst) B_bp.out rfl
  have cbp9 := row_cell (k := 9) (v := .slice (some xA) xl.length xc) B_bp.out rfl
  have okl : (⟨xtos, xid, xdf, xmf, xoff, xttl, xpr, xsrc, xdst, xl⟩ : Pk).ok := OKP.out
  go_wp2_with fail
  refine (pbytes_any _ (⟨xtos, xid, xdf, xmf, xoff, xttl, xpr, xsrc, xdst, xl⟩ : Pk) (some xA) xc w4 okl (OB.keepB HO_x.out HX_w4.out (by omega)).rb (by show xl.length ≤ _; omega)).mono ?_
  rintro e w5 ⟨hx, hcase⟩
  clear okl
  have HX_w5 := Lib.hid hx
  clear hx
  clear cbp0 cbp1 cbp2 cbp3 cbp4 cbp5 cbp6 cbp7 cbp8 cbp9
  rcases hcase with ⟨hr5, v5, rfl, he⟩ | ⟨hr5, A5, cc5, rfl, ho⟩
  ·
    obtain ⟨ty5, y5, rfl⟩ := he.shape
    have HR5 := Lib.hid hr5
    clear he hr5
    replace B_bp := Lib.hid ((HX_w5.out.block bp (row_lt B_bp.out) id).trans B_bp.out)
    have cbp0 := row_cell (k := 0) (v := .int .u8 xtos) B_bp.out rfl
    have cbp1 := row_cell (k := 1) (v := .int .u16 xid) B_bp.out rfl
    have cbp2 := row_cell (k := 2) (v := .bool xdf) B_bp.out rfl
    have cbp3 := row_cell (k := 3) (v := .bool xmf) B_bp.out rfl
    have cbp4 := row_cell (k := 4) (v := .int .i64 xoff) B_bp.out rfl
    have cbp5 := row_cell (k := 5) (v := .int .u8 xttl) B_bp.out rfl
    have cbp6 := row_cell (k := 6) (v := .int .u8 xpr) B_bp.out rfl
    have cbp7 := row_cell (k := 7) (v := .int .u32 xsrc) B_bp.out rfl
    have cbp8 := row_cell (k := 8) (v := .int .u32 xdst) B_bp.out rfl
    have cbp9 := row_cell (k := 9) (v := .slice (some xA) xl.length xc) B_bp.out rfl
    go_wp2_with fail
    refine (right_any (⟨xtos, xid, xdf, xmf, xoff, xttl, xpr, xsrc, xdst, xl⟩ : Pk) (some xA) xc w5 (by show xl.length ≤ _; omega)).mono ?_
    rintro e w6 ⟨hx, hcase⟩
    clear cbp0 cbp1 cbp2 cbp3 cbp4 cbp5 cbp6 cbp7 cbp8 cbp9
    obtain ⟨v6, rfl, he⟩ : ∃ v, e = .returned v ∧ EC w6 (fun j => w5.heap.size ≤ j) [lay5] v (⟨xtos, xid, xdf, xmf, xoff, xttl, xpr, xsrc, xdst, xl⟩ : Pk).right := by
      rcases hcase with ⟨h, _⟩ | ⟨_, h⟩
      · exact absurd h HR5.out
      · exact h
    obtain ⟨ty6, y6, rfl⟩ := he.shape
    clear he hcase
    have HX_w6 := Lib.hid hx
    clear hx
    go_wp2_with fail
    go_ret
    exact ⟨rfl, (((((HX_w1.out.trans HX_w2.out).trans HX_w3.out).andThen HX_w4.out (fun i hi e => by have := hb_bp; omega)).trans HX_w5.out).trans HX_w6.out)⟩
  ·
    obtain ⟨g5, rfl, hb_g5, hg5⟩ := ho.plain
    obtain ⟨m, hm⟩ : ∃ m, m = pb (⟨xtos, xid, xdf, xmf, xoff, xttl, xpr, xsrc, xdst, xl⟩ : Pk) := ⟨_, rfl⟩
    have hml : m.length = 20 + xl.length := by rw [hm, pb_len]
    obtain ⟨n0, n1, n2, n4, n6, n8, n9, n12, n16, n20⟩ := pb_num (p := (⟨xtos, xid, xdf, xmf, xoff, xttl, xpr, xsrc, xdst, xl⟩ : Pk)) OKP.out hr5 m hm
    simp only at n1 n4 n8 n9 n12 n16 n20
    obtain ⟨r1, r2, _, r4, r5⟩ := Pk.right_zero hr5
    simp only at r1 r2 r4 r5
    obtain ⟨_, _, _, _, _, o5, o6⟩ := OKP.out
    simp only at o5 o6
    rw [← hm] at ho ⊢
    clear hm hr5
    have HO5 := Lib.hid ho
    clear ho
    have c0 := HO5.out.cell 0 (by omega)
    rw [getD_of m 0 (by omega)] at c0
    have c1 := HO5.out.cell 1 (by omega)
    rw [getD_of m 1 (by omega)] at c1
    have c2 := HO5.out.cell 2 (by omega)
    rw [getD_of m 2 (by omega)] at c2
    have c3 := HO5.out.cell 3 (by omega)
    rw [getD_of m 3 (by omega)] at c3
    have c4 := HO5.out.cell 4 (by omega)
    rw [getD_of m 4 (by omega)] at c4
    have c5 := HO5.out.cell 5 (by omega)
    rw [getD_of m 5 (by omega)] at c5
    have c6 := HO5.out.cell 6 (by omega)
    rw [getD_of m 6 (by omega)] at c6
    have c7 := HO5.out.cell 7 (by omega)
    rw [getD_of m 7 (by omega)] at c7
    have c8 := HO5.out.cell 8 (by omega)
    rw [getD_of m 8 (by omega)] at c8
    have c9 := HO5.out.cell 9 (by omega)
    rw [getD_of m 9 (by omega)] at c9
    have c12 := HO5.out.cell 12 (by omega)
    rw [getD_of m 12 (by omega)] at c12
    have c13 := HO5.out.cell 13 (by omega)
    rw [getD_of m 13 (by omega)] at c13
    have c14 := HO5.out.cell 14 (by omega)
    rw [getD_of m 14 (by omega)] at c14
    have c15 := HO5.out.cell 15 (by omega)
    rw [getD_of m 15 (by omega)] at c15
    have c16 := HO5.out.cell 16 (by omega)
    rw [getD_of m 16 (by omega)] at c16
    have c17 := HO5.out.cell 17 (by omega)
    rw [getD_of m 17 (by omega)] at c17
    have c18 := HO5.out.cell 18 (by omega)
    rw [getD_of m 18 (by omega)] at c18
    have c19 := HO5.out.cell 19 (by omega)
    rw [getD_of m 19 (by omega)] at c19
    rw [n0] at c0
    rw [n1] at c1
    rw [n8] at c8
    rw [n9] at c9
    have l2 := (m.getD 2 0).toNat_lt
    obtain ⟨v2, hv2⟩ : ∃ v, (m.getD 2 0).toNat = v := ⟨_, rfl⟩
    rw [hv2] at c2 l2
    have l3 := (m.getD 3 0).toNat_lt
    obtain ⟨v3, hv3⟩ : ∃ v, (m.getD 3 0).toNat = v := ⟨_, rfl⟩
    rw [hv3] at c3 l3
    have l4 := (m.getD 4 0).toNat_lt
    obtain ⟨v4, hv4⟩ : ∃ v, (m.getD 4 0).toNat = v := ⟨_, rfl⟩
    rw [hv4] at c4 l4
    have l5 := (m.getD 5 0).toNat_lt
    obtain ⟨v5, hv5⟩ : ∃ v, (m.getD 5 0).toNat = v := ⟨_, rfl⟩
    rw [hv5] at c5 l5
    have l6 := (m.getD 6 0).toNat_lt
    obtain ⟨v6, hv6⟩ : ∃ v, (m.getD 6 0).toNat = v := ⟨_, rfl⟩
    rw [hv6] at c6 l6
    have l7 := (m.getD 7 0).toNat_lt
    obtain ⟨v7, hv7⟩ : ∃ v, (m.getD 7 0).toNat = v := ⟨_, rfl⟩
    rw [hv7] at c7 l7
    have l12 := (m.getD 12 0).toNat_lt
    obtain ⟨v12, hv12⟩ : ∃ v, (m.getD 12 0).toNat = v := ⟨_, rfl⟩
    rw [hv12] at c12 l12
    have l13 := (m.getD 13 0).toNat_lt
    obtain ⟨v13, hv13⟩ : ∃ v, (m.getD 13 0).toNat = v := ⟨_, rfl⟩
    rw [hv13] at c13 l13
    have l14 := (m.getD 14 0).toNat_lt
    obtain ⟨v14, hv14⟩ : ∃ v, (m.getD 14 0).toNat = v := ⟨_, rfl⟩
    rw [hv14] at c14 l14
    have l15 := (m.getD 15 0).toNat_lt
    obtain ⟨v15, hv15⟩ : ∃ v, (m.getD 15 0).toNat = v := ⟨_, rfl⟩
    rw [hv15] at c15 l15
    have l16 := (m.getD 16 0).toNat_lt
    obtain ⟨v16, hv16⟩ : ∃ v, (m.getD 16 0).toNat = v := ⟨_, rfl⟩
    rw [hv16] at c16 l16
    have l17 := (m.getD 17 0).toNat_lt
    obtain ⟨v17, hv17⟩ : ∃ v, (m.getD 17 0).toNat = v := ⟨_, rfl⟩
    rw [hv17] at c17 l17
    have l18 := (m.getD 18 0).toNat_lt
    obtain ⟨v18, hv18⟩ : ∃ v, (m.getD 18 0).toNat = v := ⟨_, rfl⟩
    rw [hv18] at c18 l18
    have l19 := (m.getD 19 0).toNat_lt
    obtain ⟨v19, hv19⟩ : ∃ v, (m.getD 19 0).toNat = v := ⟨_, rfl⟩
    rw [hv19] at c19 l19
    rw [hv2, hv3] at n2
    rw [hv4, hv5] at n4
    rw [hv6, hv7] at n6
    rw [hv12, hv13, hv14, hv15] at n12
    rw [hv16, hv17, hv18, hv19] at n16
    clear hv2 hv3 hv4 hv5 hv6 hv7 hv12 hv13 hv14 hv15 hv16 hv17 hv18 hv19
    have hbits : (⟨xtos, xid, xdf, xmf, xoff, xttl, xpr, xsrc, xdst, xl⟩ : Pk).bits = xoff / 8 + (if xdf = true then 16384 else 0) + (if xmf = true then 8192 else 0) := rfl
    rw [hbits] at n6
    clear hbits
    have m20 : ¬ (m.length : Int) < 20 := by omega
    have N20 := Lib.hid n20
    have N2 := Lib.hid n2
    have N4 := Lib.hid n4
    have N6 := Lib.hid n6
    have N12 := Lib.hid n12
    have N16 := Lib.hid n16
    have HML := Lib.hid hml
    have hp0 : 0 < m.length := by omega
    clear n0 n1 n8 n9 n20 n2 n4 n6 n12 n16 hml
    go_upto_region 8 with fail
    have q1 : IntKind.i64.wrap (v2 : Int) = v2 := IntWalk.i64_in _ (by omega)
    have q2 : IntKind.i64.wrap (v3 : Int) = v3 := IntWalk.i64_in _ (by omega)
    have q3 : IntKind.i64.wrap ((v2 : Int) * 256) = v2 * 256 := IntWalk.i64_in _ (by omega)
    have q4 : IntKind.i64.wrap ((v2 : Int) * 256 + v3) = (m.length : Int) := by rw [IntWalk.i64_in _ (by omega)]; exact N2.out
    go_quiet (fail)
    generalize nq = n1
    clear q1 q2 q3 q4
    obtain ⟨B, hB⟩ : ∃ B : Int, B = (v6 : Int) * 256 + v7 := ⟨_, rfl⟩
    have hB0 : 0 ≤ B := by omega
    have hB1 : B ≤ 65535 := by omega
    have q1 : IntKind.i64.wrap (v6 : Int) = v6 := IntWalk.i64_in _ (by omega)
    have q2 : IntKind.i64.wrap (v7 : Int) = v7 := IntWalk.i64_in _ (by omega)
    have q3 : IntKind.i64.wrap ((v6 : Int) * 256) = v6 * 256 := IntWalk.i64_in _ (by omega)
    have q4 : IntKind.i64.wrap ((v6 : Int) * 256 + v7) = B := by rw [IntWalk.i64_in _ (by omega)]; exact hB.symm
    have HB := Lib.hid hB
    clear hB
    go_upto_region 9 with fail
    go_quiet (fail)
    generalize nq = n2
    clear q1 q2 q3 q4
    go_upto_region 10 with fail
    have q1 : IntKind.u32.wrap (v12 : Int) = v12 := IntWalk.u32_in _ (by omega)
    have q2 : IntKind.u32.wrap (v13 : Int) = v13 := IntWalk.u32_in _ (by omega)
    have q3 : IntKind.u32.wrap (v14 : Int) = v14 := IntWalk.u32_in _ (by omega)
    have q4 : IntKind.u32.wrap (v15 : Int) = v15 := IntWalk.u32_in _ (by omega)
    have q5 : IntKind.u32.wrap ((v12 : Int) * 16777216) = v12 * 16777216 := IntWalk.u32_in _ (by omega)
    have q6 : IntKind.u32.wrap ((v13 : Int) * 65536) = v13 * 65536 := IntWalk.u32_in _ (by omega)
    have q7 : IntKind.u32.wrap ((v14 : Int) * 256) = v14 * 256 := IntWalk.u32_in _ (by omega)
    have q8 : IntKind.u32.wrap ((v12 : Int) * 16777216 + v13 * 65536) = v12 * 16777216 + v13 * 65536 := IntWalk.u32_in _ (by omega)
    have q9 : IntKind.u32.wrap ((v12 : Int) * 16777216 + v13 * 65536 + v14 * 256) = v12 * 16777216 + v13 * 65536 + v14 * 256 := IntWalk.u32_in _ (by omega)
    have qa : IntKind.u32.wrap ((v12 : Int) * 16777216 + v13 * 65536 + v14 * 256 + v15) = xsrc := by rw [IntWalk.u32_in _ (by omega)]; exact N12.out
    go_quiet (fail)
    generalize nq = n3
    clear q1 q2 q3 q4 q5 q6 q7 q8 q9 qa
    go_upto_region 11 with fail
    have q1 : IntKind.u32.wrap (v16 : Int) = v16 := IntWalk.u32_in _ (by omega)
    have q2 : IntKind.u32.wrap (v17 : Int) = v17 := IntWalk.u32_in _ (by omega)
    have q3 : IntKind.u32.wrap (v18 : Int) = v18 := IntWalk.u32_in _ (by omega)
    have q4 : IntKind.u32.wrap (v19 : Int) = v19 := IntWalk.u32_in _ (by omega)
    have q5 : IntKind.u32.wrap ((v16 : Int) * 16777216) = v16 * 16777216 := IntWalk.u32_in _ (by omega)
    have q6 : IntKind.u32.wrap ((v17 : Int) * 65536) = v17 * 65536 := IntWalk.u32_in _ (by omega)
    have q7 : IntKind.u32.wrap ((v18 : Int) * 256) = v18 * 256 := IntWalk.u32_in _ (by omega)
    have q8 : IntKind.u32.wrap ((v16 : Int) * 16777216 + v17 * 65536) = v16 * 16777216 + v17 * 65536 := IntWalk.u32_in _ (by omega)
    have q9 : IntKind.u32.wrap ((v16 : Int) * 16777216 + v17 * 65536 + v18 * 256) = v16 * 16777216 + v17 * 65536 + v18 * 256 := IntWalk.u32_in _ (by omega)
    have qa : IntKind.u32.wrap ((v16 : Int) * 16777216 + v17 * 65536 + v18 * 256 + v19) = xdst := by rw [IntWalk.u32_in _ (by omega)]; exact N16.out
    go_quiet (fail)
    generalize nq = n4
    clear q1 q2 q3 q4 q5 q6 q7 q8 q9 qa
    go_upto_region 12 with fail
    have hx : Ex (fun _ => False) w5 ((((w5.drewN n1).drewN n2).drewN n3).drewN n4) := ((((Ex.refl _ w5).drewN n1).drewN n2).drewN n3).drewN n4
    generalize (((w5.drewN n1).drewN n2).drewN n3).drewN n4 = w6 at hx ⊢
    replace c0 := hx.cell c0 id
    replace c1 := hx.cell c1 id
    replace c2 := hx.cell c2 id
    replace c3 := hx.cell c3 id
    replace c4 := hx.cell c4 id
    replace c5 := hx.cell c5 id
    replace c6 := hx.cell c6 id
    replace c7 := hx.cell c7 id
    replace c8 := hx.cell c8 id
    replace c9 := hx.cell c9 id
    replace c12 := hx.cell c12 id
    replace c13 := hx.cell c13 id
    replace c14 := hx.cell c14 id
    replace c15 := hx.cell c15 id
    replace c16 := hx.cell c16 id
    replace c17 := hx.cell c17 id
    replace c18 := hx.cell c18 id
    replace c19 := hx.cell c19 id
    have HX_w6 := Lib.hid hx
    clear hx
    replace HO5 := Lib.hid (OB.keep HO5.out HX_w6.out (fun _ _ _ _ => id))
    replace B_bp := Lib.hid (((HX_w5.out.trans HX_w6.out).block bp (row_lt B_bp.out) id).trans B_bp.out)
    have cbp0 := row_cell (k := 0) (v := .int .u8 xtos) B_bp.out rfl
    have cbp1 := row_cell (k := 1) (v := .int .u16 xid) B_bp.out rfl
    have cbp2 := row_cell (k := 2) (v := .bool xdf) B_bp.out rfl
    have cbp3 := row_cell (k := 3) (v := .bool xmf) B_bp.out rfl
    have cbp4 := row_cell (k := 4) (v := .int .i64 xoff) B_bp.out rfl
    have cbp5 := row_cell (k := 5) (v := .int .u8 xttl) B_bp.out rfl
    have cbp6 := row_cell (k := 6) (v := .int .u8 xpr) B_bp.out rfl
    have cbp7 := row_cell (k := 7) (v := .int .u32 xsrc) B_bp.out rfl
    have cbp8 := row_cell (k := 8) (v := .int .u32 xdst) B_bp.out rfl
    have cbp9 := row_cell (k := 9) (v := .slice (some xA) xl.length xc) B_bp.out rfl
    have d1 : IntKind.i64.wrap (v4 : Int) = v4 := IntWalk.i64_in _ (by omega)
    have d2 : IntKind.i64.wrap (v5 : Int) = v5 := IntWalk.i64_in _ (by omega)
    have d3 : IntKind.i64.wrap ((v4 : Int) * 256) = v4 * 256 := IntWalk.i64_in _ (by omega)
    have d4 : IntKind.i64.wrap ((v4 : Int) * 256 + v5) = xid := by rw [IntWalk.i64_in _ (by omega)]; exact N4.out
    obtain ⟨_, o1, _⟩ := OKP.out
    simp only at o1
    have d5 : IntKind.i64.wrap xid = xid := IntWalk.i64_in _ (by omega)
    have hBe : B = xoff / 8 + (if xdf = true then 16384 else 0) + (if xmf = true then 8192 else 0) := by rw [HB.out]; exact N6.out
    have e1 : B % 8192 = xoff / 8 := by rw [hBe]; split <;> split <;> omega
    have e2 : B.tmod 8192 = xoff / 8 := by rw [Int.tmod_eq_emod_of_nonneg hB0]; exact e1
    have e3 : xoff / 8 * 8 = xoff := by omega
    have e4 : IntKind.i64.wrap (xoff / 8 * 8) = xoff := by rw [e3]; exact IntWalk.i64_in _ (by omega)
    obtain ⟨b1, hb1⟩ : ∃ b1, b1 = B / 8192 := ⟨_, rfl⟩
    obtain ⟨b2, hb2⟩ : ∃ b2, b2 = B / 16384 := ⟨_, rfl⟩
    have e5 : (b1 % 2 == 1) = xmf := by
      cases xmf
      · rw [beq_eq_false_iff_ne]; simp only [Bool.false_eq_true, if_false] at hBe; split at hBe <;> omega
      · rw [beq_iff_eq]; simp only [if_true] at hBe; split at hBe <;> omega
    have e6 : (b2 % 2 == 1) = xdf := by
      cases xdf
      · rw [beq_eq_false_iff_ne]; simp only [Bool.false_eq_true, if_false] at hBe; split at hBe <;> omega
      · rw [beq_iff_eq]; simp only [if_true] at hBe; split at hBe <;> omega
    have e7 : b1.tmod 2 = b1 % 2 := Int.tmod_eq_emod_of_nonneg (by omega)
    have e8 : b2.tmod 2 = b2 % 2 := Int.tmod_eq_emod_of_nonneg (by omega)
    have e9 : B.tdiv 8192 = b1 := by rw [Int.tdiv_eq_ediv_of_nonneg hB0]; exact hb1.symm
    have e10 : B.tdiv 16384 = b2 := by rw [Int.tdiv_eq_ediv_of_nonneg hB0]; exact hb2.symm
    have e11 : decide (B < 32768) = true := by rw [decide_eq_true_eq, hBe]; split <;> split <;> omega
    have e14 : IntKind.i64.wrap b1 = b1 := IntWalk.i64_in _ (by omega)
    have e15 : IntKind.i64.wrap b2 = b2 := IntWalk.i64_in _ (by omega)
    have e12 : B / 8192 = b1 := hb1.symm
    have e13 : B / 16384 = b2 := hb2.symm
    clear hBe hb1 hb2 e3 l2 l3 l4 l5 l6 l7 l12 l13 l14 l15 l16 l17 l18 l19 o1 o5 o6 r1 r2 r4 r5
    have hcc5 : m.length ≤ cc5 := by obtain ⟨_, _, _, e, h, _⟩ := HO5.out.rb; injection e with _ _ e3; rw [e3]; exact h
    have hr20 : RB w6 (fun _ => True) (.slice (if cc5 = 20 then some ⟨g5, 0, none⟩ else some ⟨g5, 20, none⟩) (m.length - 20) (cc5 - 20)) xl := by
      split
      · have hxl : xl = [] := List.length_eq_zero_iff.1 (by have := HML.out; omega)
        rw [hxl, show m.length - 20 = 0 by omega]
        exact ⟨by simp, _, _, rfl, by simp, fun i hi => by simp at hi⟩
      · have h := RB.any (HO5.out.rb.slice 20 m.length (by omega) (Nat.le_refl _))
        rw [List.take_length, N20.out, Nat.zero_add] at h
        exact h
    obtain ⟨AD, hAD⟩ : ∃ AD : Option Addr, (if cc5 = 20 then some ⟨g5, 0, none⟩ else some ⟨g5, 20, none⟩) = AD := ⟨_, rfl⟩
    rw [hAD] at hr20
    have HAD := Lib.hid hAD
    clear hAD
    have hcv1 : ∀ W, Ex (fun _ => False) w6 W → (convert 22 9 (.slice AD (m.length - 20) (cc5 - 20))).run Tryd.prog W = .ok (.string (bs xl)) W := conv_later hr20
    clear hr20
    have hcv2 : ∀ W, Ex (fun _ => False) w6 W → (convert 22 9 (.slice (some xA) xl.length xc)).run Tryd.prog W = .ok (.string (bs xl)) W := conv_later (RB.any (OB.keep (OB.keepB HO_x.out HX_w4.out (by omega)) (HX_w5.out.trans HX_w6.out) (fun _ _ _ _ => id)).rb)
    have HV1 := Lib.hid hcv1
    have HV2 := Lib.hid hcv2
    clear hcv1 hcv2
    have hS0 : Ex (fun _ => False) w6 w6.drew := (Ex.refl _ w6).drew
    clear_value Q0
    have hq0 := HQ0.out
    subst hq0
    clear HQ0
    refine wp_region_held_drew (S := fun W => Ex (fun _ => False) w6 W) (by kernel_rfl) hS0 (fun _ => ?_)
    refine wpAnyH_take (i := 0) (oi := { dst := some 93, op := Go.Op.move (Go.Operand.tmp 3), type := 4, pos := "more.go:36", after := #[], guard := none }) (v := ?v1) rfl (by kernel_rfl) (by kernel_rfl) (by kernel_rfl) (fun _ _ _ h => h) (Or.inl ⟨by rfl, ?hy1⟩) (by assumption) ?rest1
    case hy1 => (intro w hSw; (try dsimp only at hSw); go_simp <;> with_reducible rfl)
    try simp only [Act.put, List.setIfInBounds_toArray, List.set_cons_zero, List.set_cons_succ]
    refine wpAnyH_take (i := 1) (oi := { dst := some 94, op := Go.Op.move (Go.Operand.tmp 93), type := 4, pos := "more.go:36", after := #[{ on := 0, ground := Go.Ground.data }], guard := none }) (v := ?v2) rfl (by kernel_rfl) (by kernel_rfl) (by kernel_rfl) (fun _ _ _ h => h) (Or.inl ⟨by rfl, ?hy2⟩) (by assumption) ?rest2
    case hy2 => (intro w hSw; (try dsimp only at hSw); go_simp <;> with_reducible rfl)
    try simp only [Act.put, List.setIfInBounds_toArray, List.set_cons_zero, List.set_cons_succ]
    refine wpAnyH_take (i := 2) (oi := { dst := some 95, op := Go.Op.move (Go.Operand.tmp 4), type := 22, pos := "more.go:36", after := #[{ on := 1, ground := Go.Ground.guard }], guard := some (1, true) }) (v := ?v3) rfl (by kernel_rfl) (by kernel_rfl) (by kernel_rfl) (fun _ _ _ h => h) (Or.inl ⟨by rfl, ?hy3⟩) (by assumption) ?rest3
    case hy3 => (intro w hSw; (try dsimp only at hSw); go_simp <;> with_reducible rfl)
    try simp only [Act.put, List.setIfInBounds_toArray, List.set_cons_zero, List.set_cons_succ]
    refine wpAnyH_take (i := 3) (oi := { dst := some 96, op := Go.Op.indexAddr 22 (Go.Operand.tmp 95) (Go.Operand.const (Go.Value.int Go.IntKind.i64 0)), type := 0, pos := "more.go:36", after := #[{ on := 2, ground := Go.Ground.data }, { on := 1, ground := Go.Ground.guard }], guard := some (1, true) }) (v := ?v4) rfl (by kernel_rfl) (by kernel_rfl) (by kernel_rfl) (fun _ _ _ h => h) (Or.inl ⟨by rfl, ?hy4⟩) (by assumption) ?rest4
    case hy4 => (intro w hSw; (try dsimp only at hSw); go_simp <;> with_reducible rfl)
    try simp only [Act.put, List.setIfInBounds_toArray, List.set_cons_zero, List.set_cons_succ]
    refine wpAnyH_take (i := 4) (oi := { dst := some 97, op := Go.Op.load 5 (Go.Operand.tmp 96), type := 5, pos := "more.go:36", after := #[{ on := 3, ground := Go.Ground.data }, { on := 1, ground := Go.Ground.guard }], guard := some (1, true) }) (v := ?v5) rfl (by kernel_rfl) (by kernel_rfl) (by kernel_rfl) (fun _ _ _ h => h) (Or.inl ⟨by rfl, ?hy5⟩) (by assumption) ?rest5
    case hy5 => (intro w hSw; (try dsimp only at hSw); have e := hSw.cell c0 id; go_simp <;> with_reducible rfl)
    try simp only [Act.put, List.setIfInBounds_toArray, List.set_cons_zero, List.set_cons_succ]
    refine wpAnyH_take (i := 5) (oi := { dst := some 98, op := Go.Op.binOp Go.BinOp.eql 5 (Go.Operand.tmp 97) (Go.Operand.const (Go.Value.int Go.IntKind.u8 69)) 5, type := 4, pos := "more.go:36", after := #[{ on := 4, ground := Go.Ground.data }, { on := 1, ground := Go.Ground.guard }], guard := some (1, true) }) (v := ?v6) rfl (by kernel_rfl) (by kernel_rfl) (by kernel_rfl) (fun _ _ _ h => h) (Or.inl ⟨by rfl, ?hy6⟩) (by assumption) ?rest6
    case hy6 => (intro w hSw; (try dsimp only at hSw); go_simp <;> with_reducible rfl)
    try simp only [Act.put, List.setIfInBounds_toArray, List.set_cons_zero, List.set_cons_succ]
    refine wpAnyH_take (i := 6) (oi := { dst := some 99, op := Go.Op.pick (Go.Operand.tmp 94) (Go.Operand.tmp 98) (Go.Operand.const (Go.Value.bool false)), type := 4, pos := "more.go:36", after := #[{ on := 1, ground := Go.Ground.data }, { on := 5, ground := Go.Ground.data }], guard := none }) (v := ?v7) rfl (by kernel_rfl) (by kernel_rfl) (by kernel_rfl) (fun _ _ _ h => h) (Or.inl ⟨by rfl, ?hy7⟩) (by assumption) ?rest7
    case hy7 => (intro w hSw; (try dsimp only at hSw); go_simp <;> with_reducible rfl)
    try simp only [Act.put, List.setIfInBounds_toArray, List.set_cons_zero, List.set_cons_succ]
    refine wpAnyH_take (i := 7) (oi := { dst := some 100, op := Go.Op.move (Go.Operand.tmp 99), type := 4, pos := "more.go:36", after := #[{ on := 6, ground := Go.Ground.data }, { on := 1, ground := Go.Ground.chain }], guard := none }) (v := ?v8) rfl (by kernel_rfl) (by kernel_rfl) (by kernel_rfl) (fun _ _ _ h => h) (Or.inl ⟨by rfl, ?hy8⟩) (by assumption) ?rest8
    case hy8 => (intro w hSw; (try dsimp only at hSw); go_simp <;> with_reducible rfl)
    try simp only [Act.put, List.setIfInBounds_toArray, List.set_cons_zero, List.set_cons_succ]
    refine wpAnyH_take (i := 8) (oi := { dst := some 101, op := Go.Op.move (Go.Operand.tmp 4), type := 22, pos := "more.go:36", after := #[{ on := 7, ground := Go.Ground.guard }], guard := some (7, true) }) (v := ?v9) rfl (by kernel_rfl) (by kernel_rfl) (by kernel_rfl) (fun _ _ _ h => h) (Or.inl ⟨by rfl, ?hy9⟩) (by assumption) ?rest9
    case hy9 => (intro w hSw; (try dsimp only at hSw); go_simp <;> with_reducible rfl)
    try simp only [Act.put, List.setIfInBounds_toArray, List.set_cons_zero, List.set_cons_succ]
    refine wpAnyH_take (i := 9) (oi := { dst := some 102, op := Go.Op.indexAddr 22 (Go.Operand.tmp 101) (Go.Operand.const (Go.Value.int Go.IntKind.i64 1)), type := 0, pos := "more.go:36", after := #[{ on := 8, ground := Go.Ground.data }, { on := 7, ground := Go.Ground.guard }], guard := some (7, true) }) (v := ?v10) rfl (by kernel_rfl) (by kernel_rfl) (by kernel_rfl) (fun _ _ _ h => h) (Or.inl ⟨by rfl, ?hy10⟩) (by assumption) ?rest10
    case hy10 => (intro w hSw; (try dsimp only at hSw); have e : (1 : Int) < (m.length : Int) := (by omega); go_simp <;> with_reducible rfl)
    try simp only [Act.put, List.setIfInBounds_toArray, List.set_cons_zero, List.set_cons_succ]
    refine wpAnyH_take (i := 10) (oi := { dst := some 103, op := Go.Op.load 5 (Go.Operand.tmp 102), type := 5, pos := "more.go:36", after := #[{ on := 9, ground := Go.Ground.data }, { on := 7, ground := Go.Ground.guard }], guard := some (7, true) }) (v := ?v11) rfl (by kernel_rfl) (by kernel_rfl) (by kernel_rfl) (fun _ _ _ h => h) (Or.inl ⟨by rfl, ?hy11⟩) (by assumption) ?rest11
    case hy11 => (intro w hSw; (try dsimp only at hSw); have e := hSw.cell c1 id; go_simp <;> with_reducible rfl)
    try simp only [Act.put, List.setIfInBounds_toArray, List.set_cons_zero, List.set_cons_succ]
    refine wpAnyH_take (i := 11) (oi := { dst := some 104, op := Go.Op.fieldAddr 51 (Go.Operand.tmp 1) 0, type := 0, pos := "more.go:36", after := #[{ on := 7, ground := Go.Ground.guard }], guard := some (7, true) }) (v := ?v12) rfl (by kernel_rfl) (by kernel_rfl) (by kernel_rfl) (fun _ _ _ h => h) (Or.inl ⟨by rfl, ?hy12⟩) (by assumption) ?rest12
    case hy12 => (intro w hSw; (try dsimp only at hSw); go_simp <;> with_reducible rfl)
    try simp only [Act.put, List.setIfInBounds_toArray, List.set_cons_zero, List.set_cons_succ]
    as_aux_lemma =>
      refine wpAnyH_take (i := 12) (oi := { dst := some 105, op := Go.Op.load 5 (Go.Operand.tmp 104), type := 5, pos := "more.go:36", after := #[{ on := 11, ground := Go.Ground.data }, { on := 7, ground := Go.Ground.guard }], guard := some (7, true) }) (v := ?v13) rfl (by kernel_rfl) (by kernel_rfl) (by kernel_rfl) (fun _ _ _ h => h) (Or.inl ⟨by rfl, ?hy13⟩) (by assumption) ?rest13
      case hy13 => (intro w hSw; (try dsimp only at hSw); have e := hSw.cell cbp0 id; go_simp <;> with_reducible rfl)
      try simp only [Act.put, List.setIfInBounds_toArray, List.set_cons_zero, List.set_cons_succ]
      refine wpAnyH_take (i := 13) (oi := { dst := some 106, op := Go.Op.binOp Go.BinOp.eql 5 (Go.Operand.tmp 103) (Go.Operand.tmp 105) 5, type := 4, pos := "more.go:36", after := #[{ on := 10, ground := Go.Ground.data }, { on := 12, ground := Go.Ground.data }, { on := 7, ground := Go.Ground.guard }], guard := some (7, true) }) (v := ?v14) rfl (by kernel_rfl) (by kernel_rfl) (by kernel_rfl) (fun _ _ _ h => h) (Or.inl ⟨by rfl, ?hy14⟩) (by assumption) ?rest14
      case hy14 => (intro w hSw; (try dsimp only at hSw); go_simp <;> with_reducible rfl)
      try simp only [Act.put, List.setIfInBounds_toArray, List.set_cons_zero, List.set_cons_succ]
      refine wpAnyH_take (i := 14) (oi := { dst := some 107, op := Go.Op.pick (Go.Operand.tmp 100) (Go.Operand.tmp 106) (Go.Operand.const (Go.Value.bool false)), type := 4, pos := "more.go:36", after := #[{ on := 7, ground := Go.Ground.data }, { on := 13, ground := Go.Ground.data }], guard := none }) (v := ?v15) rfl (by kernel_rfl) (by kernel_rfl) (by kernel_rfl) (fun _ _ _ h => h) (Or.inl ⟨by rfl, ?hy15⟩) (by assumption) ?rest15
      case hy15 => (intro w hSw; (try dsimp only at hSw); go_simp <;> with_reducible rfl)
      try simp only [Act.put, List.setIfInBounds_toArray, List.set_cons_zero, List.set_cons_succ]
      refine wpAnyH_take (i := 15) (oi := { dst := some 108, op := Go.Op.move (Go.Operand.tmp 107), type := 4, pos := "more.go:36", after := #[{ on := 14, ground := Go.Ground.data }, { on := 7, ground := Go.Ground.chain }], guard := none }) (v := ?v16) rfl (by kernel_rfl) (by kernel_rfl) (by kernel_rfl) (fun _ _ _ h => h) (Or.inl ⟨by rfl, ?hy16⟩) (by assumption) ?rest16
      case hy16 => (intro w hSw; (try dsimp only at hSw); go_simp <;> with_reducible rfl)
      try simp only [Act.put, List.setIfInBounds_toArray, List.set_cons_zero, List.set_cons_succ]
      refine wpAnyH_take (i := 16) (oi := { dst := some 109, op := Go.Op.move (Go.Operand.tmp 6), type := 3, pos := "more.go:36", after := #[{ on := 15, ground := Go.Ground.guard }], guard := some (15, true) }) (v := ?v17) rfl (by kernel_rfl) (by kernel_rfl) (by kernel_rfl) (fun _ _ _ h => h) (Or.inl ⟨by rfl, ?hy17⟩) (by assumption) ?rest17
      case hy17 => (intro w hSw; (try dsimp only at hSw); go_simp <;> with_reducible rfl)
      try simp only [Act.put, List.setIfInBounds_toArray, List.set_cons_zero, List.set_cons_succ]
      refine wpAnyH_take (i := 17) (oi := { dst := some 110, op := Go.Op.move (Go.Operand.tmp 4), type := 22, pos := "more.go:36", after := #[{ on := 15, ground := Go.Ground.guard }], guard := some (15, true) }) (v := ?v18) rfl (by kernel_rfl) (by kernel_rfl) (by kernel_rfl) (fun _ _ _ h => h) (Or.inl ⟨by rfl, ?hy18⟩) (by assumption) ?rest18
      case hy18 => (intro w hSw; (try dsimp only at hSw); go_simp <;> with_reducible rfl)
      try simp only [Act.put, List.setIfInBounds_toArray, List.set_cons_zero, List.set_cons_succ]
      refine wpAnyH_take (i := 18) (oi := { dst := some 111, op := Go.Op.call { callee := Go.Callee.builtin Go.Builtin.len, args := #[Go.Operand.tmp 110], argTypes := #[22] }, type := 3, pos := "more.go:36", after := #[{ on := 17, ground := Go.Ground.data }, { on := 15, ground := Go.Ground.guard }], guard := some (15, true) }) (v := ?v19) rfl (by kernel_rfl) (by kernel_rfl) (by kernel_rfl) (fun _ _ _ h => h) (Or.inl ⟨by rfl, ?hy19⟩) (by assumption) ?rest19
      case hy19 => (intro w hSw; (try dsimp only at hSw); go_simp <;> with_reducible rfl)
      try simp only [Act.put, List.setIfInBounds_toArray, List.set_cons_zero, List.set_cons_succ]
      refine wpAnyH_take (i := 19) (oi := { dst := some 112, op := Go.Op.binOp Go.BinOp.eql 3 (Go.Operand.tmp 109) (Go.Operand.tmp 111) 3, type := 4, pos := "more.go:36", after := #[{ on := 16, ground := Go.Ground.data }, { on := 18, ground := Go.Ground.data }, { on := 15, ground := Go.Ground.guard }], guard := some (15, true) }) (v := ?v20) rfl (by kernel_rfl) (by kernel_rfl) (by kernel_rfl) (fun _ _ _ h => h) (Or.inl ⟨by rfl, ?hy20⟩) (by assumption) ?rest20
      case hy20 => (intro w hSw; (try dsimp only at hSw); go_simp <;> with_reducible rfl)
      try simp only [Act.put, List.setIfInBounds_toArray, List.set_cons_zero, List.set_cons_succ]
      refine wpAnyH_take (i := 20) (oi := { dst := some 113, op := Go.Op.pick (Go.Operand.tmp 108) (Go.Operand.tmp 112) (Go.Operand.const (Go.Value.bool false)), type := 4, pos := "more.go:36", after := #[{ on := 15, ground := Go.Ground.data }, { on := 19, ground := Go.Ground.data }], guard := none }) (v := ?v21) rfl (by kernel_rfl) (by kernel_rfl) (by kernel_rfl) (fun _ _ _ h => h) (Or.inl ⟨by rfl, ?hy21⟩) (by assumption) ?rest21
      case hy21 => (intro w hSw; (try dsimp only at hSw); go_simp <;> with_reducible rfl)
      try simp only [Act.put, List.setIfInBounds_toArray, List.set_cons_zero, List.set_cons_succ]
      refine wpAnyH_take (i := 21) (oi := { dst := some 114, op := Go.Op.move (Go.Operand.tmp 113), type := 4, pos := "more.go:36", after := #[{ on := 20, ground := Go.Ground.data }, { on := 15, ground := Go.Ground.chain }], guard := none }) (v := ?v22) rfl (by kernel_rfl) (by kernel_rfl) (by kernel_rfl) (fun _ _ _ h => h) (Or.inl ⟨by rfl, ?hy22⟩) (by assumption) ?rest22
      case hy22 => (intro w hSw; (try dsimp only at hSw); go_simp <;> with_reducible rfl)
      try simp only [Act.put, List.setIfInBounds_toArray, List.set_cons_zero, List.set_cons_succ]
      refine wpAnyH_take (i := 22) (oi := { dst := some 115, op := Go.Op.move (Go.Operand.tmp 4), type := 22, pos := "more.go:36", after := #[{ on := 21, ground := Go.Ground.guard }], guard := some (21, true) }) (v := ?v23) rfl (by kernel_rfl) (by kernel_rfl) (by kernel_rfl) (fun _ _ _ h => h) (Or.inl ⟨by rfl, ?hy23⟩) (by assumption) ?rest23
      case hy23 => (intro w hSw; (try dsimp only at hSw); go_simp <;> with_reducible rfl)
      try simp only [Act.put, List.setIfInBounds_toArray, List.set_cons_zero, List.set_cons_succ]
      refine wpAnyH_take (i := 23) (oi := { dst := some 116, op := Go.Op.indexAddr 22 (Go.Operand.tmp 115) (Go.Operand.const (Go.Value.int Go.IntKind.i64 4)), type := 0, pos := "more.go:36", after := #[{ on := 22, ground := Go.Ground.data }, { on := 21, ground := Go.Ground.guard }], guard := some (21, true) }) (v := ?v24) rfl (by kernel_rfl) (by kernel_rfl) (by kernel_rfl) (fun _ _ _ h => h) (Or.inl ⟨by rfl, ?hy24⟩) (by assumption) ?rest24
      case hy24 => (intro w hSw; (try dsimp only at hSw); have e : (4 : Int) < (m.length : Int) := (by omega); go_simp <;> with_reducible rfl)
      try simp only [Act.put, List.setIfInBounds_toArray, List.set_cons_zero, List.set_cons_succ]
      as_aux_lemma =>
        refine wpAnyH_take (i := 24) (oi := { dst := some 117, op := Go.Op.load 5 (Go.Operand.tmp 116), type := 5, pos := "more.go:36", after := #[{ on := 23, ground := Go.Ground.data }, { on := 21, ground := Go.Ground.guard }], guard := some (21, true) }) (v := ?v25) rfl (by kernel_rfl) (by kernel_rfl) (by kernel_rfl) (fun _ _ _ h => h) (Or.inl ⟨by rfl, ?hy25⟩) (by assumption) ?rest25
        case hy25 => (intro w hSw; (try dsimp only at hSw); have e := hSw.cell c4 id; go_simp <;> with_reducible rfl)
        try simp only [Act.put, List.setIfInBounds_toArray, List.set_cons_zero, List.set_cons_succ]
        refine wpAnyH_take (i := 25) (oi := { dst := some 118, op := Go.Op.convert 5 3 (Go.Operand.tmp 117), type := 3, pos := "more.go:36", after := #[{ on := 24, ground := Go.Ground.data }, { on := 21, ground := Go.Ground.guard }], guard := some (21, true) }) (v := ?v26) rfl (by kernel_rfl) (by kernel_rfl) (by kernel_rfl) (fun _ _ _ h => h) (Or.inl ⟨by rfl, ?hy26⟩) (by assumption) ?rest26
        case hy26 => (intro w hSw; (try dsimp only at hSw); go_simp <;> with_reducible rfl)
        try simp only [Act.put, List.setIfInBounds_toArray, List.set_cons_zero, List.set_cons_succ]
        refine wpAnyH_take (i := 26) (oi := { dst := some 119, op := Go.Op.binOp Go.BinOp.mul 3 (Go.Operand.tmp 118) (Go.Operand.const (Go.Value.int Go.IntKind.i64 256)) 3, type := 3, pos := "more.go:36", after := #[{ on := 25, ground := Go.Ground.data }, { on := 21, ground := Go.Ground.guard }], guard := some (21, true) }) (v := ?v27) rfl (by kernel_rfl) (by kernel_rfl) (by kernel_rfl) (fun _ _ _ h => h) (Or.inl ⟨by rfl, ?hy27⟩) (by assumption) ?rest27
        case hy27 => (intro w hSw; (try dsimp only at hSw); go_simp <;> with_reducible rfl)
        try simp only [Act.put, List.setIfInBounds_toArray, List.set_cons_zero, List.set_cons_succ]
        refine wpAnyH_take (i := 27) (oi := { dst := some 120, op := Go.Op.move (Go.Operand.tmp 4), type := 22, pos := "more.go:36", after := #[{ on := 21, ground := Go.Ground.guard }], guard := some (21, true) }) (v := ?v28) rfl (by kernel_rfl) (by kernel_rfl) (by kernel_rfl) (fun _ _ _ h => h) (Or.inl ⟨by rfl, ?hy28⟩) (by assumption) ?rest28
        case hy28 => (intro w hSw; (try dsimp only at hSw); go_simp <;> with_reducible rfl)
        try simp only [Act.put, List.setIfInBounds_toArray, List.set_cons_zero, List.set_cons_succ]
        refine wpAnyH_take (i := 28) (oi := { dst := some 121, op := Go.Op.indexAddr 22 (Go.Operand.tmp 120) (Go.Operand.const (Go.Value.int Go.IntKind.i64 5)), type := 0, pos := "more.go:36", after := #[{ on := 27, ground := Go.Ground.data }, { on := 21, ground := Go.Ground.guard }], guard := some (21, true) }) (v := ?v29) rfl (by kernel_rfl) (by kernel_rfl) (by kernel_rfl) (fun _ _ _ h => h) (Or.inl ⟨by rfl, ?hy29⟩) (by assumption) ?rest29
        case hy29 => (intro w hSw; (try dsimp only at hSw); have e : (5 : Int) < (m.length : Int) := (by omega); go_simp <;> with_reducible rfl)
        try simp only [Act.put, List.setIfInBounds_toArray, List.set_cons_zero, List.set_cons_succ]
        refine wpAnyH_take (i := 29) (oi := { dst := some 122, op := Go.Op.load 5 (Go.Operand.tmp 121), type := 5, pos := "more.go:36", after := #[{ on := 28, ground := Go.Ground.data }, { on := 21, ground := Go.Ground.guard }], guard := some (21, true) }) (v := ?v30) rfl (by kernel_rfl) (by kernel_rfl) (by kernel_rfl) (fun _ _ _ h => h) (Or.inl ⟨by rfl, ?hy30⟩) (by assumption) ?rest30
        case hy30 => (intro w hSw; (try dsimp only at hSw); have e := hSw.cell c5 id; go_simp <;> with_reducible rfl)
        try simp only [Act.put, List.setIfInBounds_toArray, List.set_cons_zero, List.set_cons_succ]
        refine wpAnyH_take (i := 30) (oi := { dst := some 123, op := Go.Op.convert 5 3 (Go.Operand.tmp 122), type := 3, pos := "more.go:36", after := #[{ on := 29, ground := Go.Ground.data }, { on := 21, ground := Go.Ground.guard }], guard := some (21, true) }) (v := ?v31) rfl (by kernel_rfl) (by kernel_rfl) (by kernel_rfl) (fun _ _ _ h => h) (Or.inl ⟨by rfl, ?hy31⟩) (by assumption) ?rest31
        case hy31 => (intro w hSw; (try dsimp only at hSw); go_simp <;> with_reducible rfl)
        try simp only [Act.put, List.setIfInBounds_toArray, List.set_cons_zero, List.set_cons_succ]
        refine wpAnyH_take (i := 31) (oi := { dst := some 124, op := Go.Op.binOp Go.BinOp.add 3 (Go.Operand.tmp 119) (Go.Operand.tmp 123) 3, type := 3, pos := "more.go:36", after := #[{ on := 26, ground := Go.Ground.data }, { on := 30, ground := Go.Ground.data }, { on := 21, ground := Go.Ground.guard }], guard := some (21, true) }) (v := ?v32) rfl (by kernel_rfl) (by kernel_rfl) (by kernel_rfl) (fun _ _ _ h => h) (Or.inl ⟨by rfl, ?hy32⟩) (by assumption) ?rest32
        case hy32 => (intro w hSw; (try dsimp only at hSw); go_simp <;> with_reducible rfl)
        try simp only [Act.put, List.setIfInBounds_toArray, List.set_cons_zero, List.set_cons_succ]
        refine wpAnyH_take (i := 32) (oi := { dst := some 125, op := Go.Op.fieldAddr 51 (Go.Operand.tmp 1) 1, type := 0, pos := "more.go:36", after := #[{ on := 21, ground := Go.Ground.guard }], guard := some (21, true) }) (v := ?v33) rfl (by kernel_rfl) (by kernel_rfl) (by kernel_rfl) (fun _ _ _ h => h) (Or.inl ⟨by rfl, ?hy33⟩) (by assumption) ?rest33
        case hy33 => (intro w hSw; (try dsimp only at hSw); go_simp <;> with_reducible rfl)
        try simp only [Act.put, List.setIfInBounds_toArray, List.set_cons_zero, List.set_cons_succ]
        refine wpAnyH_take (i := 33) (oi := { dst := some 126, op := Go.Op.load 23 (Go.Operand.tmp 125), type := 23, pos := "more.go:36", after := #[{ on := 32, ground := Go.Ground.data }, { on := 21, ground := Go.Ground.guard }], guard := some (21, true) }) (v := ?v34) rfl (by kernel_rfl) (by kernel_rfl) (by kernel_rfl) (fun _ _ _ h => h) (Or.inl ⟨by rfl, ?hy34⟩) (by assumption) ?rest34
        case hy34 => (intro w hSw; (try dsimp only at hSw); have e := hSw.cell cbp1 id; go_simp <;> with_reducible rfl)
        try simp only [Act.put, List.setIfInBounds_toArray, List.set_cons_zero, List.set_cons_succ]
        refine wpAnyH_take (i := 34) (oi := { dst := some 127, op := Go.Op.convert 23 3 (Go.Operand.tmp 126), type := 3, pos := "more.go:36", after := #[{ on := 33, ground := Go.Ground.data }, { on := 21, ground := Go.Ground.guard }], guard := some (21, true) }) (v := ?v35) rfl (by kernel_rfl) (by kernel_rfl) (by kernel_rfl) (fun _ _ _ h => h) (Or.inl ⟨by rfl, ?hy35⟩) (by assumption) ?rest35
        case hy35 => (intro w hSw; (try dsimp only at hSw); go_simp <;> with_reducible rfl)
        try simp only [Act.put, List.setIfInBounds_toArray, List.set_cons_zero, List.set_cons_succ]
        refine wpAnyH_take (i := 35) (oi := { dst := some 128, op := Go.Op.binOp Go.BinOp.eql 3 (Go.Operand.tmp 124) (Go.Operand.tmp 127) 3, type := 4, pos := "more.go:36", after := #[{ on := 31, ground := Go.Ground.data }, { on := 34, ground := Go.Ground.data }, { on := 21, ground := Go.Ground.guard }], guard := some (21, true) }) (v := ?v36) rfl (by kernel_rfl) (by kernel_rfl) (by kernel_rfl) (fun _ _ _ h => h) (Or.inl ⟨by rfl, ?hy36⟩) (by assumption) ?rest36
        case hy36 => (intro w hSw; (try dsimp only at hSw); go_simp <;> with_reducible rfl)
        try simp only [Act.put, List.setIfInBounds_toArray, List.set_cons_zero, List.set_cons_succ]
        as_aux_lemma =>
          refine wpAnyH_take (i := 36) (oi := { dst := some 129, op := Go.Op.pick (Go.Operand.tmp 114) (Go.Operand.tmp 128) (Go.Operand.const (Go.Value.bool false)), type := 4, pos := "more.go:36", after := #[{ on := 21, ground := Go.Ground.data }, { on := 35, ground := Go.Ground.data }], guard := none }) (v := ?v37) rfl (by kernel_rfl) (by kernel_rfl) (by kernel_rfl) (fun _ _ _ h => h) (Or.inl ⟨by rfl, ?hy37⟩) (by assumption) ?rest37
          case hy37 => (intro w hSw; (try dsimp only at hSw); go_simp <;> with_reducible rfl)
          try simp only [Act.put, List.setIfInBounds_toArray, List.set_cons_zero, List.set_cons_succ]
          refine wpAnyH_take (i := 37) (oi := { dst := some 130, op := Go.Op.move (Go.Operand.tmp 129), type := 4, pos := "more.go:36", after := #[{ on := 36, ground := Go.Ground.data }, { on := 21, ground := Go.Ground.chain }], guard := none }) (v := ?v38) rfl (by kernel_rfl) (by kernel_rfl) (by kernel_rfl) (fun _ _ _ h => h) (Or.inl ⟨by rfl, ?hy38⟩) (by assumption) ?rest38
          case hy38 => (intro w hSw; (try dsimp only at hSw); go_simp <;> with_reducible rfl)
          try simp only [Act.put, List.setIfInBounds_toArray, List.set_cons_zero, List.set_cons_succ]
          refine wpAnyH_take (i := 38) (oi := { dst := some 131, op := Go.Op.move (Go.Operand.tmp 7), type := 3, pos := "more.go:36", after := #[{ on := 37, ground := Go.Ground.guard }], guard := some (37, true) }) (v := ?v39) rfl (by kernel_rfl) (by kernel_rfl) (by kernel_rfl) (fun _ _ _ h => h) (Or.inl ⟨by rfl, ?hy39⟩) (by assumption) ?rest39
          case hy39 => (intro w hSw; (try dsimp only at hSw); go_simp <;> with_reducible rfl)
          try simp only [Act.put, List.setIfInBounds_toArray, List.set_cons_zero, List.set_cons_succ]
          refine wpAnyH_take (i := 39) (oi := { dst := some 132, op := Go.Op.binOp Go.BinOp.rem 3 (Go.Operand.tmp 131) (Go.Operand.const (Go.Value.int Go.IntKind.i64 8192)) 3, type := 3, pos := "more.go:36", after := #[{ on := 38, ground := Go.Ground.data }, { on := 37, ground := Go.Ground.guard }], guard := some (37, true) }) (v := ?v40) rfl (by kernel_rfl) (by kernel_rfl) (by kernel_rfl) (fun _ _ _ h => h) (Or.inl ⟨by rfl, ?hy40⟩) (by assumption) ?rest40
          case hy40 => (intro w hSw; (try dsimp only at hSw); go_simp <;> with_reducible rfl)
          try simp only [Act.put, List.setIfInBounds_toArray, List.set_cons_zero, List.set_cons_succ]
          refine wpAnyH_take (i := 40) (oi := { dst := some 133, op := Go.Op.binOp Go.BinOp.mul 3 (Go.Operand.tmp 132) (Go.Operand.const (Go.Value.int Go.IntKind.i64 8)) 3, type := 3, pos := "more.go:36", after := #[{ on := 39, ground := Go.Ground.data }, { on := 37, ground := Go.Ground.guard }], guard := some (37, true) }) (v := ?v41) rfl (by kernel_rfl) (by kernel_rfl) (by kernel_rfl) (fun _ _ _ h => h) (Or.inl ⟨by rfl, ?hy41⟩) (by assumption) ?rest41
          case hy41 => (intro w hSw; (try dsimp only at hSw); go_simp <;> with_reducible rfl)
          try simp only [Act.put, List.setIfInBounds_toArray, List.set_cons_zero, List.set_cons_succ]
          refine wpAnyH_take (i := 41) (oi := { dst := some 134, op := Go.Op.fieldAddr 51 (Go.Operand.tmp 1) 4, type := 0, pos := "more.go:36", after := #[{ on := 37, ground := Go.Ground.guard }], guard := some (37, true) }) (v := ?v42) rfl (by kernel_rfl) (by kernel_rfl) (by kernel_rfl) (fun _ _ _ h => h) (Or.inl ⟨by rfl, ?hy42⟩) (by assumption) ?rest42
          case hy42 => (intro w hSw; (try dsimp only at hSw); go_simp <;> with_reducible rfl)
          try simp only [Act.put, List.setIfInBounds_toArray, List.set_cons_zero, List.set_cons_succ]
          refine wpAnyH_take (i := 42) (oi := { dst := some 135, op := Go.Op.load 3 (Go.Operand.tmp 134), type := 3, pos := "more.go:36", after := #[{ on := 41, ground := Go.Ground.data }, { on := 37, ground := Go.Ground.guard }], guard := some (37, true) }) (v := ?v43) rfl (by kernel_rfl) (by kernel_rfl) (by kernel_rfl) (fun _ _ _ h => h) (Or.inl ⟨by rfl, ?hy43⟩) (by assumption) ?rest43
          case hy43 => (intro w hSw; (try dsimp only at hSw); have e := hSw.cell cbp4 id; go_simp <;> with_reducible rfl)
          try simp only [Act.put, List.setIfInBounds_toArray, List.set_cons_zero, List.set_cons_succ]
          refine wpAnyH_take (i := 43) (oi := { dst := some 136, op := Go.Op.binOp Go.BinOp.eql 3 (Go.Operand.tmp 133) (Go.Operand.tmp 135) 3, type := 4, pos := "more.go:36", after := #[{ on := 40, ground := Go.Ground.data }, { on := 42, ground := Go.Ground.data }, { on := 37, ground := Go.Ground.guard }], guard := some (37, true) }) (v := ?v44) rfl (by kernel_rfl) (by kernel_rfl) (by kernel_rfl) (fun _ _ _ h => h) (Or.inl ⟨by rfl, ?hy44⟩) (by assumption) ?rest44
          case hy44 => (intro w hSw; (try dsimp only at hSw); go_simp <;> with_reducible rfl)
          try simp only [Act.put, List.setIfInBounds_toArray, List.set_cons_zero, List.set_cons_succ]
          refine wpAnyH_take (i := 44) (oi := { dst := some 137, op := Go.Op.pick (Go.Operand.tmp 130) (Go.Operand.tmp 136) (Go.Operand.const (Go.Value.bool false)), type := 4, pos := "more.go:36", after := #[{ on := 37, ground := Go.Ground.data }, { on := 43, ground := Go.Ground.data }], guard := none }) (v := ?v45) rfl (by kernel_rfl) (by kernel_rfl) (by kernel_rfl) (fun _ _ _ h => h) (Or.inl ⟨by rfl, ?hy45⟩) (by assumption) ?rest45
          case hy45 => (intro w hSw; (try dsimp only at hSw); go_simp <;> with_reducible rfl)
          try simp only [Act.put, List.setIfInBounds_toArray, List.set_cons_zero, List.set_cons_succ]
          refine wpAnyH_take (i := 45) (oi := { dst := some 138, op := Go.Op.move (Go.Operand.tmp 137), type := 4, pos := "more.go:36", after := #[{ on := 44, ground := Go.Ground.data }, { on := 37, ground := Go.Ground.chain }], guard := none }) (v := ?v46) rfl (by kernel_rfl) (by kernel_rfl) (by kernel_rfl) (fun _ _ _ h => h) (Or.inl ⟨by rfl, ?hy46⟩) (by assumption) ?rest46
          case hy46 => (intro w hSw; (try dsimp only at hSw); go_simp <;> with_reducible rfl)
          try simp only [Act.put, List.setIfInBounds_toArray, List.set_cons_zero, List.set_cons_succ]
          refine wpAnyH_take (i := 46) (oi := { dst := some 139, op := Go.Op.move (Go.Operand.tmp 7), type := 3, pos := "more.go:36", after := #[{ on := 45, ground := Go.Ground.guard }], guard := some (45, true) }) (v := ?v47) rfl (by kernel_rfl) (by kernel_rfl) (by kernel_rfl) (fun _ _ _ h => h) (Or.inl ⟨by rfl, ?hy47⟩) (by assumption) ?rest47
          case hy47 => (intro w hSw; (try dsimp only at hSw); go_simp <;> with_reducible rfl)
          try simp only [Act.put, List.setIfInBounds_toArray, List.set_cons_zero, List.set_cons_succ]
          refine wpAnyH_take (i := 47) (oi := { dst := some 140, op := Go.Op.binOp Go.BinOp.quo 3 (Go.Operand.tmp 139) (Go.Operand.const (Go.Value.int Go.IntKind.i64 8192)) 3, type := 3, pos := "more.go:36", after := #[{ on := 46, ground := Go.Ground.data }, { on := 45, ground := Go.Ground.guard }], guard := some (45, true) }) (v := ?v48) rfl (by kernel_rfl) (by kernel_rfl) (by kernel_rfl) (fun _ _ _ h => h) (Or.inl ⟨by rfl, ?hy48⟩) (by assumption) ?rest48
          case hy48 => (intro w hSw; (try dsimp only at hSw); go_simp <;> with_reducible rfl)
          try simp only [Act.put, List.setIfInBounds_toArray, List.set_cons_zero, List.set_cons_succ]
          as_aux_lemma =>
            refine wpAnyH_take (i := 48) (oi := { dst := some 141, op := Go.Op.binOp Go.BinOp.rem 3 (Go.Operand.tmp 140) (Go.Operand.const (Go.Value.int Go.IntKind.i64 2)) 3, type := 3, pos := "more.go:36", after := #[{ on := 47, ground := Go.Ground.data }, { on := 45, ground := Go.Ground.guard }], guard := some (45, true) }) (v := ?v49) rfl (by kernel_rfl) (by kernel_rfl) (by kernel_rfl) (fun _ _ _ h => h) (Or.inl ⟨by rfl, ?hy49⟩) (by assumption) ?rest49
            case hy49 => (intro w hSw; (try dsimp only at hSw); go_simp <;> with_reducible rfl)
            try simp only [Act.put, List.setIfInBounds_toArray, List.set_cons_zero, List.set_cons_succ]
            refine wpAnyH_take (i := 49) (oi := { dst := some 142, op := Go.Op.binOp Go.BinOp.eql 3 (Go.Operand.tmp 141) (Go.Operand.const (Go.Value.int Go.IntKind.i64 1)) 3, type := 4, pos := "more.go:36", after := #[{ on := 48, ground := Go.Ground.data }, { on := 45, ground := Go.Ground.guard }], guard := some (45, true) }) (v := ?v50) rfl (by kernel_rfl) (by kernel_rfl) (by kernel_rfl) (fun _ _ _ h => h) (Or.inl ⟨by rfl, ?hy50⟩) (by assumption) ?rest50
            case hy50 => (intro w hSw; (try dsimp only at hSw); go_simp <;> with_reducible rfl)
            try simp only [Act.put, List.setIfInBounds_toArray, List.set_cons_zero, List.set_cons_succ]
            refine wpAnyH_take (i := 50) (oi := { dst := some 143, op := Go.Op.fieldAddr 51 (Go.Operand.tmp 1) 3, type := 0, pos := "more.go:36", after := #[{ on := 45, ground := Go.Ground.guard }], guard := some (45, true) }) (v := ?v51) rfl (by kernel_rfl) (by kernel_rfl) (by kernel_rfl) (fun _ _ _ h => h) (Or.inl ⟨by rfl, ?hy51⟩) (by assumption) ?rest51
            case hy51 => (intro w hSw; (try dsimp only at hSw); go_simp <;> with_reducible rfl)
            try simp only [Act.put, List.setIfInBounds_toArray, List.set_cons_zero, List.set_cons_succ]
            refine wpAnyH_take (i := 51) (oi := { dst := some 144, op := Go.Op.load 4 (Go.Operand.tmp 143), type := 4, pos := "more.go:36", after := #[{ on := 50, ground := Go.Ground.data }, { on := 45, ground := Go.Ground.guard }], guard := some (45, true) }) (v := ?v52) rfl (by kernel_rfl) (by kernel_rfl) (by kernel_rfl) (fun _ _ _ h => h) (Or.inl ⟨by rfl, ?hy52⟩) (by assumption) ?rest52
            case hy52 => (intro w hSw; (try dsimp only at hSw); have e := hSw.cell cbp3 id; go_simp <;> with_reducible rfl)
            try simp only [Act.put, List.setIfInBounds_toArray, List.set_cons_zero, List.set_cons_succ]
            refine wpAnyH_take (i := 52) (oi := { dst := some 145, op := Go.Op.binOp Go.BinOp.eql 4 (Go.Operand.tmp 142) (Go.Operand.tmp 144) 4, type := 4, pos := "more.go:36", after := #[{ on := 49, ground := Go.Ground.data }, { on := 51, ground := Go.Ground.data }, { on := 45, ground := Go.Ground.guard }], guard := some (45, true) }) (v := ?v53) rfl (by kernel_rfl) (by kernel_rfl) (by kernel_rfl) (fun _ _ _ h => h) (Or.inl ⟨by rfl, ?hy53⟩) (by assumption) ?rest53
            case hy53 => (intro w hSw; (try dsimp only at hSw); go_simp <;> with_reducible rfl)
            try simp only [Act.put, List.setIfInBounds_toArray, List.set_cons_zero, List.set_cons_succ]
            refine wpAnyH_take (i := 53) (oi := { dst := some 146, op := Go.Op.pick (Go.Operand.tmp 138) (Go.Operand.tmp 145) (Go.Operand.const (Go.Value.bool false)), type := 4, pos := "more.go:36", after := #[{ on := 45, ground := Go.Ground.data }, { on := 52, ground := Go.Ground.data }], guard := none }) (v := ?v54) rfl (by kernel_rfl) (by kernel_rfl) (by kernel_rfl) (fun _ _ _ h => h) (Or.inl ⟨by rfl, ?hy54⟩) (by assumption) ?rest54
            case hy54 => (intro w hSw; (try dsimp only at hSw); go_simp <;> with_reducible rfl)
            try simp only [Act.put, List.setIfInBounds_toArray, List.set_cons_zero, List.set_cons_succ]
            refine wpAnyH_take (i := 54) (oi := { dst := some 147, op := Go.Op.move (Go.Operand.tmp 146), type := 4, pos := "more.go:36", after := #[{ on := 53, ground := Go.Ground.data }, { on := 45, ground := Go.Ground.chain }], guard := none }) (v := ?v55) rfl (by kernel_rfl) (by kernel_rfl) (by kernel_rfl) (fun _ _ _ h => h) (Or.inl ⟨by rfl, ?hy55⟩) (by assumption) ?rest55
            case hy55 => (intro w hSw; (try dsimp only at hSw); go_simp <;> with_reducible rfl)
            try simp only [Act.put, List.setIfInBounds_toArray, List.set_cons_zero, List.set_cons_succ]
            refine wpAnyH_take (i := 55) (oi := { dst := some 148, op := Go.Op.move (Go.Operand.tmp 7), type := 3, pos := "more.go:36", after := #[{ on := 54, ground := Go.Ground.guard }], guard := some (54, true) }) (v := ?v56) rfl (by kernel_rfl) (by kernel_rfl) (by kernel_rfl) (fun _ _ _ h => h) (Or.inl ⟨by rfl, ?hy56⟩) (by assumption) ?rest56
            case hy56 => (intro w hSw; (try dsimp only at hSw); go_simp <;> with_reducible rfl)
            try simp only [Act.put, List.setIfInBounds_toArray, List.set_cons_zero, List.set_cons_succ]
            refine wpAnyH_take (i := 56) (oi := { dst := some 149, op := Go.Op.binOp Go.BinOp.quo 3 (Go.Operand.tmp 148) (Go.Operand.const (Go.Value.int Go.IntKind.i64 16384)) 3, type := 3, pos := "more.go:36", after := #[{ on := 55, ground := Go.Ground.data }, { on := 54, ground := Go.Ground.guard }], guard := some (54, true) }) (v := ?v57) rfl (by kernel_rfl) (by kernel_rfl) (by kernel_rfl) (fun _ _ _ h => h) (Or.inl ⟨by rfl, ?hy57⟩) (by assumption) ?rest57
            case hy57 => (intro w hSw; (try dsimp only at hSw); go_simp <;> with_reducible rfl)
            try simp only [Act.put, List.setIfInBounds_toArray, List.set_cons_zero, List.set_cons_succ]
            refine wpAnyH_take (i := 57) (oi := { dst := some 150, op := Go.Op.binOp Go.BinOp.rem 3 (Go.Operand.tmp 149) (Go.Operand.const (Go.Value.int Go.IntKind.i64 2)) 3, type := 3, pos := "more.go:36", after := #[{ on := 56, ground := Go.Ground.data }, { on := 54, ground := Go.Ground.guard }], guard := some (54, true) }) (v := ?v58) rfl (by kernel_rfl) (by kernel_rfl) (by kernel_rfl) (fun _ _ _ h => h) (Or.inl ⟨by rfl, ?hy58⟩) (by assumption) ?rest58
            case hy58 => (intro w hSw; (try dsimp only at hSw); go_simp <;> with_reducible rfl)
            try simp only [Act.put, List.setIfInBounds_toArray, List.set_cons_zero, List.set_cons_succ]
            refine wpAnyH_take (i := 58) (oi := { dst := some 151, op := Go.Op.binOp Go.BinOp.eql 3 (Go.Operand.tmp 150) (Go.Operand.const (Go.Value.int Go.IntKind.i64 1)) 3, type := 4, pos := "more.go:36", after := #[{ on := 57, ground := Go.Ground.data }, { on := 54, ground := Go.Ground.guard }], guard := some (54, true) }) (v := ?v59) rfl (by kernel_rfl) (by kernel_rfl) (by kernel_rfl) (fun _ _ _ h => h) (Or.inl ⟨by rfl, ?hy59⟩) (by assumption) ?rest59
            case hy59 => (intro w hSw; (try dsimp only at hSw); go_simp <;> with_reducible rfl)
            try simp only [Act.put, List.setIfInBounds_toArray, List.set_cons_zero, List.set_cons_succ]
            refine wpAnyH_take (i := 59) (oi := { dst := some 152, op := Go.Op.fieldAddr 51 (Go.Operand.tmp 1) 2, type := 0, pos := "more.go:36", after := #[{ on := 54, ground := Go.Ground.guard }], guard := some (54, true) }) (v := ?v60) rfl (by kernel_rfl) (by kernel_rfl) (by kernel_rfl) (fun _ _ _ h => h) (Or.inl ⟨by rfl, ?hy60⟩) (by assumption) ?rest60
            case hy60 => (intro w hSw; (try dsimp only at hSw); go_simp <;> with_reducible rfl)
            try simp only [Act.put, List.setIfInBounds_toArray, List.set_cons_zero, List.set_cons_succ]
            as_aux_lemma =>
              refine wpAnyH_take (i := 60) (oi := { dst := some 153, op := Go.Op.load 4 (Go.Operand.tmp 152), type := 4, pos := "more.go:36", after := #[{ on := 59, ground := Go.Ground.data }, { on := 54, ground := Go.Ground.guard }], guard := some (54, true) }) (v := ?v61) rfl (by kernel_rfl) (by kernel_rfl) (by kernel_rfl) (fun _ _ _ h => h) (Or.inl ⟨by rfl, ?hy61⟩) (by assumption) ?rest61
              case hy61 => (intro w hSw; (try dsimp only at hSw); have e := hSw.cell cbp2 id; go_simp <;> with_reducible rfl)
              try simp only [Act.put, List.setIfInBounds_toArray, List.set_cons_zero, List.set_cons_succ]
              refine wpAnyH_take (i := 61) (oi := { dst := some 154, op := Go.Op.binOp Go.BinOp.eql 4 (Go.Operand.tmp 151) (Go.Operand.tmp 153) 4, type := 4, pos := "more.go:36", after := #[{ on := 58, ground := Go.Ground.data }, { on := 60, ground := Go.Ground.data }, { on := 54, ground := Go.Ground.guard }], guard := some (54, true) }) (v := ?v62) rfl (by kernel_rfl) (by kernel_rfl) (by kernel_rfl) (fun _ _ _ h => h) (Or.inl ⟨by rfl, ?hy62⟩) (by assumption) ?rest62
              case hy62 => (intro w hSw; (try dsimp only at hSw); go_simp <;> with_reducible rfl)
              try simp only [Act.put, List.setIfInBounds_toArray, List.set_cons_zero, List.set_cons_succ]
              refine wpAnyH_take (i := 62) (oi := { dst := some 155, op := Go.Op.pick (Go.Operand.tmp 147) (Go.Operand.tmp 154) (Go.Operand.const (Go.Value.bool false)), type := 4, pos := "more.go:36", after := #[{ on := 54, ground := Go.Ground.data }, { on := 61, ground := Go.Ground.data }], guard := none }) (v := ?v63) rfl (by kernel_rfl) (by kernel_rfl) (by kernel_rfl) (fun _ _ _ h => h) (Or.inl ⟨by rfl, ?hy63⟩) (by assumption) ?rest63
              case hy63 => (intro w hSw; (try dsimp only at hSw); go_simp <;> with_reducible rfl)
              try simp only [Act.put, List.setIfInBounds_toArray, List.set_cons_zero, List.set_cons_succ]
              refine wpAnyH_take (i := 63) (oi := { dst := some 156, op := Go.Op.move (Go.Operand.tmp 155), type := 4, pos := "more.go:36", after := #[{ on := 62, ground := Go.Ground.data }, { on := 54, ground := Go.Ground.chain }], guard := none }) (v := ?v64) rfl (by kernel_rfl) (by kernel_rfl) (by kernel_rfl) (fun _ _ _ h => h) (Or.inl ⟨by rfl, ?hy64⟩) (by assumption) ?rest64
              case hy64 => (intro w hSw; (try dsimp only at hSw); go_simp <;> with_reducible rfl)
              try simp only [Act.put, List.setIfInBounds_toArray, List.set_cons_zero, List.set_cons_succ]
              refine wpAnyH_take (i := 64) (oi := { dst := some 157, op := Go.Op.move (Go.Operand.tmp 7), type := 3, pos := "more.go:36", after := #[{ on := 63, ground := Go.Ground.guard }], guard := some (63, true) }) (v := ?v65) rfl (by kernel_rfl) (by kernel_rfl) (by kernel_rfl) (fun _ _ _ h => h) (Or.inl ⟨by rfl, ?hy65⟩) (by assumption) ?rest65
              case hy65 => (intro w hSw; (try dsimp only at hSw); go_simp <;> with_reducible rfl)
              try simp only [Act.put, List.setIfInBounds_toArray, List.set_cons_zero, List.set_cons_succ]
              refine wpAnyH_take (i := 65) (oi := { dst := some 158, op := Go.Op.binOp Go.BinOp.lss 3 (Go.Operand.tmp 157) (Go.Operand.const (Go.Value.int Go.IntKind.i64 32768)) 3, type := 4, pos := "more.go:36", after := #[{ on := 64, ground := Go.Ground.data }, { on := 63, ground := Go.Ground.guard }], guard := some (63, true) }) (v := ?v66) rfl (by kernel_rfl) (by kernel_rfl) (by kernel_rfl) (fun _ _ _ h => h) (Or.inl ⟨by rfl, ?hy66⟩) (by assumption) ?rest66
              case hy66 => (intro w hSw; (try dsimp only at hSw); go_simp <;> with_reducible rfl)
              try simp only [Act.put, List.setIfInBounds_toArray, List.set_cons_zero, List.set_cons_succ]
              refine wpAnyH_take (i := 66) (oi := { dst := some 159, op := Go.Op.pick (Go.Operand.tmp 156) (Go.Operand.tmp 158) (Go.Operand.const (Go.Value.bool false)), type := 4, pos := "more.go:36", after := #[{ on := 63, ground := Go.Ground.data }, { on := 65, ground := Go.Ground.data }], guard := none }) (v := ?v67) rfl (by kernel_rfl) (by kernel_rfl) (by kernel_rfl) (fun _ _ _ h => h) (Or.inl ⟨by rfl, ?hy67⟩) (by assumption) ?rest67
              case hy67 => (intro w hSw; (try dsimp only at hSw); go_simp <;> with_reducible rfl)
              try simp only [Act.put, List.setIfInBounds_toArray, List.set_cons_zero, List.set_cons_succ]
              refine wpAnyH_take (i := 67) (oi := { dst := some 160, op := Go.Op.move (Go.Operand.tmp 159), type := 4, pos := "more.go:36", after := #[{ on := 66, ground := Go.Ground.data }, { on := 63, ground := Go.Ground.chain }], guard := none }) (v := ?v68) rfl (by kernel_rfl) (by kernel_rfl) (by kernel_rfl) (fun _ _ _ h => h) (Or.inl ⟨by rfl, ?hy68⟩) (by assumption) ?rest68
              case hy68 => (intro w hSw; (try dsimp only at hSw); go_simp <;> with_reducible rfl)
              try simp only [Act.put, List.setIfInBounds_toArray, List.set_cons_zero, List.set_cons_succ]
              refine wpAnyH_take (i := 68) (oi := { dst := some 161, op := Go.Op.move (Go.Operand.tmp 4), type := 22, pos := "more.go:36", after := #[{ on := 67, ground := Go.Ground.guard }], guard := some (67, true) }) (v := ?v69) rfl (by kernel_rfl) (by kernel_rfl) (by kernel_rfl) (fun _ _ _ h => h) (Or.inl ⟨by rfl, ?hy69⟩) (by assumption) ?rest69
              case hy69 => (intro w hSw; (try dsimp only at hSw); go_simp <;> with_reducible rfl)
              try simp only [Act.put, List.setIfInBounds_toArray, List.set_cons_zero, List.set_cons_succ]
              refine wpAnyH_take (i := 69) (oi := { dst := some 162, op := Go.Op.indexAddr 22 (Go.Operand.tmp 161) (Go.Operand.const (Go.Value.int Go.IntKind.i64 8)), type := 0, pos := "more.go:36", after := #[{ on := 68, ground := Go.Ground.data }, { on := 67, ground := Go.Ground.guard }], guard := some (67, true) }) (v := ?v70) rfl (by kernel_rfl) (by kernel_rfl) (by kernel_rfl) (fun _ _ _ h => h) (Or.inl ⟨by rfl, ?hy70⟩) (by assumption) ?rest70
              case hy70 => (intro w hSw; (try dsimp only at hSw); have e : (8 : Int) < (m.length : Int) := (by omega); go_simp <;> with_reducible rfl)
              try simp only [Act.put, List.setIfInBounds_toArray, List.set_cons_zero, List.set_cons_succ]
              refine wpAnyH_take (i := 70) (oi := { dst := some 163, op := Go.Op.load 5 (Go.Operand.tmp 162), type := 5, pos := "more.go:36", after := #[{ on := 69, ground := Go.Ground.data }, { on := 67, ground := Go.Ground.guard }], guard := some (67, true) }) (v := ?v71) rfl (by kernel_rfl) (by kernel_rfl) (by kernel_rfl) (fun _ _ _ h => h) (Or.inl ⟨by rfl, ?hy71⟩) (by assumption) ?rest71
              case hy71 => (intro w hSw; (try dsimp only at hSw); have e := hSw.cell c8 id; go_simp <;> with_reducible rfl)
              try simp only [Act.put, List.setIfInBounds_toArray, List.set_cons_zero, List.set_cons_succ]
              refine wpAnyH_take (i := 71) (oi := { dst := some 164, op := Go.Op.fieldAddr 51 (Go.Operand.tmp 1) 5, type := 0, pos := "more.go:36", after := #[{ on := 67, ground := Go.Ground.guard }], guard := some (67, true) }) (v := ?v72) rfl (by kernel_rfl) (by kernel_rfl) (by kernel_rfl) (fun _ _ _ h => h) (Or.inl ⟨by rfl, ?hy72⟩) (by assumption) ?rest72
              case hy72 => (intro w hSw; (try dsimp only at hSw); go_simp <;> with_reducible rfl)
              try simp only [Act.put, List.setIfInBounds_toArray, List.set_cons_zero, List.set_cons_succ]
              as_aux_lemma =>
                refine wpAnyH_take (i := 72) (oi := { dst := some 165, op := Go.Op.load 5 (Go.Operand.tmp 164), type := 5, pos := "more.go:36", after := #[{ on := 71, ground := Go.Ground.data }, { on := 67, ground := Go.Ground.guard }], guard := some (67, true) }) (v := ?v73) rfl (by kernel_rfl) (by kernel_rfl) (by kernel_rfl) (fun _ _ _ h => h) (Or.inl ⟨by rfl, ?hy73⟩) (by assumption) ?rest73
                case hy73 => (intro w hSw; (try dsimp only at hSw); have e := hSw.cell cbp5 id; go_simp <;> with_reducible rfl)
                try simp only [Act.put, List.setIfInBounds_toArray, List.set_cons_zero, List.set_cons_succ]
                refine wpAnyH_take (i := 73) (oi := { dst := some 166, op := Go.Op.binOp Go.BinOp.eql 5 (Go.Operand.tmp 163) (Go.Operand.tmp 165) 5, type := 4, pos := "more.go:36", after := #[{ on := 70, ground := Go.Ground.data }, { on := 72, ground := Go.Ground.data }, { on := 67, ground := Go.Ground.guard }], guard := some (67, true) }) (v := ?v74) rfl (by kernel_rfl) (by kernel_rfl) (by kernel_rfl) (fun _ _ _ h => h) (Or.inl ⟨by rfl, ?hy74⟩) (by assumption) ?rest74
                case hy74 => (intro w hSw; (try dsimp only at hSw); go_simp <;> with_reducible rfl)
                try simp only [Act.put, List.setIfInBounds_toArray, List.set_cons_zero, List.set_cons_succ]
                refine wpAnyH_take (i := 74) (oi := { dst := some 167, op := Go.Op.pick (Go.Operand.tmp 160) (Go.Operand.tmp 166) (Go.Operand.const (Go.Value.bool false)), type := 4, pos := "more.go:36", after := #[{ on := 67, ground := Go.Ground.data }, { on := 73, ground := Go.Ground.data }], guard := none }) (v := ?v75) rfl (by kernel_rfl) (by kernel_rfl) (by kernel_rfl) (fun _ _ _ h => h) (Or.inl ⟨by rfl, ?hy75⟩) (by assumption) ?rest75
                case hy75 => (intro w hSw; (try dsimp only at hSw); go_simp <;> with_reducible rfl)
                try simp only [Act.put, List.setIfInBounds_toArray, List.set_cons_zero, List.set_cons_succ]
                refine wpAnyH_take (i := 75) (oi := { dst := some 168, op := Go.Op.move (Go.Operand.tmp 167), type := 4, pos := "more.go:36", after := #[{ on := 74, ground := Go.Ground.data }, { on := 67, ground := Go.Ground.chain }], guard := none }) (v := ?v76) rfl (by kernel_rfl) (by kernel_rfl) (by kernel_rfl) (fun _ _ _ h => h) (Or.inl ⟨by rfl, ?hy76⟩) (by assumption) ?rest76
                case hy76 => (intro w hSw; (try dsimp only at hSw); go_simp <;> with_reducible rfl)
                try simp only [Act.put, List.setIfInBounds_toArray, List.set_cons_zero, List.set_cons_succ]
                refine wpAnyH_take (i := 76) (oi := { dst := some 169, op := Go.Op.move (Go.Operand.tmp 4), type := 22, pos := "more.go:36", after := #[{ on := 75, ground := Go.Ground.guard }], guard := some (75, true) }) (v := ?v77) rfl (by kernel_rfl) (by kernel_rfl) (by kernel_rfl) (fun _ _ _ h => h) (Or.inl ⟨by rfl, ?hy77⟩) (by assumption) ?rest77
                case hy77 => (intro w hSw; (try dsimp only at hSw); go_simp <;> with_reducible rfl)
                try simp only [Act.put, List.setIfInBounds_toArray, List.set_cons_zero, List.set_cons_succ]
                refine wpAnyH_take (i := 77) (oi := { dst := some 170, op := Go.Op.indexAddr 22 (Go.Operand.tmp 169) (Go.Operand.const (Go.Value.int Go.IntKind.i64 9)), type := 0, pos := "more.go:36", after := #[{ on := 76, ground := Go.Ground.data }, { on := 75, ground := Go.Ground.guard }], guard := some (75, true) }) (v := ?v78) rfl (by kernel_rfl) (by kernel_rfl) (by kernel_rfl) (fun _ _ _ h => h) (Or.inl ⟨by rfl, ?hy78⟩) (by assumption) ?rest78
                case hy78 => (intro w hSw; (try dsimp only at hSw); have e : (9 : Int) < (m.length : Int) := (by omega); go_simp <;> with_reducible rfl)
                try simp only [Act.put, List.setIfInBounds_toArray, List.set_cons_zero, List.set_cons_succ]
                refine wpAnyH_take (i := 78) (oi := { dst := some 171, op := Go.Op.load 5 (Go.Operand.tmp 170), type := 5, pos := "more.go:36", after := #[{ on := 77, ground := Go.Ground.data }, { on := 75, ground := Go.Ground.guard }], guard := some (75, true) }) (v := ?v79) rfl (by kernel_rfl) (by kernel_rfl) (by kernel_rfl) (fun _ _ _ h => h) (Or.inl ⟨by rfl, ?hy79⟩) (by assumption) ?rest79
                case hy79 => (intro w hSw; (try dsimp only at hSw); have e := hSw.cell c9 id; go_simp <;> with_reducible rfl)
                try simp only [Act.put, List.setIfInBounds_toArray, List.set_cons_zero, List.set_cons_succ]
                refine wpAnyH_take (i := 79) (oi := { dst := some 172, op := Go.Op.fieldAddr 51 (Go.Operand.tmp 1) 6, type := 0, pos := "more.go:36", after := #[{ on := 75, ground := Go.Ground.guard }], guard := some (75, true) }) (v := ?v80) rfl (by kernel_rfl) (by kernel_rfl) (by kernel_rfl) (fun _ _ _ h => h) (Or.inl ⟨by rfl, ?hy80⟩) (by assumption) ?rest80
                case hy80 => (intro w hSw; (try dsimp only at hSw); go_simp <;> with_reducible rfl)
                try simp only [Act.put, List.setIfInBounds_toArray, List.set_cons_zero, List.set_cons_succ]
                refine wpAnyH_take (i := 80) (oi := { dst := some 173, op := Go.Op.load 5 (Go.Operand.tmp 172), type := 5, pos := "more.go:36", after := #[{ on := 79, ground := Go.Ground.data }, { on := 75, ground := Go.Ground.guard }], guard := some (75, true) }) (v := ?v81) rfl (by kernel_rfl) (by kernel_rfl) (by kernel_rfl) (fun _ _ _ h => h) (Or.inl ⟨by rfl, ?hy81⟩) (by assumption) ?rest81
                case hy81 => (intro w hSw; (try dsimp only at hSw); have e := hSw.cell cbp6 id; go_simp <;> with_reducible rfl)
                try simp only [Act.put, List.setIfInBounds_toArray, List.set_cons_zero, List.set_cons_succ]
                refine wpAnyH_take (i := 81) (oi := { dst := some 174, op := Go.Op.binOp Go.BinOp.eql 5 (Go.Operand.tmp 171) (Go.Operand.tmp 173) 5, type := 4, pos := "more.go:36", after := #[{ on := 78, ground := Go.Ground.data }, { on := 80, ground := Go.Ground.data }, { on := 75, ground := Go.Ground.guard }], guard := some (75, true) }) (v := ?v82) rfl (by kernel_rfl) (by kernel_rfl) (by kernel_rfl) (fun _ _ _ h => h) (Or.inl ⟨by rfl, ?hy82⟩) (by assumption) ?rest82
                case hy82 => (intro w hSw; (try dsimp only at hSw); go_simp <;> with_reducible rfl)
                try simp only [Act.put, List.setIfInBounds_toArray, List.set_cons_zero, List.set_cons_succ]
                refine wpAnyH_take (i := 82) (oi := { dst := some 175, op := Go.Op.pick (Go.Operand.tmp 168) (Go.Operand.tmp 174) (Go.Operand.const (Go.Value.bool false)), type := 4, pos := "more.go:36", after := #[{ on := 75, ground := Go.Ground.data }, { on := 81, ground := Go.Ground.data }], guard := none }) (v := ?v83) rfl (by kernel_rfl) (by kernel_rfl) (by kernel_rfl) (fun _ _ _ h => h) (Or.inl ⟨by rfl, ?hy83⟩) (by assumption) ?rest83
                case hy83 => (intro w hSw; (try dsimp only at hSw); go_simp <;> with_reducible rfl)
                try simp only [Act.put, List.setIfInBounds_toArray, List.set_cons_zero, List.set_cons_succ]
                refine wpAnyH_take (i := 83) (oi := { dst := some 176, op := Go.Op.move (Go.Operand.tmp 175), type := 4, pos := "more.go:36", after := #[{ on := 82, ground := Go.Ground.data }, { on := 75, ground := Go.Ground.chain }], guard := none }) (v := ?v84) rfl (by kernel_rfl) (by kernel_rfl) (by kernel_rfl) (fun _ _ _ h => h) (Or.inl ⟨by rfl, ?hy84⟩) (by assumption) ?rest84
                case hy84 => (intro w hSw; (try dsimp only at hSw); go_simp <;> with_reducible rfl)
                try simp only [Act.put, List.setIfInBounds_toArray, List.set_cons_zero, List.set_cons_succ]
                as_aux_lemma =>
                  refine wpAnyH_take (i := 84) (oi := { dst := some 177, op := Go.Op.move (Go.Operand.tmp 8), type := 26, pos := "more.go:36", after := #[{ on := 83, ground := Go.Ground.guard }], guard := some (83, true) }) (v := ?v85) rfl (by kernel_rfl) (by kernel_rfl) (by kernel_rfl) (fun _ _ _ h => h) (Or.inl ⟨by rfl, ?hy85⟩) (by assumption) ?rest85
                  case hy85 => (intro w hSw; (try dsimp only at hSw); go_simp <;> with_reducible rfl)
                  try simp only [Act.put, List.setIfInBounds_toArray, List.set_cons_zero, List.set_cons_succ]
                  refine wpAnyH_take (i := 85) (oi := { dst := some 178, op := Go.Op.fieldAddr 51 (Go.Operand.tmp 1) 7, type := 0, pos := "more.go:36", after := #[{ on := 83, ground := Go.Ground.guard }], guard := some (83, true) }) (v := ?v86) rfl (by kernel_rfl) (by kernel_rfl) (by kernel_rfl) (fun _ _ _ h => h) (Or.inl ⟨by rfl, ?hy86⟩) (by assumption) ?rest86
                  case hy86 => (intro w hSw; (try dsimp only at hSw); go_simp <;> with_reducible rfl)
                  try simp only [Act.put, List.setIfInBounds_toArray, List.set_cons_zero, List.set_cons_succ]
                  refine wpAnyH_take (i := 86) (oi := { dst := some 179, op := Go.Op.load 32 (Go.Operand.tmp 178), type := 32, pos := "more.go:36", after := #[{ on := 85, ground := Go.Ground.data }, { on := 83, ground := Go.Ground.guard }], guard := some (83, true) }) (v := ?v87) rfl (by kernel_rfl) (by kernel_rfl) (by kernel_rfl) (fun _ _ _ h => h) (Or.inl ⟨by rfl, ?hy87⟩) (by assumption) ?rest87
                  case hy87 => (intro w hSw; (try dsimp only at hSw); have e := hSw.cell cbp7 id; go_simp <;> with_reducible rfl)
                  try simp only [Act.put, List.setIfInBounds_toArray, List.set_cons_zero, List.set_cons_succ]
                  refine wpAnyH_take (i := 87) (oi := { dst := some 180, op := Go.Op.binOp Go.BinOp.eql 26 (Go.Operand.tmp 177) (Go.Operand.tmp 179) 26, type := 4, pos := "more.go:36", after := #[{ on := 84, ground := Go.Ground.data }, { on := 86, ground := Go.Ground.data }, { on := 83, ground := Go.Ground.guard }], guard := some (83, true) }) (v := ?v88) rfl (by kernel_rfl) (by kernel_rfl) (by kernel_rfl) (fun _ _ _ h => h) (Or.inl ⟨by rfl, ?hy88⟩) (by assumption) ?rest88
                  case hy88 => (intro w hSw; (try dsimp only at hSw); go_simp <;> with_reducible rfl)
                  try simp only [Act.put, List.setIfInBounds_toArray, List.set_cons_zero, List.set_cons_succ]
                  refine wpAnyH_take (i := 88) (oi := { dst := some 181, op := Go.Op.pick (Go.Operand.tmp 176) (Go.Operand.tmp 180) (Go.Operand.const (Go.Value.bool false)), type := 4, pos := "more.go:36", after := #[{ on := 83, ground := Go.Ground.data }, { on := 87, ground := Go.Ground.data }], guard := none }) (v := ?v89) rfl (by kernel_rfl) (by kernel_rfl) (by kernel_rfl) (fun _ _ _ h => h) (Or.inl ⟨by rfl, ?hy89⟩) (by assumption) ?rest89
                  case hy89 => (intro w hSw; (try dsimp only at hSw); go_simp <;> with_reducible rfl)
                  try simp only [Act.put, List.setIfInBounds_toArray, List.set_cons_zero, List.set_cons_succ]
                  refine wpAnyH_take (i := 89) (oi := { dst := some 182, op := Go.Op.move (Go.Operand.tmp 181), type := 4, pos := "more.go:36", after := #[{ on := 88, ground := Go.Ground.data }, { on := 83, ground := Go.Ground.chain }], guard := none }) (v := ?v90) rfl (by kernel_rfl) (by kernel_rfl) (by kernel_rfl) (fun _ _ _ h => h) (Or.inl ⟨by rfl, ?hy90⟩) (by assumption) ?rest90
                  case hy90 => (intro w hSw; (try dsimp only at hSw); go_simp <;> with_reducible rfl)
                  try simp only [Act.put, List.setIfInBounds_toArray, List.set_cons_zero, List.set_cons_succ]
                  refine wpAnyH_take (i := 90) (oi := { dst := some 183, op := Go.Op.move (Go.Operand.tmp 9), type := 26, pos := "more.go:36", after := #[{ on := 89, ground := Go.Ground.guard }], guard := some (89, true) }) (v := ?v91) rfl (by kernel_rfl) (by kernel_rfl) (by kernel_rfl) (fun _ _ _ h => h) (Or.inl ⟨by rfl, ?hy91⟩) (by assumption) ?rest91
                  case hy91 => (intro w hSw; (try dsimp only at hSw); go_simp <;> with_reducible rfl)
                  try simp only [Act.put, List.setIfInBounds_toArray, List.set_cons_zero, List.set_cons_succ]
                  refine wpAnyH_take (i := 91) (oi := { dst := some 184, op := Go.Op.fieldAddr 51 (Go.Operand.tmp 1) 8, type := 0, pos := "more.go:36", after := #[{ on := 89, ground := Go.Ground.guard }], guard := some (89, true) }) (v := ?v92) rfl (by kernel_rfl) (by kernel_rfl) (by kernel_rfl) (fun _ _ _ h => h) (Or.inl ⟨by rfl, ?hy92⟩) (by assumption) ?rest92
                  case hy92 => (intro w hSw; (try dsimp only at hSw); go_simp <;> with_reducible rfl)
                  try simp only [Act.put, List.setIfInBounds_toArray, List.set_cons_zero, List.set_cons_succ]
                  refine wpAnyH_take (i := 92) (oi := { dst := some 185, op := Go.Op.load 32 (Go.Operand.tmp 184), type := 32, pos := "more.go:36", after := #[{ on := 91, ground := Go.Ground.data }, { on := 89, ground := Go.Ground.guard }], guard := some (89, true) }) (v := ?v93) rfl (by kernel_rfl) (by kernel_rfl) (by kernel_rfl) (fun _ _ _ h => h) (Or.inl ⟨by rfl, ?hy93⟩) (by assumption) ?rest93
                  case hy93 => (intro w hSw; (try dsimp only at hSw); have e := hSw.cell cbp8 id; go_simp <;> with_reducible rfl)
                  try simp only [Act.put, List.setIfInBounds_toArray, List.set_cons_zero, List.set_cons_succ]
                  refine wpAnyH_take (i := 93) (oi := { dst := some 186, op := Go.Op.binOp Go.BinOp.eql 26 (Go.Operand.tmp 183) (Go.Operand.tmp 185) 26, type := 4, pos := "more.go:36", after := #[{ on := 90, ground := Go.Ground.data }, { on := 92, ground := Go.Ground.data }, { on := 89, ground := Go.Ground.guard }], guard := some (89, true) }) (v := ?v94) rfl (by kernel_rfl) (by kernel_rfl) (by kernel_rfl) (fun _ _ _ h => h) (Or.inl ⟨by rfl, ?hy94⟩) (by assumption) ?rest94
                  case hy94 => (intro w hSw; (try dsimp only at hSw); go_simp <;> with_reducible rfl)
                  try simp only [Act.put, List.setIfInBounds_toArray, List.set_cons_zero, List.set_cons_succ]
                  refine wpAnyH_take (i := 94) (oi := { dst := some 187, op := Go.Op.pick (Go.Operand.tmp 182) (Go.Operand.tmp 186) (Go.Operand.const (Go.Value.bool false)), type := 4, pos := "more.go:36", after := #[{ on := 89, ground := Go.Ground.data }, { on := 93, ground := Go.Ground.data }], guard := none }) (v := ?v95) rfl (by kernel_rfl) (by kernel_rfl) (by kernel_rfl) (fun _ _ _ h => h) (Or.inl ⟨by rfl, ?hy95⟩) (by assumption) ?rest95
                  case hy95 => (intro w hSw; (try dsimp only at hSw); go_simp <;> with_reducible rfl)
                  try simp only [Act.put, List.setIfInBounds_toArray, List.set_cons_zero, List.set_cons_succ]
                  refine wpAnyH_take (i := 95) (oi := { dst := some 188, op := Go.Op.move (Go.Operand.tmp 187), type := 4, pos := "more.go:36", after := #[{ on := 94, ground := Go.Ground.data }, { on := 89, ground := Go.Ground.chain }], guard := none }) (v := ?v96) rfl (by kernel_rfl) (by kernel_rfl) (by kernel_rfl) (fun _ _ _ h => h) (Or.inl ⟨by rfl, ?hy96⟩) (by assumption) ?rest96
                  case hy96 => (intro w hSw; (try dsimp only at hSw); go_simp <;> with_reducible rfl)
                  try simp only [Act.put, List.setIfInBounds_toArray, List.set_cons_zero, List.set_cons_succ]
                  as_aux_lemma =>
                    refine wpAnyH_take (i := 96) (oi := { dst := some 189, op := Go.Op.move (Go.Operand.tmp 4), type := 22, pos := "more.go:36", after := #[{ on := 95, ground := Go.Ground.guard }], guard := some (95, true) }) (v := ?v97) rfl (by kernel_rfl) (by kernel_rfl) (by kernel_rfl) (fun _ _ _ h => h) (Or.inl ⟨by rfl, ?hy97⟩) (by assumption) ?rest97
                    case hy97 => (intro w hSw; (try dsimp only at hSw); go_simp <;> with_reducible rfl)
                    try simp only [Act.put, List.setIfInBounds_toArray, List.set_cons_zero, List.set_cons_succ]
                    refine wpAnyH_take (i := 97) (oi := { dst := some 190, op := Go.Op.slice 22 (Go.Operand.tmp 189) (some (Go.Operand.const (Go.Value.int Go.IntKind.i64 20))) none none, type := 22, pos := "more.go:36", after := #[{ on := 96, ground := Go.Ground.data }, { on := 95, ground := Go.Ground.guard }], guard := some (95, true) }) (v := ?v98) rfl (by kernel_rfl) (by kernel_rfl) (by kernel_rfl) (fun _ _ _ h => h) (Or.inl ⟨by rfl, ?hy98⟩) (by assumption) ?rest98
                    case hy98 => (intro w hSw; (try dsimp only at hSw); have e' := HAD.out; have e : (20 : Int) ≤ (m.length : Int) := (by omega); go_simp <;> with_reducible rfl)
                    try simp only [Act.put, List.setIfInBounds_toArray, List.set_cons_zero, List.set_cons_succ]
                    refine wpAnyH_take (i := 98) (oi := { dst := some 191, op := Go.Op.convert 22 9 (Go.Operand.tmp 190), type := 9, pos := "more.go:36", after := #[{ on := 97, ground := Go.Ground.data }, { on := 95, ground := Go.Ground.guard }], guard := some (95, true) }) (v := ?v99) rfl (by kernel_rfl) (by kernel_rfl) (by kernel_rfl) (fun _ _ _ h => h) (Or.inl ⟨by rfl, ?hy99⟩) (by assumption) ?rest99
                    case hy99 => (intro w hSw; (try dsimp only at hSw); have e := HV1.out _ hSw; go_simp <;> with_reducible rfl)
                    try simp only [Act.put, List.setIfInBounds_toArray, List.set_cons_zero, List.set_cons_succ]
                    refine wpAnyH_take (i := 99) (oi := { dst := some 192, op := Go.Op.fieldAddr 51 (Go.Operand.tmp 1) 9, type := 0, pos := "more.go:36", after := #[{ on := 95, ground := Go.Ground.guard }], guard := some (95, true) }) (v := ?v100) rfl (by kernel_rfl) (by kernel_rfl) (by kernel_rfl) (fun _ _ _ h => h) (Or.inl ⟨by rfl, ?hy100⟩) (by assumption) ?rest100
                    case hy100 => (intro w hSw; (try dsimp only at hSw); go_simp <;> with_reducible rfl)
                    try simp only [Act.put, List.setIfInBounds_toArray, List.set_cons_zero, List.set_cons_succ]
                    refine wpAnyH_take (i := 100) (oi := { dst := some 193, op := Go.Op.load 22 (Go.Operand.tmp 192), type := 22, pos := "more.go:36", after := #[{ on := 99, ground := Go.Ground.data }, { on := 95, ground := Go.Ground.guard }], guard := some (95, true) }) (v := ?v101) rfl (by kernel_rfl) (by kernel_rfl) (by kernel_rfl) (fun _ _ _ h => h) (Or.inl ⟨by rfl, ?hy101⟩) (by assumption) ?rest101
                    case hy101 => (intro w hSw; (try dsimp only at hSw); have e := hSw.cell cbp9 id; go_simp <;> with_reducible rfl)
                    try simp only [Act.put, List.setIfInBounds_toArray, List.set_cons_zero, List.set_cons_succ]
                    refine wpAnyH_take (i := 101) (oi := { dst := some 194, op := Go.Op.convert 22 9 (Go.Operand.tmp 193), type := 9, pos := "more.go:36", after := #[{ on := 100, ground := Go.Ground.data }, { on := 95, ground := Go.Ground.guard }], guard := some (95, true) }) (v := ?v102) rfl (by kernel_rfl) (by kernel_rfl) (by kernel_rfl) (fun _ _ _ h => h) (Or.inl ⟨by rfl, ?hy102⟩) (by assumption) ?rest102
                    case hy102 => (intro w hSw; (try dsimp only at hSw); have e := HV2.out _ hSw; go_simp <;> with_reducible rfl)
                    try simp only [Act.put, List.setIfInBounds_toArray, List.set_cons_zero, List.set_cons_succ]
                    refine wpAnyH_take (i := 102) (oi := { dst := some 195, op := Go.Op.binOp Go.BinOp.eql 9 (Go.Operand.tmp 191) (Go.Operand.tmp 194) 9, type := 4, pos := "more.go:36", after := #[{ on := 98, ground := Go.Ground.data }, { on := 101, ground := Go.Ground.data }, { on := 95, ground := Go.Ground.guard }], guard := some (95, true) }) (v := ?v103) rfl (by kernel_rfl) (by kernel_rfl) (by kernel_rfl) (fun _ _ _ h => h) (Or.inl ⟨by rfl, ?hy103⟩) (by assumption) ?rest103
                    case hy103 => (intro w hSw; (try dsimp only at hSw); have e : ((bs xl).toList == (bs xl).toList) = true := (by simp); go_simp <;> with_reducible rfl)
                    try simp only [Act.put, List.setIfInBounds_toArray, List.set_cons_zero, List.set_cons_succ]
                    refine wpAnyH_take (i := 103) (oi := { dst := some 196, op := Go.Op.pick (Go.Operand.tmp 188) (Go.Operand.tmp 195) (Go.Operand.const (Go.Value.bool false)), type := 4, pos := "more.go:36", after := #[{ on := 95, ground := Go.Ground.data }, { on := 102, ground := Go.Ground.data }], guard := none }) (v := ?v104) rfl (by kernel_rfl) (by kernel_rfl) (by kernel_rfl) (fun _ _ _ h => h) (Or.inl ⟨by rfl, ?hy104⟩) (by assumption) ?rest104
                    case hy104 => (intro w hSw; (try dsimp only at hSw); go_simp <;> with_reducible rfl)
                    try simp only [Act.put, List.setIfInBounds_toArray, List.set_cons_zero, List.set_cons_succ]
                    refine wpAnyH_take (i := 104) (oi := { dst := some 2, op := Go.Op.assign (Go.Operand.tmp 196), type := 4, pos := "more.go:36", after := ([{ on := 103, ground := Go.Ground.data }, { on := 95, ground := Go.Ground.chain }, { on := 0, ground := Go.Ground.phase }, { on := 1, ground := Go.Ground.phase }, { on := 2, ground := Go.Ground.phase }, { on := 3, ground := Go.Ground.phase }, { on := 4, ground := Go.Ground.phase }, { on := 5, ground := Go.Ground.phase }, { on := 6, ground := Go.Ground.phase }, { on := 7, ground := Go.Ground.phase }, { on := 8, ground := Go.Ground.phase }, { on := 9, ground := Go.Ground.phase }, { on := 10, ground := Go.Ground.phase }, { on := 11, ground := Go.Ground.phase }, { on := 12, ground := Go.Ground.phase }, { on := 13, ground := Go.Ground.phase }, { on := 14, ground := Go.Ground.phase }, { on := 15, ground := Go.Ground.phase }, { on := 16, ground := Go.Ground.phase }, { on := 17, ground := Go.Ground.phase }, { on := 18, ground := Go.Ground.phase }, { on := 19, ground := Go.Ground.phase }, { on := 20, ground := Go.Ground.phase }, { on := 21, ground := Go.Ground.phase }, { on := 22, ground := Go.Ground.phase }, { on := 23, ground := Go.Ground.phase }, { on := 24, ground := Go.Ground.phase }, { on := 25, ground := Go.Ground.phase }, { on := 26, ground := Go.Ground.phase }, { on := 27, ground := Go.Ground.phase }, { on := 28, ground := Go.Ground.phase }, { on := 29, ground := Go.Ground.phase }, { on := 30, ground := Go.Ground.phase }, { on := 31, ground := Go.Ground.phase }, { on := 32, ground := Go.Ground.phase }, { on := 33, ground := Go.Ground.phase }, { on := 34, ground := Go.Ground.phase }, { on := 35, ground := Go.Ground.phase }, { on := 36, ground := Go.Ground.phase }, { on := 37, ground := Go.Ground.phase }, { on := 38, ground := Go.Ground.phase }, { on := 39, ground := Go.Ground.phase }, { on := 40, ground := Go.Ground.phase }, { on := 41, ground := Go.Ground.phase }, { on := 42, ground := Go.Ground.phase }, { on := 43, ground := Go.Ground.phase }, { on := 44, ground := Go.Ground.phase }, { on := 45, ground := Go.Ground.phase }, { on := 46, ground := Go.Ground.phase }, { on := 47, ground := Go.Ground.phase }, { on := 48, ground := Go.Ground.phase }, { on := 49, ground := Go.Ground.phase }, { on := 50, ground := Go.Ground.phase }].append [{ on := 51, ground := Go.Ground.phase }, { on := 52, ground := Go.Ground.phase }, { on := 53, ground := Go.Ground.phase }, { on := 54, ground := Go.Ground.phase }, { on := 55, ground := Go.Ground.phase }, { on := 56, ground := Go.Ground.phase }, { on := 57, ground := Go.Ground.phase }, { on := 58, ground := Go.Ground.phase }, { on := 59, ground := Go.Ground.phase }, { on := 60, ground := Go.Ground.phase }, { on := 61, ground := Go.Ground.phase }, { on := 62, ground := Go.Ground.phase }, { on := 63, ground := Go.Ground.phase }, { on := 64, ground := Go.Ground.phase }, { on := 65, ground := Go.Ground.phase }, { on := 66, ground := Go.Ground.phase }, { on := 67, ground := Go.Ground.phase }, { on := 68, ground := Go.Ground.phase }, { on := 69, ground := Go.Ground.phase }, { on := 70, ground := Go.Ground.phase }, { on := 71, ground := Go.Ground.phase }, { on := 72, ground := Go.Ground.phase }, { on := 73, ground := Go.Ground.phase }, { on := 74, ground := Go.Ground.phase }, { on := 75, ground := Go.Ground.phase }, { on := 76, ground := Go.Ground.phase }, { on := 77, ground := Go.Ground.phase }, { on := 78, ground := Go.Ground.phase }, { on := 79, ground := Go.Ground.phase }, { on := 80, ground := Go.Ground.phase }, { on := 81, ground := Go.Ground.phase }, { on := 82, ground := Go.Ground.phase }, { on := 83, ground := Go.Ground.phase }, { on := 84, ground := Go.Ground.phase }, { on := 85, ground := Go.Ground.phase }, { on := 86, ground := Go.Ground.phase }, { on := 87, ground := Go.Ground.phase }, { on := 88, ground := Go.Ground.phase }, { on := 89, ground := Go.Ground.phase }, { on := 90, ground := Go.Ground.phase }, { on := 91, ground := Go.Ground.phase }, { on := 92, ground := Go.Ground.phase }, { on := 93, ground := Go.Ground.phase }, { on := 94, ground := Go.Ground.phase }, { on := 95, ground := Go.Ground.phase }, { on := 96, ground := Go.Ground.phase }, { on := 97, ground := Go.Ground.phase }, { on := 98, ground := Go.Ground.phase }, { on := 99, ground := Go.Ground.phase }, { on := 100, ground := Go.Ground.phase }, { on := 101, ground := Go.Ground.phase }, { on := 102, ground := Go.Ground.phase }, { on := 103, ground := Go.Ground.phase }]).toArray, guard := none }) (v := ?v105) rfl (by kernel_rfl) (by kernel_rfl) (by kernel_rfl) (fun _ _ _ h => h) (Or.inl ⟨by rfl, ?hy105⟩) (by assumption) ?rest105
                    case hy105 => (intro w hSw; (try dsimp only at hSw); go_simp <;> with_reducible rfl)
                    try simp only [Act.put, List.setIfInBounds_toArray, List.set_cons_zero, List.set_cons_succ]
                    refine wpAnyH_done (by kernel_rfl) ?_ _
                    clear cbp0 cbp1 cbp2 cbp3 cbp4 cbp5 cbp6 cbp7 cbp8 cbp9
                    go_wp2_with fail
                    go_ret
                    exact ⟨rfl, (((((HX_w1.out.trans HX_w2.out).trans HX_w3.out).andThen HX_w4.out (fun i hi e => by have := hb_bp; omega)).trans HX_w5.out).trans HX_w6.out).drew⟩
end Go.Proofs.YtfcfpkhcpijkfaaDoor
