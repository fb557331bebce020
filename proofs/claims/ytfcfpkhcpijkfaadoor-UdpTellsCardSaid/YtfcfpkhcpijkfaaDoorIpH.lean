/-
  The contracts of ipv4's read, heads.bytes and heads.check. By an AI agent.
-/
import Derived.Test.YtfcfpkhcpijkfaaDoorIpR
import Derived.Test.YtfcfpkhcpijkfaaDoorSum
namespace Go.Proofs.YtfcfpkhcpijkfaaDoor
open Go.RowKit

/-- a head as a value -/
def hdv (h : Hd) : Value := .agg #[.int .u8 h.vi, .int .u8 h.tos, .int .u16 h.size, .int .u16 h.id, .int .u16 h.bits, .int .u8 h.ttl, .int .u8 h.pr, .int .u16 h.sum, .int .u32 h.src, .int .u32 h.dst]
theorem RD.apart {w : World} {p g o : Nat} {l : List UInt8} (h : RD w p g o l) : g ≠ p := by
  obtain ⟨_, _, _, _, _, _, h5, _⟩ := h
  exact h5
theorem ru8_cons (p g o : Nat) (x : UInt8) (l : List UInt8) (w : World) (h : RD w p g o (x :: l)) :
    Calls Tryd.prog 74 #[.pointer (some ⟨p, 0, none⟩)] w fun e w' => e = .returned (.tuple #[.int .u8 (x.toNat : Int), .nilIface]) ∧ RD w' p g (o + 1) l ∧ Ex (fun j => j = p) w w' := by
  have e : nb [x] = x.toNat := by simp [nb]
  rw [← e]
  exact ru8_any p g o (x :: l) w h (by simp)
theorem ru16_cons (p g o : Nat) (x y : UInt8) (l : List UInt8) (w : World) (h : RD w p g o (x :: y :: l)) :
    Calls Tryd.prog 40 #[.pointer (some ⟨p, 0, none⟩)] w fun e w' => e = .returned (.tuple #[.int .u16 (nb [x, y] : Int), .nilIface]) ∧ RD w' p g (o + 2) l ∧ Ex (fun j => j = p) w w' :=
  ru16_any p g o (x :: y :: l) w h (by simp)
theorem ru32_cons (p g o : Nat) (x y z t : UInt8) (l : List UInt8) (w : World) (h : RD w p g o (x :: y :: z :: t :: l)) :
    Calls Tryd.prog 75 #[.pointer (some ⟨p, 0, none⟩)] w fun e w' => e = .returned (.tuple #[.int .u32 (nb [x, y, z, t] : Int), .nilIface]) ∧ RD w' p g (o + 4) l ∧ Ex (fun j => j = p) w w' :=
  ru32_any p g o (x :: y :: z :: t :: l) w h (by simp)
theorem hd_size : (Tryd.prog.info? 97).map (·.size) = some 10 := by kernel_rfl
set_option maxRecDepth 100000 in
set_option maxHeartbeats 1000000 in
theorem hread_any (p g o : Nat) (l : List UInt8) (w : World) (h : RD w p g o l) (hl : 20 ≤ l.length) :
    Calls Tryd.prog 53 #[.pointer (some ⟨p, 0, none⟩)] w fun e w' => e = .returned (hdv (Hd.of l)) ∧ Ex (fun j => j = p) w w' := by
  obtain ⟨x0, x1, x2, x3, x4, x5, x6, x7, x8, x9, x10, x11, x12, x13, x14, x15, x16, x17, x18, x19, r, rfl⟩ := twenty hl
  have hpl := h.lt
  have hgl := h.ltg (by simp)
  have HG := Lib.hid h.apart
  have H := Lib.hid h
  clear h hl
  have hv : hdv (Hd.of (x0 :: x1 :: x2 :: x3 :: x4 :: x5 :: x6 :: x7 :: x8 :: x9 :: x10 :: x11 :: x12 :: x13 :: x14 :: x15 :: x16 :: x17 :: x18 :: x19 :: r)) = .agg #[.int .u8 (x0.toNat : Int), .int .u8 (x1.toNat : Int), .int .u16 (nb [x2, x3] : Int), .int .u16 (nb [x4, x5] : Int), .int .u16 (nb [x6, x7] : Int), .int .u8 (x8.toNat : Int), .int .u8 (x9.toNat : Int), .int .u16 (nb [x10, x11] : Int), .int .u32 (nb [x12, x13, x14, x15] : Int), .int .u32 (nb [x16, x17, x18, x19] : Int)] := rfl
  rw [hv]
  clear hv
  go_enter Tryd.func53, Tryd.ntmps53
  go_upto_region 1 with fail
  have hx0 : Ex (fun _ => False) w (w.alloc (.cells #[.int .u8 0, .int .u8 0, .int .u16 0, .int .u16 0, .int .u16 0, .int .u8 0, .int .u8 0, .int .u16 0, .int .u32 0, .int .u32 0] 97)) := (Ex.refl _ w).alloc _
  have hb0 : (w.alloc (.cells #[.int .u8 0, .int .u8 0, .int .u16 0, .int .u16 0, .int .u16 0, .int .u8 0, .int .u8 0, .int .u16 0, .int .u32 0, .int .u32 0] 97)).heap[w.heap.size]? = some (.cells #[.int .u8 0, .int .u8 0, .int .u16 0, .int .u16 0, .int .u16 0, .int .u8 0, .int .u8 0, .int .u16 0, .int .u32 0, .int .u32 0] 97) := heap_alloc_new w _
  obtain ⟨hb, hhb⟩ : ∃ hb, hb = w.heap.size := ⟨_, rfl⟩
  have hb_1 : w.heap.size ≤ hb := by omega
  have hne : hb ≠ p := by omega
  have hng : hb ≠ g := by omega
  rw [← hhb] at hb0
  try simp only [← hhb]
  generalize w.alloc (.cells #[.int .u8 0, .int .u8 0, .int .u16 0, .int .u16 0, .int .u16 0, .int .u8 0, .int .u8 0, .int .u16 0, .int .u32 0, .int .u32 0] 97) = w0 at hx0 hb0 ⊢
  have HR0 := Lib.hid (H.out.keep hx0 id (fun _ => id))
  have HX0 := Lib.hid (hx0.mono (T := fun j => j = p) (fun _ _ h => h.elim))
  have HB0 := Lib.hid hb0
  clear hhb hx0 hb0 H hpl hgl
  go_wp2_with fail
  refine (ru8_cons p g _ x0 (x1 :: x2 :: x3 :: x4 :: x5 :: x6 :: x7 :: x8 :: x9 :: x10 :: x11 :: x12 :: x13 :: x14 :: x15 :: x16 :: x17 :: x18 :: x19 :: r) w0 HR0.out).mono ?_
  rintro e v0 ⟨rfl, hr, hx⟩
  have hb2 := (hx.block hb (row_lt HB0.out) hne).trans HB0.out
  have c := row_cell (k := 0) (v := .int .u8 0) hb2 rfl
  have f := row_frozen hb2 0
  have hs : (v0.setCell ⟨hb, 0, none⟩ (.int .u8 (x0.toNat : Int))).heap[hb]? = some (.cells #[.int .u8 (x0.toNat : Int), .int .u8 0, .int .u16 0, .int .u16 0, .int .u16 0, .int .u8 0, .int .u8 0, .int .u16 0, .int .u32 0, .int .u32 0] 97) := row_set hb2 0 (.int .u8 (x0.toNat : Int))
  have hx2 : Ex (fun j => j = hb) v0 (v0.setCell ⟨hb, 0, none⟩ (.int .u8 (x0.toNat : Int))) := (Ex.refl (fun j => j = hb) v0).setCell (p := ⟨hb, 0, none⟩) (.inl rfl) _
  have HR1 := Lib.hid (hr.keep hx2 (fun e => hne e.symm) (fun _ e => hng e.symm))
  have HX1 := Lib.hid ((HX0.out.trans hx).andThen hx2 (fun i hi e => by omega))
  have HB1 := Lib.hid hs
  clear hr hx hb2 hx2 hs HR0 HX0 HB0
  go_upto_region 2 with fail
  clear c f
  generalize v0.setCell ⟨hb, 0, none⟩ (.int .u8 (x0.toNat : Int)) = w1 at HR1 HX1 HB1 ⊢
  go_wp2_with fail
  refine (ru8_cons p g _ x1 (x2 :: x3 :: x4 :: x5 :: x6 :: x7 :: x8 :: x9 :: x10 :: x11 :: x12 :: x13 :: x14 :: x15 :: x16 :: x17 :: x18 :: x19 :: r) w1 HR1.out).mono ?_
  rintro e v1 ⟨rfl, hr, hx⟩
  have hb2 := (hx.block hb (row_lt HB1.out) hne).trans HB1.out
  have c := row_cell (k := 1) (v := .int .u8 0) hb2 rfl
  have f := row_frozen hb2 1
  have hs : (v1.setCell ⟨hb, 1, none⟩ (.int .u8 (x1.toNat : Int))).heap[hb]? = some (.cells #[.int .u8 (x0.toNat : Int), .int .u8 (x1.toNat : Int), .int .u16 0, .int .u16 0, .int .u16 0, .int .u8 0, .int .u8 0, .int .u16 0, .int .u32 0, .int .u32 0] 97) := row_set hb2 1 (.int .u8 (x1.toNat : Int))
  have hx2 : Ex (fun j => j = hb) v1 (v1.setCell ⟨hb, 1, none⟩ (.int .u8 (x1.toNat : Int))) := (Ex.refl (fun j => j = hb) v1).setCell (p := ⟨hb, 1, none⟩) (.inl rfl) _
  have HR2 := Lib.hid (hr.keep hx2 (fun e => hne e.symm) (fun _ e => hng e.symm))
  have HX2 := Lib.hid ((HX1.out.trans hx).andThen hx2 (fun i hi e => by omega))
  have HB2 := Lib.hid hs
  clear hr hx hb2 hx2 hs HR1 HX1 HB1
  go_upto_region 3 with fail
  clear c f
  generalize v1.setCell ⟨hb, 1, none⟩ (.int .u8 (x1.toNat : Int)) = w2 at HR2 HX2 HB2 ⊢
  go_wp2_with fail
  refine (ru16_cons p g _ x2 x3 (x4 :: x5 :: x6 :: x7 :: x8 :: x9 :: x10 :: x11 :: x12 :: x13 :: x14 :: x15 :: x16 :: x17 :: x18 :: x19 :: r) w2 HR2.out).mono ?_
  rintro e v2 ⟨rfl, hr, hx⟩
  have hb2 := (hx.block hb (row_lt HB2.out) hne).trans HB2.out
  have c := row_cell (k := 2) (v := .int .u16 0) hb2 rfl
  have f := row_frozen hb2 2
  have hs : (v2.setCell ⟨hb, 2, none⟩ (.int .u16 (nb [x2, x3] : Int))).heap[hb]? = some (.cells #[.int .u8 (x0.toNat : Int), .int .u8 (x1.toNat : Int), .int .u16 (nb [x2, x3] : Int), .int .u16 0, .int .u16 0, .int .u8 0, .int .u8 0, .int .u16 0, .int .u32 0, .int .u32 0] 97) := row_set hb2 2 (.int .u16 (nb [x2, x3] : Int))
  have hx2 : Ex (fun j => j = hb) v2 (v2.setCell ⟨hb, 2, none⟩ (.int .u16 (nb [x2, x3] : Int))) := (Ex.refl (fun j => j = hb) v2).setCell (p := ⟨hb, 2, none⟩) (.inl rfl) _
  have HR3 := Lib.hid (hr.keep hx2 (fun e => hne e.symm) (fun _ e => hng e.symm))
  have HX3 := Lib.hid ((HX2.out.trans hx).andThen hx2 (fun i hi e => by omega))
  have HB3 := Lib.hid hs
  clear hr hx hb2 hx2 hs HR2 HX2 HB2
  go_upto_region 4 with fail
  clear c f
  generalize v2.setCell ⟨hb, 2, none⟩ (.int .u16 (nb [x2, x3] : Int)) = w3 at HR3 HX3 HB3 ⊢
  go_wp2_with fail
  refine (ru16_cons p g _ x4 x5 (x6 :: x7 :: x8 :: x9 :: x10 :: x11 :: x12 :: x13 :: x14 :: x15 :: x16 :: x17 :: x18 :: x19 :: r) w3 HR3.out).mono ?_
  rintro e v3 ⟨rfl, hr, hx⟩
  have hb2 := (hx.block hb (row_lt HB3.out) hne).trans HB3.out
  have c := row_cell (k := 3) (v := .int .u16 0) hb2 rfl
  have f := row_frozen hb2 3
  have hs : (v3.setCell ⟨hb, 3, none⟩ (.int .u16 (nb [x4, x5] : Int))).heap[hb]? = some (.cells #[.int .u8 (x0.toNat : Int), .int .u8 (x1.toNat : Int), .int .u16 (nb [x2, x3] : Int), .int .u16 (nb [x4, x5] : Int), .int .u16 0, .int .u8 0, .int .u8 0, .int .u16 0, .int .u32 0, .int .u32 0] 97) := row_set hb2 3 (.int .u16 (nb [x4, x5] : Int))
  have hx2 : Ex (fun j => j = hb) v3 (v3.setCell ⟨hb, 3, none⟩ (.int .u16 (nb [x4, x5] : Int))) := (Ex.refl (fun j => j = hb) v3).setCell (p := ⟨hb, 3, none⟩) (.inl rfl) _
  have HR4 := Lib.hid (hr.keep hx2 (fun e => hne e.symm) (fun _ e => hng e.symm))
  have HX4 := Lib.hid ((HX3.out.trans hx).andThen hx2 (fun i hi e => by omega))
  have HB4 := Lib.hid hs
  clear hr hx hb2 hx2 hs HR3 HX3 HB3
  go_upto_region 5 with fail
  clear c f
  generalize v3.setCell ⟨hb, 3, none⟩ (.int .u16 (nb [x4, x5] : Int)) = w4 at HR4 HX4 HB4 ⊢
  go_wp2_with fail
  refine (ru16_cons p g _ x6 x7 (x8 :: x9 :: x10 :: x11 :: x12 :: x13 :: x14 :: x15 :: x16 :: x17 :: x18 :: x19 :: r) w4 HR4.out).mono ?_
  rintro e v4 ⟨rfl, hr, hx⟩
  have hb2 := (hx.block hb (row_lt HB4.out) hne).trans HB4.out
  have c := row_cell (k := 4) (v := .int .u16 0) hb2 rfl
  have f := row_frozen hb2 4
  have hs : (v4.setCell ⟨hb, 4, none⟩ (.int .u16 (nb [x6, x7] : Int))).heap[hb]? = some (.cells #[.int .u8 (x0.toNat : Int), .int .u8 (x1.toNat : Int), .int .u16 (nb [x2, x3] : Int), .int .u16 (nb [x4, x5] : Int), .int .u16 (nb [x6, x7] : Int), .int .u8 0, .int .u8 0, .int .u16 0, .int .u32 0, .int .u32 0] 97) := row_set hb2 4 (.int .u16 (nb [x6, x7] : Int))
  have hx2 : Ex (fun j => j = hb) v4 (v4.setCell ⟨hb, 4, none⟩ (.int .u16 (nb [x6, x7] : Int))) := (Ex.refl (fun j => j = hb) v4).setCell (p := ⟨hb, 4, none⟩) (.inl rfl) _
  have HR5 := Lib.hid (hr.keep hx2 (fun e => hne e.symm) (fun _ e => hng e.symm))
  have HX5 := Lib.hid ((HX4.out.trans hx).andThen hx2 (fun i hi e => by omega))
  have HB5 := Lib.hid hs
  clear hr hx hb2 hx2 hs HR4 HX4 HB4
  go_upto_region 6 with fail
  clear c f
  generalize v4.setCell ⟨hb, 4, none⟩ (.int .u16 (nb [x6, x7] : Int)) = w5 at HR5 HX5 HB5 ⊢
  go_wp2_with fail
  refine (ru8_cons p g _ x8 (x9 :: x10 :: x11 :: x12 :: x13 :: x14 :: x15 :: x16 :: x17 :: x18 :: x19 :: r) w5 HR5.out).mono ?_
  rintro e v5 ⟨rfl, hr, hx⟩
  have hb2 := (hx.block hb (row_lt HB5.out) hne).trans HB5.out
  have c := row_cell (k := 5) (v := .int .u8 0) hb2 rfl
  have f := row_frozen hb2 5
  have hs : (v5.setCell ⟨hb, 5, none⟩ (.int .u8 (x8.toNat : Int))).heap[hb]? = some (.cells #[.int .u8 (x0.toNat : Int), .int .u8 (x1.toNat : Int), .int .u16 (nb [x2, x3] : Int), .int .u16 (nb [x4, x5] : Int), .int .u16 (nb [x6, x7] : Int), .int .u8 (x8.toNat : Int), .int .u8 0, .int .u16 0, .int .u32 0, .int .u32 0] 97) := row_set hb2 5 (.int .u8 (x8.toNat : Int))
  have hx2 : Ex (fun j => j = hb) v5 (v5.setCell ⟨hb, 5, none⟩ (.int .u8 (x8.toNat : Int))) := (Ex.refl (fun j => j = hb) v5).setCell (p := ⟨hb, 5, none⟩) (.inl rfl) _
  have HR6 := Lib.hid (hr.keep hx2 (fun e => hne e.symm) (fun _ e => hng e.symm))
  have HX6 := Lib.hid ((HX5.out.trans hx).andThen hx2 (fun i hi e => by omega))
  have HB6 := Lib.hid hs
  clear hr hx hb2 hx2 hs HR5 HX5 HB5
  go_upto_region 7 with fail
  clear c f
  generalize v5.setCell ⟨hb, 5, none⟩ (.int .u8 (x8.toNat : Int)) = w6 at HR6 HX6 HB6 ⊢
  go_wp2_with fail
  refine (ru8_cons p g _ x9 (x10 :: x11 :: x12 :: x13 :: x14 :: x15 :: x16 :: x17 :: x18 :: x19 :: r) w6 HR6.out).mono ?_
  rintro e v6 ⟨rfl, hr, hx⟩
  have hb2 := (hx.block hb (row_lt HB6.out) hne).trans HB6.out
  have c := row_cell (k := 6) (v := .int .u8 0) hb2 rfl
  have f := row_frozen hb2 6
  have hs : (v6.setCell ⟨hb, 6, none⟩ (.int .u8 (x9.toNat : Int))).heap[hb]? = some (.cells #[.int .u8 (x0.toNat : Int), .int .u8 (x1.toNat : Int), .int .u16 (nb [x2, x3] : Int), .int .u16 (nb [x4, x5] : Int), .int .u16 (nb [x6, x7] : Int), .int .u8 (x8.toNat : Int), .int .u8 (x9.toNat : Int), .int .u16 0, .int .u32 0, .int .u32 0] 97) := row_set hb2 6 (.int .u8 (x9.toNat : Int))
  have hx2 : Ex (fun j => j = hb) v6 (v6.setCell ⟨hb, 6, none⟩ (.int .u8 (x9.toNat : Int))) := (Ex.refl (fun j => j = hb) v6).setCell (p := ⟨hb, 6, none⟩) (.inl rfl) _
  have HR7 := Lib.hid (hr.keep hx2 (fun e => hne e.symm) (fun _ e => hng e.symm))
  have HX7 := Lib.hid ((HX6.out.trans hx).andThen hx2 (fun i hi e => by omega))
  have HB7 := Lib.hid hs
  clear hr hx hb2 hx2 hs HR6 HX6 HB6
  go_upto_region 8 with fail
  clear c f
  generalize v6.setCell ⟨hb, 6, none⟩ (.int .u8 (x9.toNat : Int)) = w7 at HR7 HX7 HB7 ⊢
  go_wp2_with fail
  refine (ru16_cons p g _ x10 x11 (x12 :: x13 :: x14 :: x15 :: x16 :: x17 :: x18 :: x19 :: r) w7 HR7.out).mono ?_
  rintro e v7 ⟨rfl, hr, hx⟩
  have hb2 := (hx.block hb (row_lt HB7.out) hne).trans HB7.out
  have c := row_cell (k := 7) (v := .int .u16 0) hb2 rfl
  have f := row_frozen hb2 7
  have hs : (v7.setCell ⟨hb, 7, none⟩ (.int .u16 (nb [x10, x11] : Int))).heap[hb]? = some (.cells #[.int .u8 (x0.toNat : Int), .int .u8 (x1.toNat : Int), .int .u16 (nb [x2, x3] : Int), .int .u16 (nb [x4, x5] : Int), .int .u16 (nb [x6, x7] : Int), .int .u8 (x8.toNat : Int), .int .u8 (x9.toNat : Int), .int .u16 (nb [x10, x11] : Int), .int .u32 0, .int .u32 0] 97) := row_set hb2 7 (.int .u16 (nb [x10, x11] : Int))
  have hx2 : Ex (fun j => j = hb) v7 (v7.setCell ⟨hb, 7, none⟩ (.int .u16 (nb [x10, x11] : Int))) := (Ex.refl (fun j => j = hb) v7).setCell (p := ⟨hb, 7, none⟩) (.inl rfl) _
  have HR8 := Lib.hid (hr.keep hx2 (fun e => hne e.symm) (fun _ e => hng e.symm))
  have HX8 := Lib.hid ((HX7.out.trans hx).andThen hx2 (fun i hi e => by omega))
  have HB8 := Lib.hid hs
  clear hr hx hb2 hx2 hs HR7 HX7 HB7
  go_upto_region 9 with fail
  clear c f
  generalize v7.setCell ⟨hb, 7, none⟩ (.int .u16 (nb [x10, x11] : Int)) = w8 at HR8 HX8 HB8 ⊢
  go_wp2_with fail
  refine (ru32_cons p g _ x12 x13 x14 x15 (x16 :: x17 :: x18 :: x19 :: r) w8 HR8.out).mono ?_
  rintro e v8 ⟨rfl, hr, hx⟩
  have hb2 := (hx.block hb (row_lt HB8.out) hne).trans HB8.out
  have c := row_cell (k := 8) (v := .int .u32 0) hb2 rfl
  have f := row_frozen hb2 8
  have hs : (v8.setCell ⟨hb, 8, none⟩ (.int .u32 (nb [x12, x13, x14, x15] : Int))).heap[hb]? = some (.cells #[.int .u8 (x0.toNat : Int), .int .u8 (x1.toNat : Int), .int .u16 (nb [x2, x3] : Int), .int .u16 (nb [x4, x5] : Int), .int .u16 (nb [x6, x7] : Int), .int .u8 (x8.toNat : Int), .int .u8 (x9.toNat : Int), .int .u16 (nb [x10, x11] : Int), .int .u32 (nb [x12, x13, x14, x15] : Int), .int .u32 0] 97) := row_set hb2 8 (.int .u32 (nb [x12, x13, x14, x15] : Int))
  have hx2 : Ex (fun j => j = hb) v8 (v8.setCell ⟨hb, 8, none⟩ (.int .u32 (nb [x12, x13, x14, x15] : Int))) := (Ex.refl (fun j => j = hb) v8).setCell (p := ⟨hb, 8, none⟩) (.inl rfl) _
  have HR9 := Lib.hid (hr.keep hx2 (fun e => hne e.symm) (fun _ e => hng e.symm))
  have HX9 := Lib.hid ((HX8.out.trans hx).andThen hx2 (fun i hi e => by omega))
  have HB9 := Lib.hid hs
  clear hr hx hb2 hx2 hs HR8 HX8 HB8
  go_upto_region 10 with fail
  clear c f
  generalize v8.setCell ⟨hb, 8, none⟩ (.int .u32 (nb [x12, x13, x14, x15] : Int)) = w9 at HR9 HX9 HB9 ⊢
  go_wp2_with fail
  refine (ru32_cons p g _ x16 x17 x18 x19 (r) w9 HR9.out).mono ?_
  rintro e v9 ⟨rfl, hr, hx⟩
  have hb2 := (hx.block hb (row_lt HB9.out) hne).trans HB9.out
  have c := row_cell (k := 9) (v := .int .u32 0) hb2 rfl
  have f := row_frozen hb2 9
  have hs : (v9.setCell ⟨hb, 9, none⟩ (.int .u32 (nb [x16, x17, x18, x19] : Int))).heap[hb]? = some (.cells #[.int .u8 (x0.toNat : Int), .int .u8 (x1.toNat : Int), .int .u16 (nb [x2, x3] : Int), .int .u16 (nb [x4, x5] : Int), .int .u16 (nb [x6, x7] : Int), .int .u8 (x8.toNat : Int), .int .u8 (x9.toNat : Int), .int .u16 (nb [x10, x11] : Int), .int .u32 (nb [x12, x13, x14, x15] : Int), .int .u32 (nb [x16, x17, x18, x19] : Int)] 97) := row_set hb2 9 (.int .u32 (nb [x16, x17, x18, x19] : Int))
  have hx2 : Ex (fun j => j = hb) v9 (v9.setCell ⟨hb, 9, none⟩ (.int .u32 (nb [x16, x17, x18, x19] : Int))) := (Ex.refl (fun j => j = hb) v9).setCell (p := ⟨hb, 9, none⟩) (.inl rfl) _
  have HR10 := Lib.hid (hr.keep hx2 (fun e => hne e.symm) (fun _ e => hng e.symm))
  have HX10 := Lib.hid ((HX9.out.trans hx).andThen hx2 (fun i hi e => by omega))
  have HB10 := Lib.hid hs
  clear hr hx hb2 hx2 hs HR9 HX9 HB9
  go_upto_region 11 with fail
  clear c f
  generalize v9.setCell ⟨hb, 9, none⟩ (.int .u32 (nb [x16, x17, x18, x19] : Int)) = w10 at HR10 HX10 HB10 ⊢
  have c0 := row_cell (k := 0) (v := .int .u8 (x0.toNat : Int)) HB10.out rfl
  have f0 := row_frozen HB10.out 0
  have c1 := row_cell (k := 1) (v := .int .u8 (x1.toNat : Int)) HB10.out rfl
  have f1 := row_frozen HB10.out 1
  have c2 := row_cell (k := 2) (v := .int .u16 (nb [x2, x3] : Int)) HB10.out rfl
  have f2 := row_frozen HB10.out 2
  have c3 := row_cell (k := 3) (v := .int .u16 (nb [x4, x5] : Int)) HB10.out rfl
  have f3 := row_frozen HB10.out 3
  have c4 := row_cell (k := 4) (v := .int .u16 (nb [x6, x7] : Int)) HB10.out rfl
  have f4 := row_frozen HB10.out 4
  have c5 := row_cell (k := 5) (v := .int .u8 (x8.toNat : Int)) HB10.out rfl
  have f5 := row_frozen HB10.out 5
  have c6 := row_cell (k := 6) (v := .int .u8 (x9.toNat : Int)) HB10.out rfl
  have f6 := row_frozen HB10.out 6
  have c7 := row_cell (k := 7) (v := .int .u16 (nb [x10, x11] : Int)) HB10.out rfl
  have f7 := row_frozen HB10.out 7
  have c8 := row_cell (k := 8) (v := .int .u32 (nb [x12, x13, x14, x15] : Int)) HB10.out rfl
  have f8 := row_frozen HB10.out 8
  have c9 := row_cell (k := 9) (v := .int .u32 (nb [x16, x17, x18, x19] : Int)) HB10.out rfl
  have f9 := row_frozen HB10.out 9
  have r0 : (w10.setCell ⟨hb, 0, none⟩ (.int .u8 (x0.toNat : Int))).heap[hb]? = some (.cells #[.int .u8 (x0.toNat : Int), .int .u8 (x1.toNat : Int), .int .u16 (nb [x2, x3] : Int), .int .u16 (nb [x4, x5] : Int), .int .u16 (nb [x6, x7] : Int), .int .u8 (x8.toNat : Int), .int .u8 (x9.toNat : Int), .int .u16 (nb [x10, x11] : Int), .int .u32 (nb [x12, x13, x14, x15] : Int), .int .u32 (nb [x16, x17, x18, x19] : Int)] 97) := row_set HB10.out 0 (.int .u8 (x0.toNat : Int))
  have r1 : ((w10.setCell ⟨hb, 0, none⟩ (.int .u8 (x0.toNat : Int))).setCell ⟨hb, 1, none⟩ (.int .u8 (x1.toNat : Int))).heap[hb]? = some (.cells #[.int .u8 (x0.toNat : Int), .int .u8 (x1.toNat : Int), .int .u16 (nb [x2, x3] : Int), .int .u16 (nb [x4, x5] : Int), .int .u16 (nb [x6, x7] : Int), .int .u8 (x8.toNat : Int), .int .u8 (x9.toNat : Int), .int .u16 (nb [x10, x11] : Int), .int .u32 (nb [x12, x13, x14, x15] : Int), .int .u32 (nb [x16, x17, x18, x19] : Int)] 97) := row_set r0 1 (.int .u8 (x1.toNat : Int))
  clear r0
  have r2 : (((w10.setCell ⟨hb, 0, none⟩ (.int .u8 (x0.toNat : Int))).setCell ⟨hb, 1, none⟩ (.int .u8 (x1.toNat : Int))).setCell ⟨hb, 2, none⟩ (.int .u16 (nb [x2, x3] : Int))).heap[hb]? = some (.cells #[.int .u8 (x0.toNat : Int), .int .u8 (x1.toNat : Int), .int .u16 (nb [x2, x3] : Int), .int .u16 (nb [x4, x5] : Int), .int .u16 (nb [x6, x7] : Int), .int .u8 (x8.toNat : Int), .int .u8 (x9.toNat : Int), .int .u16 (nb [x10, x11] : Int), .int .u32 (nb [x12, x13, x14, x15] : Int), .int .u32 (nb [x16, x17, x18, x19] : Int)] 97) := row_set r1 2 (.int .u16 (nb [x2, x3] : Int))
  clear r1
  have r3 : ((((w10.setCell ⟨hb, 0, none⟩ (.int .u8 (x0.toNat : Int))).setCell ⟨hb, 1, none⟩ (.int .u8 (x1.toNat : Int))).setCell ⟨hb, 2, none⟩ (.int .u16 (nb [x2, x3] : Int))).setCell ⟨hb, 3, none⟩ (.int .u16 (nb [x4, x5] : Int))).heap[hb]? = some (.cells #[.int .u8 (x0.toNat : Int), .int .u8 (x1.toNat : Int), .int .u16 (nb [x2, x3] : Int), .int .u16 (nb [x4, x5] : Int), .int .u16 (nb [x6, x7] : Int), .int .u8 (x8.toNat : Int), .int .u8 (x9.toNat : Int), .int .u16 (nb [x10, x11] : Int), .int .u32 (nb [x12, x13, x14, x15] : Int), .int .u32 (nb [x16, x17, x18, x19] : Int)] 97) := row_set r2 3 (.int .u16 (nb [x4, x5] : Int))
  clear r2
  have r4 : (((((w10.setCell ⟨hb, 0, none⟩ (.int .u8 (x0.toNat : Int))).setCell ⟨hb, 1, none⟩ (.int .u8 (x1.toNat : Int))).setCell ⟨hb, 2, none⟩ (.int .u16 (nb [x2, x3] : Int))).setCell ⟨hb, 3, none⟩ (.int .u16 (nb [x4, x5] : Int))).setCell ⟨hb, 4, none⟩ (.int .u16 (nb [x6, x7] : Int))).heap[hb]? = some (.cells #[.int .u8 (x0.toNat : Int), .int .u8 (x1.toNat : Int), .int .u16 (nb [x2, x3] : Int), .int .u16 (nb [x4, x5] : Int), .int .u16 (nb [x6, x7] : Int), .int .u8 (x8.toNat : Int), .int .u8 (x9.toNat : Int), .int .u16 (nb [x10, x11] : Int), .int .u32 (nb [x12, x13, x14, x15] : Int), .int .u32 (nb [x16, x17, x18, x19] : Int)] 97) := row_set r3 4 (.int .u16 (nb [x6, x7] : Int))
  clear r3
  have r5 : ((((((w10.setCell ⟨hb, 0, none⟩ (.int .u8 (x0.toNat : Int))).setCell ⟨hb, 1, none⟩ (.int .u8 (x1.toNat : Int))).setCell ⟨hb, 2, none⟩ (.int .u16 (nb [x2, x3] : Int))).setCell ⟨hb, 3, none⟩ (.int .u16 (nb [x4, x5] : Int))).setCell ⟨hb, 4, none⟩ (.int .u16 (nb [x6, x7] : Int))).setCell ⟨hb, 5, none⟩ (.int .u8 (x8.toNat : Int))).heap[hb]? = some (.cells #[.int .u8 (x0.toNat : Int), .int .u8 (x1.toNat : Int), .int .u16 (nb [x2, x3] : Int), .int .u16 (nb [x4, x5] : Int), .int .u16 (nb [x6, x7] : Int), .int .u8 (x8.toNat : Int), .int .u8 (x9.toNat : Int), .int .u16 (nb [x10, x11] : Int), .int .u32 (nb [x12, x13, x14, x15] : Int), .int .u32 (nb [x16, x17, x18, x19] : Int)] 97) := row_set r4 5 (.int .u8 (x8.toNat : Int))
  clear r4
  have r6 : (((((((w10.setCell ⟨hb, 0, none⟩ (.int .u8 (x0.toNat : Int))).setCell ⟨hb, 1, none⟩ (.int .u8 (x1.toNat : Int))).setCell ⟨hb, 2, none⟩ (.int .u16 (nb [x2, x3] : Int))).setCell ⟨hb, 3, none⟩ (.int .u16 (nb [x4, x5] : Int))).setCell ⟨hb, 4, none⟩ (.int .u16 (nb [x6, x7] : Int))).setCell ⟨hb, 5, none⟩ (.int .u8 (x8.toNat : Int))).setCell ⟨hb, 6, none⟩ (.int .u8 (x9.toNat : Int))).heap[hb]? = some (.cells #[.int .u8 (x0.toNat : Int), .int .u8 (x1.toNat : Int), .int .u16 (nb [x2, x3] : Int), .int .u16 (nb [x4, x5] : Int), .int .u16 (nb [x6, x7] : Int), .int .u8 (x8.toNat : Int), .int .u8 (x9.toNat : Int), .int .u16 (nb [x10, x11] : Int), .int .u32 (nb [x12, x13, x14, x15] : Int), .int .u32 (nb [x16, x17, x18, x19] : Int)] 97) := row_set r5 6 (.int .u8 (x9.toNat : Int))
  clear r5
  have r7 : ((((((((w10.setCell ⟨hb, 0, none⟩ (.int .u8 (x0.toNat : Int))).setCell ⟨hb, 1, none⟩ (.int .u8 (x1.toNat : Int))).setCell ⟨hb, 2, none⟩ (.int .u16 (nb [x2, x3] : Int))).setCell ⟨hb, 3, none⟩ (.int .u16 (nb [x4, x5] : Int))).setCell ⟨hb, 4, none⟩ (.int .u16 (nb [x6, x7] : Int))).setCell ⟨hb, 5, none⟩ (.int .u8 (x8.toNat : Int))).setCell ⟨hb, 6, none⟩ (.int .u8 (x9.toNat : Int))).setCell ⟨hb, 7, none⟩ (.int .u16 (nb [x10, x11] : Int))).heap[hb]? = some (.cells #[.int .u8 (x0.toNat : Int), .int .u8 (x1.toNat : Int), .int .u16 (nb [x2, x3] : Int), .int .u16 (nb [x4, x5] : Int), .int .u16 (nb [x6, x7] : Int), .int .u8 (x8.toNat : Int), .int .u8 (x9.toNat : Int), .int .u16 (nb [x10, x11] : Int), .int .u32 (nb [x12, x13, x14, x15] : Int), .int .u32 (nb [x16, x17, x18, x19] : Int)] 97) := row_set r6 7 (.int .u16 (nb [x10, x11] : Int))
  clear r6
  have r8 : (((((((((w10.setCell ⟨hb, 0, none⟩ (.int .u8 (x0.toNat : Int))).setCell ⟨hb, 1, none⟩ (.int .u8 (x1.toNat : Int))).setCell ⟨hb, 2, none⟩ (.int .u16 (nb [x2, x3] : Int))).setCell ⟨hb, 3, none⟩ (.int .u16 (nb [x4, x5] : Int))).setCell ⟨hb, 4, none⟩ (.int .u16 (nb [x6, x7] : Int))).setCell ⟨hb, 5, none⟩ (.int .u8 (x8.toNat : Int))).setCell ⟨hb, 6, none⟩ (.int .u8 (x9.toNat : Int))).setCell ⟨hb, 7, none⟩ (.int .u16 (nb [x10, x11] : Int))).setCell ⟨hb, 8, none⟩ (.int .u32 (nb [x12, x13, x14, x15] : Int))).heap[hb]? = some (.cells #[.int .u8 (x0.toNat : Int), .int .u8 (x1.toNat : Int), .int .u16 (nb [x2, x3] : Int), .int .u16 (nb [x4, x5] : Int), .int .u16 (nb [x6, x7] : Int), .int .u8 (x8.toNat : Int), .int .u8 (x9.toNat : Int), .int .u16 (nb [x10, x11] : Int), .int .u32 (nb [x12, x13, x14, x15] : Int), .int .u32 (nb [x16, x17, x18, x19] : Int)] 97) := row_set r7 8 (.int .u32 (nb [x12, x13, x14, x15] : Int))
  clear r7
  have r9 : ((((((((((w10.setCell ⟨hb, 0, none⟩ (.int .u8 (x0.toNat : Int))).setCell ⟨hb, 1, none⟩ (.int .u8 (x1.toNat : Int))).setCell ⟨hb, 2, none⟩ (.int .u16 (nb [x2, x3] : Int))).setCell ⟨hb, 3, none⟩ (.int .u16 (nb [x4, x5] : Int))).setCell ⟨hb, 4, none⟩ (.int .u16 (nb [x6, x7] : Int))).setCell ⟨hb, 5, none⟩ (.int .u8 (x8.toNat : Int))).setCell ⟨hb, 6, none⟩ (.int .u8 (x9.toNat : Int))).setCell ⟨hb, 7, none⟩ (.int .u16 (nb [x10, x11] : Int))).setCell ⟨hb, 8, none⟩ (.int .u32 (nb [x12, x13, x14, x15] : Int))).setCell ⟨hb, 9, none⟩ (.int .u32 (nb [x16, x17, x18, x19] : Int))).heap[hb]? = some (.cells #[.int .u8 (x0.toNat : Int), .int .u8 (x1.toNat : Int), .int .u16 (nb [x2, x3] : Int), .int .u16 (nb [x4, x5] : Int), .int .u16 (nb [x6, x7] : Int), .int .u8 (x8.toNat : Int), .int .u8 (x9.toNat : Int), .int .u16 (nb [x10, x11] : Int), .int .u32 (nb [x12, x13, x14, x15] : Int), .int .u32 (nb [x16, x17, x18, x19] : Int)] 97) := row_set r8 9 (.int .u32 (nb [x16, x17, x18, x19] : Int))
  clear r8
  have HROW := Lib.hid r9
  have HS := Lib.hid (((((((((((Ex.refl (fun j => j = hb) w10).setCell (p := ⟨hb, 0, none⟩) (.inl rfl) (.int .u8 (x0.toNat : Int))).setCell (p := ⟨hb, 1, none⟩) (.inl rfl) (.int .u8 (x1.toNat : Int))).setCell (p := ⟨hb, 2, none⟩) (.inl rfl) (.int .u16 (nb [x2, x3] : Int))).setCell (p := ⟨hb, 3, none⟩) (.inl rfl) (.int .u16 (nb [x4, x5] : Int))).setCell (p := ⟨hb, 4, none⟩) (.inl rfl) (.int .u16 (nb [x6, x7] : Int))).setCell (p := ⟨hb, 5, none⟩) (.inl rfl) (.int .u8 (x8.toNat : Int))).setCell (p := ⟨hb, 6, none⟩) (.inl rfl) (.int .u8 (x9.toNat : Int))).setCell (p := ⟨hb, 7, none⟩) (.inl rfl) (.int .u16 (nb [x10, x11] : Int))).setCell (p := ⟨hb, 8, none⟩) (.inl rfl) (.int .u32 (nb [x12, x13, x14, x15] : Int))).setCell (p := ⟨hb, 9, none⟩) (.inl rfl) (.int .u32 (nb [x16, x17, x18, x19] : Int)))
  clear HR10 r9
  go_wp2_with fail
  (try simp only [Exit.inBlock, Exit.then])
  generalize ((((((((((w10.setCell ⟨hb, 0, none⟩ (.int .u8 (x0.toNat : Int))).setCell ⟨hb, 1, none⟩ (.int .u8 (x1.toNat : Int))).setCell ⟨hb, 2, none⟩ (.int .u16 (nb [x2, x3] : Int))).setCell ⟨hb, 3, none⟩ (.int .u16 (nb [x4, x5] : Int))).setCell ⟨hb, 4, none⟩ (.int .u16 (nb [x6, x7] : Int))).setCell ⟨hb, 5, none⟩ (.int .u8 (x8.toNat : Int))).setCell ⟨hb, 6, none⟩ (.int .u8 (x9.toNat : Int))).setCell ⟨hb, 7, none⟩ (.int .u16 (nb [x10, x11] : Int))).setCell ⟨hb, 8, none⟩ (.int .u32 (nb [x12, x13, x14, x15] : Int))).setCell ⟨hb, 9, none⟩ (.int .u32 (nb [x16, x17, x18, x19] : Int))) = wz at HROW HS ⊢
  refine bodyPost_ret (v := .agg #[.int .u8 (x0.toNat : Int), .int .u8 (x1.toNat : Int), .int .u16 (nb [x2, x3] : Int), .int .u16 (nb [x4, x5] : Int), .int .u16 (nb [x6, x7] : Int), .int .u8 (x8.toNat : Int), .int .u8 (x9.toNat : Int), .int .u16 (nb [x10, x11] : Int), .int .u32 (nb [x12, x13, x14, x15] : Int), .int .u32 (nb [x16, x17, x18, x19] : Int)]) ?_ rfl ⟨rfl, HX10.out.andThen HS.out (fun i hi e => by omega)⟩
  exact results_cell_row (p := 2) rfl _ _ hb 97 #[.int .u8 (x0.toNat : Int), .int .u8 (x1.toNat : Int), .int .u16 (nb [x2, x3] : Int), .int .u16 (nb [x4, x5] : Int), .int .u16 (nb [x6, x7] : Int), .int .u8 (x8.toNat : Int), .int .u8 (x9.toNat : Int), .int .u16 (nb [x10, x11] : Int), .int .u32 (nb [x12, x13, x14, x15] : Int), .int .u32 (nb [x16, x17, x18, x19] : Int)] (0, 0) _ rfl HROW.out Tryd.underlying97 rfl hd_size
theorem and15_all : ∀ n : Fin 256, Go.bits .and .u8 (n.val : Int) 15 = ((n.val % 16 : Nat) : Int) := by decide +kernel
theorem and15 (x : Int) (h0 : 0 ≤ x) (h1 : x ≤ 255) : Go.bits .and .u8 x 15 = x % 16 := by
  have := and15_all ⟨x.toNat, by omega⟩
  rw [show (((⟨x.toNat, by omega⟩ : Fin 256).val : Nat) : Int) = x by simp; omega] at this
  rw [this]; simp only; omega
theorem and4_all : ∀ n : Fin 8, Go.bits .and .u16 (n.val : Int) 4 = if n.val < 4 then 0 else 4 := by decide +kernel
theorem and4 (x : Int) (h0 : 0 ≤ x) (h1 : x ≤ 7) : Go.bits .and .u16 x 4 = if x < 4 then 0 else 4 := by
  have := and4_all ⟨x.toNat, by omega⟩
  rw [show (((⟨x.toNat, by omega⟩ : Fin 8).val : Nat) : Int) = x by simp; omega] at this
  rw [this]
  by_cases h : x < 4
  · rw [if_pos h, if_pos (by simp only; omega)]
  · rw [if_neg h, if_neg (by simp only; omega)]
set_option maxRecDepth 100000 in
set_option maxHeartbeats 1000000 in
theorem check_0 (vi tos size ident bits ttl pr sum src dst : Int) (v0 : 0 ≤ vi ∧ vi ≤ 255) (v1 : 0 ≤ size ∧ size ≤ 65535) (v2 : 0 ≤ bits ∧ bits ≤ 65535) (A : Option Addr) (n c : Nat) (all : Nat) (w : World)   (hn : vi / 16 ≠ 4) :
    Calls Tryd.prog 54 #[.agg #[.int .u8 vi, .int .u8 tos, .int .u16 size, .int .u16 ident, .int .u16 bits, .int .u8 ttl, .int .u8 pr, .int .u16 sum, .int .u32 src, .int .u32 dst], .slice A n c, .int .i64 (all : Int)] w fun e w' => e = .returned (.iface 44 (.int .i64 12)) ∧ Ex (fun _ => False) w w' := by
  obtain ⟨v01, v02⟩ := v0
  obtain ⟨v11, v12⟩ := v1
  obtain ⟨v21, v22⟩ := v2
  have a1 := and15 vi v01 v02
  have a2 := and4 (bits / 8192) (by omega) (by omega)
  have e1 : (vi / 16 != 4) = true := by rw [bne_iff_ne]; exact hn
  clear hn
  clear a2
  have hx0 : Ex (fun _ => False) w (w.alloc (.cells #[.int .u8 vi, .int .u8 tos, .int .u16 size, .int .u16 ident, .int .u16 bits, .int .u8 ttl, .int .u8 pr, .int .u16 sum, .int .u32 src, .int .u32 dst] 97)) := (Ex.refl _ w).alloc _
  have HX0 := Lib.hid hx0

  clear hx0
  go_enter Tryd.func54, Tryd.ntmps54
  go_wp2_with fail
  go_ret
  exact ⟨rfl, HX0.out⟩
set_option maxRecDepth 100000 in
set_option maxHeartbeats 1000000 in
theorem check_1 (vi tos size ident bits ttl pr sum src dst : Int) (v0 : 0 ≤ vi ∧ vi ≤ 255) (v1 : 0 ≤ size ∧ size ≤ 65535) (v2 : 0 ≤ bits ∧ bits ≤ 65535) (A : Option Addr) (n c : Nat) (all : Nat) (w : World)  (h1 : vi / 16 = 4) (hn : vi % 16 < 5) :
    Calls Tryd.prog 54 #[.agg #[.int .u8 vi, .int .u8 tos, .int .u16 size, .int .u16 ident, .int .u16 bits, .int .u8 ttl, .int .u8 pr, .int .u16 sum, .int .u32 src, .int .u32 dst], .slice A n c, .int .i64 (all : Int)] w fun e w' => e = .returned (.iface 44 (.int .i64 3)) ∧ Ex (fun _ => False) w w' := by
  obtain ⟨v01, v02⟩ := v0
  obtain ⟨v11, v12⟩ := v1
  obtain ⟨v21, v22⟩ := v2
  have a1 := and15 vi v01 v02
  have a2 := and4 (bits / 8192) (by omega) (by omega)
  have e1 : (vi / 16 != 4) = false := by rw [Bool.eq_false_iff, Ne, bne_iff_ne]; omega
  clear h1
  clear a2
  have hx0 : Ex (fun _ => False) w (w.alloc (.cells #[.int .u8 vi, .int .u8 tos, .int .u16 size, .int .u16 ident, .int .u16 bits, .int .u8 ttl, .int .u8 pr, .int .u16 sum, .int .u32 src, .int .u32 dst] 97)) := (Ex.refl _ w).alloc _
  have HX0 := Lib.hid hx0

  clear hx0
  go_enter Tryd.func54, Tryd.ntmps54
  go_wp2_with fail
  go_ret
  exact ⟨rfl, HX0.out⟩
set_option maxRecDepth 100000 in
set_option maxHeartbeats 1000000 in
theorem check_2 (vi tos size ident bits ttl pr sum src dst : Int) (v0 : 0 ≤ vi ∧ vi ≤ 255) (v1 : 0 ≤ size ∧ size ≤ 65535) (v2 : 0 ≤ bits ∧ bits ≤ 65535) (A : Option Addr) (n c : Nat) (all : Nat) (w : World)  (h1 : vi / 16 = 4) (h2 : 5 ≤ vi % 16) (hn : 5 < vi % 16) :
    Calls Tryd.prog 54 #[.agg #[.int .u8 vi, .int .u8 tos, .int .u16 size, .int .u16 ident, .int .u16 bits, .int .u8 ttl, .int .u8 pr, .int .u16 sum, .int .u32 src, .int .u32 dst], .slice A n c, .int .i64 (all : Int)] w fun e w' => e = .returned (.iface 44 (.int .i64 11)) ∧ Ex (fun _ => False) w w' := by
  obtain ⟨v01, v02⟩ := v0
  obtain ⟨v11, v12⟩ := v1
  obtain ⟨v21, v22⟩ := v2
  have a1 := and15 vi v01 v02
  have a2 := and4 (bits / 8192) (by omega) (by omega)
  have e1 : (vi / 16 != 4) = false := by rw [Bool.eq_false_iff, Ne, bne_iff_ne]; omega
  clear h1
  clear a2
  have hx0 : Ex (fun _ => False) w (w.alloc (.cells #[.int .u8 vi, .int .u8 tos, .int .u16 size, .int .u16 ident, .int .u16 bits, .int .u8 ttl, .int .u8 pr, .int .u16 sum, .int .u32 src, .int .u32 dst] 97)) := (Ex.refl _ w).alloc _
  have HX0 := Lib.hid hx0

  clear hx0
  go_enter Tryd.func54, Tryd.ntmps54
  go_wp2_with fail
  go_ret
  exact ⟨rfl, HX0.out⟩
set_option maxRecDepth 100000 in
set_option maxHeartbeats 1000000 in
theorem check_3 (vi tos size ident bits ttl pr sum src dst : Int) (v0 : 0 ≤ vi ∧ vi ≤ 255) (v1 : 0 ≤ size ∧ size ≤ 65535) (v2 : 0 ≤ bits ∧ bits ≤ 65535) (A : Option Addr) (n c : Nat) (all : Nat) (w : World)  (h1 : vi / 16 = 4) (h2 : 5 ≤ vi % 16) (h3 : vi % 16 ≤ 5) (hn : size < 20) :
    Calls Tryd.prog 54 #[.agg #[.int .u8 vi, .int .u8 tos, .int .u16 size, .int .u16 ident, .int .u16 bits, .int .u8 ttl, .int .u8 pr, .int .u16 sum, .int .u32 src, .int .u32 dst], .slice A n c, .int .i64 (all : Int)] w fun e w' => e = .returned (.iface 44 (.int .i64 3)) ∧ Ex (fun _ => False) w w' := by
  obtain ⟨v01, v02⟩ := v0
  obtain ⟨v11, v12⟩ := v1
  obtain ⟨v21, v22⟩ := v2
  have a1 := and15 vi v01 v02
  have a2 := and4 (bits / 8192) (by omega) (by omega)
  have e1 : (vi / 16 != 4) = false := by rw [Bool.eq_false_iff, Ne, bne_iff_ne]; omega
  clear h1
  clear a2
  have hx0 : Ex (fun _ => False) w (w.alloc (.cells #[.int .u8 vi, .int .u8 tos, .int .u16 size, .int .u16 ident, .int .u16 bits, .int .u8 ttl, .int .u8 pr, .int .u16 sum, .int .u32 src, .int .u32 dst] 97)) := (Ex.refl _ w).alloc _
  have HX0 := Lib.hid hx0

  clear hx0
  go_enter Tryd.func54, Tryd.ntmps54
  go_wp2_with fail
  go_ret
  exact ⟨rfl, HX0.out⟩
set_option maxRecDepth 100000 in
set_option maxHeartbeats 1000000 in
theorem check_4 (vi tos size ident bits ttl pr sum src dst : Int) (v0 : 0 ≤ vi ∧ vi ≤ 255) (v1 : 0 ≤ size ∧ size ≤ 65535) (v2 : 0 ≤ bits ∧ bits ≤ 65535) (A : Option Addr) (n c : Nat) (all : Nat) (w : World)  (h1 : vi / 16 = 4) (h2 : 5 ≤ vi % 16) (h3 : vi % 16 ≤ 5) (h4 : 20 ≤ size) (hn : (all : Int) < size) :
    Calls Tryd.prog 54 #[.agg #[.int .u8 vi, .int .u8 tos, .int .u16 size, .int .u16 ident, .int .u16 bits, .int .u8 ttl, .int .u8 pr, .int .u16 sum, .int .u32 src, .int .u32 dst], .slice A n c, .int .i64 (all : Int)] w fun e w' => e = .returned (.iface 44 (.int .i64 2)) ∧ Ex (fun _ => False) w w' := by
  obtain ⟨v01, v02⟩ := v0
  obtain ⟨v11, v12⟩ := v1
  obtain ⟨v21, v22⟩ := v2
  have a1 := and15 vi v01 v02
  have a2 := and4 (bits / 8192) (by omega) (by omega)
  have e1 : (vi / 16 != 4) = false := by rw [Bool.eq_false_iff, Ne, bne_iff_ne]; omega
  clear h1
  clear a2
  have hx0 : Ex (fun _ => False) w (w.alloc (.cells #[.int .u8 vi, .int .u8 tos, .int .u16 size, .int .u16 ident, .int .u16 bits, .int .u8 ttl, .int .u8 pr, .int .u16 sum, .int .u32 src, .int .u32 dst] 97)) := (Ex.refl _ w).alloc _
  have HX0 := Lib.hid hx0

  clear hx0
  go_enter Tryd.func54, Tryd.ntmps54
  go_wp2_with fail
  go_ret
  exact ⟨rfl, HX0.out⟩
set_option maxRecDepth 100000 in
set_option maxHeartbeats 1000000 in
theorem check_5 (vi tos size ident bits ttl pr sum src dst : Int) (v0 : 0 ≤ vi ∧ vi ≤ 255) (v1 : 0 ≤ size ∧ size ≤ 65535) (v2 : 0 ≤ bits ∧ bits ≤ 65535) (A : Option Addr) (n c : Nat) (all : Nat) (w : World) (P : Nat → Prop) (l : List UInt8) (hr : RB w P (.slice A n c) l) (hl : l.length ≤ 4294967296) (h1 : vi / 16 = 4) (h2 : 5 ≤ vi % 16) (h3 : vi % 16 ≤ 5) (h4 : 20 ≤ size) (h5 : size ≤ (all : Int)) (hn : su l ≠ 0) :
    Calls Tryd.prog 54 #[.agg #[.int .u8 vi, .int .u8 tos, .int .u16 size, .int .u16 ident, .int .u16 bits, .int .u8 ttl, .int .u8 pr, .int .u16 sum, .int .u32 src, .int .u32 dst], .slice A n c, .int .i64 (all : Int)] w fun e w' => e = .returned (.iface 44 (.int .i64 4)) ∧ Ex (fun _ => False) w w' := by
  obtain ⟨v01, v02⟩ := v0
  obtain ⟨v11, v12⟩ := v1
  obtain ⟨v21, v22⟩ := v2
  have a1 := and15 vi v01 v02
  have a2 := and4 (bits / 8192) (by omega) (by omega)
  have e1 : (vi / 16 != 4) = false := by rw [Bool.eq_false_iff, Ne, bne_iff_ne]; omega
  clear h1
  have e6 : decide (su l = 0) = false := by rw [decide_eq_false_iff_not]; exact hn
  clear hn
  clear a2
  have hx0 : Ex (fun _ => False) w (w.alloc (.cells #[.int .u8 vi, .int .u8 tos, .int .u16 size, .int .u16 ident, .int .u16 bits, .int .u8 ttl, .int .u8 pr, .int .u16 sum, .int .u32 src, .int .u32 dst] 97)) := (Ex.refl _ w).alloc _
  have HX0 := Lib.hid hx0
  have HR := Lib.hid (hr.keep hx0 (fun _ _ _ => id))
  clear hr
  clear hx0
  go_enter Tryd.func54, Tryd.ntmps54
  go_wp2_with fail
  refine (valid1_any P _ l _ _ _ (by simp) HR.out hl).mono ?_
  rintro e w2 ⟨rfl, rfl⟩
  rw [e6]
  go_wp2_with fail
  go_ret
  exact ⟨rfl, HX0.out.alloc _⟩
set_option maxRecDepth 100000 in
set_option maxHeartbeats 1000000 in
theorem check_6 (vi tos size ident bits ttl pr sum src dst : Int) (v0 : 0 ≤ vi ∧ vi ≤ 255) (v1 : 0 ≤ size ∧ size ≤ 65535) (v2 : 0 ≤ bits ∧ bits ≤ 65535) (A : Option Addr) (n c : Nat) (all : Nat) (w : World) (P : Nat → Prop) (l : List UInt8) (hr : RB w P (.slice A n c) l) (hl : l.length ≤ 4294967296) (h1 : vi / 16 = 4) (h2 : 5 ≤ vi % 16) (h3 : vi % 16 ≤ 5) (h4 : 20 ≤ size) (h5 : size ≤ (all : Int)) (h6 : su l = 0) (hn : 32768 ≤ bits) :
    Calls Tryd.prog 54 #[.agg #[.int .u8 vi, .int .u8 tos, .int .u16 size, .int .u16 ident, .int .u16 bits, .int .u8 ttl, .int .u8 pr, .int .u16 sum, .int .u32 src, .int .u32 dst], .slice A n c, .int .i64 (all : Int)] w fun e w' => e = .returned (.iface 44 (.int .i64 3)) ∧ Ex (fun _ => False) w w' := by
  obtain ⟨v01, v02⟩ := v0
  obtain ⟨v11, v12⟩ := v1
  obtain ⟨v21, v22⟩ := v2
  have a1 := and15 vi v01 v02
  have a2 := and4 (bits / 8192) (by omega) (by omega)
  have e1 : (vi / 16 != 4) = false := by rw [Bool.eq_false_iff, Ne, bne_iff_ne]; omega
  clear h1
  have e6 : decide (su l = 0) = true := by rw [decide_eq_true_eq]; exact h6
  clear h6
  rw [if_neg (by omega)] at a2
  have hx0 : Ex (fun _ => False) w (w.alloc (.cells #[.int .u8 vi, .int .u8 tos, .int .u16 size, .int .u16 ident, .int .u16 bits, .int .u8 ttl, .int .u8 pr, .int .u16 sum, .int .u32 src, .int .u32 dst] 97)) := (Ex.refl _ w).alloc _
  have HX0 := Lib.hid hx0
  have HR := Lib.hid (hr.keep hx0 (fun _ _ _ => id))
  clear hr
  clear hx0
  go_enter Tryd.func54, Tryd.ntmps54
  go_wp2_with fail
  refine (valid1_any P _ l _ _ _ (by simp) HR.out hl).mono ?_
  rintro e w2 ⟨rfl, rfl⟩
  rw [e6]
  go_wp2_with fail
  go_ret
  exact ⟨rfl, HX0.out.alloc _⟩
set_option maxRecDepth 100000 in
set_option maxHeartbeats 1000000 in
theorem check_7 (vi tos size ident bits ttl pr sum src dst : Int) (v0 : 0 ≤ vi ∧ vi ≤ 255) (v1 : 0 ≤ size ∧ size ≤ 65535) (v2 : 0 ≤ bits ∧ bits ≤ 65535) (A : Option Addr) (n c : Nat) (all : Nat) (w : World) (P : Nat → Prop) (l : List UInt8) (hr : RB w P (.slice A n c) l) (hl : l.length ≤ 4294967296) (h1 : vi / 16 = 4) (h2 : 5 ≤ vi % 16) (h3 : vi % 16 ≤ 5) (h4 : 20 ≤ size) (h5 : size ≤ (all : Int)) (h6 : su l = 0) (h7 : bits < 32768) :
    Calls Tryd.prog 54 #[.agg #[.int .u8 vi, .int .u8 tos, .int .u16 size, .int .u16 ident, .int .u16 bits, .int .u8 ttl, .int .u8 pr, .int .u16 sum, .int .u32 src, .int .u32 dst], .slice A n c, .int .i64 (all : Int)] w fun e w' => e = .returned .nilIface ∧ Ex (fun _ => False) w w' := by
  obtain ⟨v01, v02⟩ := v0
  obtain ⟨v11, v12⟩ := v1
  obtain ⟨v21, v22⟩ := v2
  have a1 := and15 vi v01 v02
  have a2 := and4 (bits / 8192) (by omega) (by omega)
  have e1 : (vi / 16 != 4) = false := by rw [Bool.eq_false_iff, Ne, bne_iff_ne]; omega
  clear h1
  have e6 : decide (su l = 0) = true := by rw [decide_eq_true_eq]; exact h6
  clear h6
  rw [if_pos (by omega)] at a2
  have hx0 : Ex (fun _ => False) w (w.alloc (.cells #[.int .u8 vi, .int .u8 tos, .int .u16 size, .int .u16 ident, .int .u16 bits, .int .u8 ttl, .int .u8 pr, .int .u16 sum, .int .u32 src, .int .u32 dst] 97)) := (Ex.refl _ w).alloc _
  have HX0 := Lib.hid hx0
  have HR := Lib.hid (hr.keep hx0 (fun _ _ _ => id))
  clear hr
  clear hx0
  go_enter Tryd.func54, Tryd.ntmps54
  go_wp2_with fail
  refine (valid1_any P _ l _ _ _ (by simp) HR.out hl).mono ?_
  rintro e w2 ⟨rfl, rfl⟩
  rw [e6]
  go_wp2_with fail
  go_ret
  exact ⟨rfl, HX0.out.alloc _⟩
theorem check_any (P : Nat → Prop) (h : Hd) (ok : h.ok) (A : Option Addr) (n c : Nat) (l : List UInt8) (all : Nat) (w : World) (hr : RB w P (.slice A n c) l) (hl : l.length ≤ 4294967296) :
    Calls Tryd.prog 54 #[hdv h, .slice A n c, .int .i64 (all : Int)] w fun e w' => Ex (fun _ => False) w w' ∧ ((h.chk (su l) all = 0 ∧ e = .returned .nilIface) ∨ (h.chk (su l) all ≠ 0 ∧ e = .returned (.iface 44 (.int .i64 (h.chk (su l) all : Int))))) := by
  obtain ⟨vi, tos, size, ident, bits, ttl, pr, sum, src, dst⟩ := h
  obtain ⟨v0, _, v1, _, v2, _⟩ := ok
  simp only at v0 v1 v2
  have e : (⟨vi, tos, size, ident, bits, ttl, pr, sum, src, dst⟩ : Hd).chk (su l) all = if vi / 16 ≠ 4 then 12 else if vi % 16 < 5 then 3 else if 5 < vi % 16 then 11 else if size < 20 then 3 else if (all : Int) < size then 2 else if su l ≠ 0 then 4 else if 32768 ≤ bits then 3 else 0 := rfl
  rw [e]
  by_cases hn : vi / 16 ≠ 4
  · rw [if_pos hn]
    exact (check_0 vi tos size ident bits ttl pr sum src dst v0 v1 v2 A n c all w hn).mono (fun e w' h => ⟨h.2, .inr ⟨by decide, h.1⟩⟩)
  have g1 : vi / 16 = 4 := by omega
  by_cases hn : vi % 16 < 5
  · rw [if_neg (show ¬ (vi / 16 ≠ 4) by omega), if_pos hn]
    exact (check_1 vi tos size ident bits ttl pr sum src dst v0 v1 v2 A n c all w g1 hn).mono (fun e w' h => ⟨h.2, .inr ⟨by decide, h.1⟩⟩)
  have g2 : 5 ≤ vi % 16 := by omega
  by_cases hn : 5 < vi % 16
  · rw [if_neg (show ¬ (vi / 16 ≠ 4) by omega), if_neg (show ¬ (vi % 16 < 5) by omega), if_pos hn]
    exact (check_2 vi tos size ident bits ttl pr sum src dst v0 v1 v2 A n c all w g1 g2 hn).mono (fun e w' h => ⟨h.2, .inr ⟨by decide, h.1⟩⟩)
  have g3 : vi % 16 ≤ 5 := by omega
  by_cases hn : size < 20
  · rw [if_neg (show ¬ (vi / 16 ≠ 4) by omega), if_neg (show ¬ (vi % 16 < 5) by omega), if_neg (show ¬ (5 < vi % 16) by omega), if_pos hn]
    exact (check_3 vi tos size ident bits ttl pr sum src dst v0 v1 v2 A n c all w g1 g2 g3 hn).mono (fun e w' h => ⟨h.2, .inr ⟨by decide, h.1⟩⟩)
  have g4 : 20 ≤ size := by omega
  by_cases hn : (all : Int) < size
  · rw [if_neg (show ¬ (vi / 16 ≠ 4) by omega), if_neg (show ¬ (vi % 16 < 5) by omega), if_neg (show ¬ (5 < vi % 16) by omega), if_neg (show ¬ (size < 20) by omega), if_pos hn]
    exact (check_4 vi tos size ident bits ttl pr sum src dst v0 v1 v2 A n c all w g1 g2 g3 g4 hn).mono (fun e w' h => ⟨h.2, .inr ⟨by decide, h.1⟩⟩)
  have g5 : size ≤ (all : Int) := by omega
  by_cases hn : su l ≠ 0
  · rw [if_neg (show ¬ (vi / 16 ≠ 4) by omega), if_neg (show ¬ (vi % 16 < 5) by omega), if_neg (show ¬ (5 < vi % 16) by omega), if_neg (show ¬ (size < 20) by omega), if_neg (show ¬ ((all : Int) < size) by omega), if_pos hn]
    exact (check_5 vi tos size ident bits ttl pr sum src dst v0 v1 v2 A n c all w P l hr hl g1 g2 g3 g4 g5 hn).mono (fun e w' h => ⟨h.2, .inr ⟨by decide, h.1⟩⟩)
  have g6 : su l = 0 := by omega
  by_cases hn : 32768 ≤ bits
  · rw [if_neg (show ¬ (vi / 16 ≠ 4) by omega), if_neg (show ¬ (vi % 16 < 5) by omega), if_neg (show ¬ (5 < vi % 16) by omega), if_neg (show ¬ (size < 20) by omega), if_neg (show ¬ ((all : Int) < size) by omega), if_neg (show ¬ (su l ≠ 0) by omega), if_pos hn]
    exact (check_6 vi tos size ident bits ttl pr sum src dst v0 v1 v2 A n c all w P l hr hl g1 g2 g3 g4 g5 g6 hn).mono (fun e w' h => ⟨h.2, .inr ⟨by decide, h.1⟩⟩)
  have g7 : bits < 32768 := by omega
  rw [if_neg (show ¬ (vi / 16 ≠ 4) by omega), if_neg (show ¬ (vi % 16 < 5) by omega), if_neg (show ¬ (5 < vi % 16) by omega), if_neg (show ¬ (size < 20) by omega), if_neg (show ¬ ((all : Int) < size) by omega), if_neg (show ¬ (su l ≠ 0) by omega), if_neg (show ¬ (32768 ≤ bits) by omega)]
  exact (check_7 vi tos size ident bits ttl pr sum src dst v0 v1 v2 A n c all w P l hr hl g1 g2 g3 g4 g5 g6 g7).mono (fun e w' h => ⟨h.2, .inl ⟨rfl, h.1⟩⟩)
set_option maxRecDepth 100000 in
set_option maxHeartbeats 4000000 in
theorem hbytes_any (vi tos size ident bits ttl pr sum src dst : Int) (b0 : 0 ≤ vi ∧ vi ≤ 255) (b1 : 0 ≤ tos ∧ tos ≤ 255) (b2 : 0 ≤ size ∧ size ≤ 65535) (b3 : 0 ≤ ident ∧ ident ≤ 65535) (b4 : 0 ≤ bits ∧ bits ≤ 65535) (b5 : 0 ≤ ttl ∧ ttl ≤ 255) (b6 : 0 ≤ pr ∧ pr ≤ 255) (b7 : 0 ≤ sum ∧ sum ≤ 65535) (b8 : 0 ≤ src ∧ src ≤ 4294967295) (b9 : 0 ≤ dst ∧ dst ≤ 4294967295) (w : World) :
    Calls Tryd.prog 56 #[.agg #[.int .u8 vi, .int .u8 tos, .int .u16 size, .int .u16 ident, .int .u16 bits, .int .u8 ttl, .int .u8 pr, .int .u16 sum, .int .u32 src, .int .u32 dst]] w fun e w' => ∃ A c, e = .returned (.slice (some A) 20 c) ∧ OB w' w.heap.size (.slice (some A) 20 c) (⟨vi, tos, size, ident, bits, ttl, pr, sum, src, dst⟩ : Hd).bytes ∧ Ex (fun _ => False) w w' := by
  obtain ⟨b00, b01⟩ := b0
  obtain ⟨b10, b11⟩ := b1
  obtain ⟨b20, b21⟩ := b2
  obtain ⟨b30, b31⟩ := b3
  obtain ⟨b40, b41⟩ := b4
  obtain ⟨b50, b51⟩ := b5
  obtain ⟨b60, b61⟩ := b6
  obtain ⟨b70, b71⟩ := b7
  obtain ⟨b80, b81⟩ := b8
  obtain ⟨b90, b91⟩ := b9
  go_enter Tryd.func56, Tryd.ntmps56
  go_upto_region 1 with fail
  have ha : Ex (fun _ => False) w (w.alloc (.cells #[.int .u8 vi, .int .u8 tos, .int .u16 size, .int .u16 ident, .int .u16 bits, .int .u8 ttl, .int .u8 pr, .int .u16 sum, .int .u32 src, .int .u32 dst] 97)) := (Ex.refl _ w).alloc _
  have hbl : (w.alloc (.cells #[.int .u8 vi, .int .u8 tos, .int .u16 size, .int .u16 ident, .int .u16 bits, .int .u8 ttl, .int .u8 pr, .int .u16 sum, .int .u32 src, .int .u32 dst] 97)).heap[w.heap.size]? = some (.cells #[.int .u8 vi, .int .u8 tos, .int .u16 size, .int .u16 ident, .int .u16 bits, .int .u8 ttl, .int .u8 pr, .int .u16 sum, .int .u32 src, .int .u32 dst] 97) := heap_alloc_new w _
  obtain ⟨hb, hhb⟩ : ∃ hb, hb = w.heap.size := ⟨_, rfl⟩
  rw [← hhb] at hbl
  try simp only [← hhb]
  generalize w.alloc (.cells #[.int .u8 vi, .int .u8 tos, .int .u16 size, .int .u16 ident, .int .u16 bits, .int .u8 ttl, .int .u8 pr, .int .u16 sum, .int .u32 src, .int .u32 dst] 97) = w1 at ha hbl ⊢
  clear hhb
  have c0 := row_cell (k := 0) (v := .int .u8 vi) hbl rfl
  have c1 := row_cell (k := 1) (v := .int .u8 tos) hbl rfl
  have c2 := row_cell (k := 2) (v := .int .u16 size) hbl rfl
  have c3 := row_cell (k := 3) (v := .int .u16 ident) hbl rfl
  have c4 := row_cell (k := 4) (v := .int .u16 bits) hbl rfl
  have c5 := row_cell (k := 5) (v := .int .u8 ttl) hbl rfl
  have c6 := row_cell (k := 6) (v := .int .u8 pr) hbl rfl
  have c7 := row_cell (k := 7) (v := .int .u16 sum) hbl rfl
  have c8 := row_cell (k := 8) (v := .int .u32 src) hbl rfl
  have c9 := row_cell (k := 9) (v := .int .u32 dst) hbl rfl
  have HA1 := Lib.hid ha
  have hsz := ha.size
  clear ha hbl
  go_upto_region 2 with fail
  have hw2 := WR.zero w1 121 w1.heap.size rfl
  have hx2 : Ex (fun _ => False) w1 (w1.alloc (.cells #[.slice none 0 0] 121)) := (Ex.refl _ w1).alloc _
  generalize w1.alloc (.cells #[.slice none 0 0] 121) = w2 at hw2 hx2 ⊢
  obtain ⟨p, hp⟩ : ∃ p, p = w1.heap.size := ⟨_, rfl⟩
  rw [← hp] at hw2
  try simp only [← hp]
  have hp1 : w1.heap.size ≤ p := by omega
  clear hp
  obtain ⟨q0, hq0⟩ : ∃ q0 : Option Nat, q0 = none := ⟨_, rfl⟩
  rw [← hq0] at hw2
  have hS0 : Ex (fun _ => False) w1 w2.drew := hx2.drew
  have HW0 := Lib.hid (hw2.keep (S := fun _ => False) (Ex.refl _ w2).drew id (fun _ _ _ => id))
  have HQ0 : Hid (∀ k, q0 = some k → w1.heap.size ≤ k) := Lib.hid (fun k h => by rw [hq0] at h; cases h)
  clear hw2 hq0 hx2
  refine wp_region_held_drew (S := fun W => Ex (fun _ => False) w1 W) (by kernel_rfl) hS0 (fun _ => ?_)
  refine wpAnyH_take (i := 0) (oi := { dst := some 6, op := Go.Op.move (Go.Operand.tmp 3), type := 120, pos := "ipv4.go:80", after := #[], guard := none }) (v := ?v1) rfl (by kernel_rfl) (by kernel_rfl) (by kernel_rfl) (fun _ _ _ h => h) (Or.inl ⟨by rfl, ?hy1⟩) (by assumption) ?rest1
  case hy1 => (intro w hSw; (try dsimp only at hSw); have c0 := hSw.cell c0 id; have c1 := hSw.cell c1 id; have c2 := hSw.cell c2 id; have c3 := hSw.cell c3 id; have c4 := hSw.cell c4 id; go_simp <;> with_reducible rfl)
  try simp only [Act.put, List.setIfInBounds_toArray, List.set_cons_zero, List.set_cons_succ]
  refine wpAnyH_take (i := 1) (oi := { dst := some 7, op := Go.Op.fieldAddr 97 (Go.Operand.tmp 1) 0, type := 0, pos := "ipv4.go:80", after := #[], guard := none }) (v := ?v2) rfl (by kernel_rfl) (by kernel_rfl) (by kernel_rfl) (fun _ _ _ h => h) (Or.inl ⟨by rfl, ?hy2⟩) (by assumption) ?rest2
  case hy2 => (intro w hSw; (try dsimp only at hSw); have c0 := hSw.cell c0 id; have c1 := hSw.cell c1 id; have c2 := hSw.cell c2 id; have c3 := hSw.cell c3 id; have c4 := hSw.cell c4 id; go_simp <;> with_reducible rfl)
  try simp only [Act.put, List.setIfInBounds_toArray, List.set_cons_zero, List.set_cons_succ]
  refine wpAnyH_take (i := 2) (oi := { dst := some 8, op := Go.Op.load 5 (Go.Operand.tmp 7), type := 5, pos := "ipv4.go:80", after := #[{ on := 1, ground := Go.Ground.data }], guard := none }) (v := ?v3) rfl (by kernel_rfl) (by kernel_rfl) (by kernel_rfl) (fun _ _ _ h => h) (Or.inl ⟨by rfl, ?hy3⟩) (by assumption) ?rest3
  case hy3 => (intro w hSw; (try dsimp only at hSw); have c0 := hSw.cell c0 id; have c1 := hSw.cell c1 id; have c2 := hSw.cell c2 id; have c3 := hSw.cell c3 id; have c4 := hSw.cell c4 id; go_simp <;> with_reducible rfl)
  try simp only [Act.put, List.setIfInBounds_toArray, List.set_cons_zero, List.set_cons_succ]
  refine wpAnyH_take (i := 4) (oi := { dst := some 10, op := Go.Op.fieldAddr 97 (Go.Operand.tmp 1) 1, type := 0, pos := "ipv4.go:80", after := #[], guard := none }) (v := ?v4) rfl (by kernel_rfl) (by kernel_rfl) (by kernel_rfl) (fun _ _ _ h => h) (Or.inl ⟨by rfl, ?hy4⟩) (by assumption) ?rest4
  case hy4 => (intro w hSw; (try dsimp only at hSw); have c0 := hSw.cell c0 id; have c1 := hSw.cell c1 id; have c2 := hSw.cell c2 id; have c3 := hSw.cell c3 id; have c4 := hSw.cell c4 id; go_simp <;> with_reducible rfl)
  try simp only [Act.put, List.setIfInBounds_toArray, List.set_cons_zero, List.set_cons_succ]
  refine wpAnyH_take (i := 5) (oi := { dst := some 11, op := Go.Op.load 5 (Go.Operand.tmp 10), type := 5, pos := "ipv4.go:80", after := #[{ on := 4, ground := Go.Ground.data }], guard := none }) (v := ?v5) rfl (by kernel_rfl) (by kernel_rfl) (by kernel_rfl) (fun _ _ _ h => h) (Or.inl ⟨by rfl, ?hy5⟩) (by assumption) ?rest5
  case hy5 => (intro w hSw; (try dsimp only at hSw); have c0 := hSw.cell c0 id; have c1 := hSw.cell c1 id; have c2 := hSw.cell c2 id; have c3 := hSw.cell c3 id; have c4 := hSw.cell c4 id; go_simp <;> with_reducible rfl)
  try simp only [Act.put, List.setIfInBounds_toArray, List.set_cons_zero, List.set_cons_succ]
  refine wpAnyH_take (i := 7) (oi := { dst := some 13, op := Go.Op.fieldAddr 97 (Go.Operand.tmp 1) 2, type := 0, pos := "ipv4.go:80", after := #[], guard := none }) (v := ?v6) rfl (by kernel_rfl) (by kernel_rfl) (by kernel_rfl) (fun _ _ _ h => h) (Or.inl ⟨by rfl, ?hy6⟩) (by assumption) ?rest6
  case hy6 => (intro w hSw; (try dsimp only at hSw); have c0 := hSw.cell c0 id; have c1 := hSw.cell c1 id; have c2 := hSw.cell c2 id; have c3 := hSw.cell c3 id; have c4 := hSw.cell c4 id; go_simp <;> with_reducible rfl)
  try simp only [Act.put, List.setIfInBounds_toArray, List.set_cons_zero, List.set_cons_succ]
  refine wpAnyH_take (i := 8) (oi := { dst := some 14, op := Go.Op.load 23 (Go.Operand.tmp 13), type := 23, pos := "ipv4.go:80", after := #[{ on := 7, ground := Go.Ground.data }], guard := none }) (v := ?v7) rfl (by kernel_rfl) (by kernel_rfl) (by kernel_rfl) (fun _ _ _ h => h) (Or.inl ⟨by rfl, ?hy7⟩) (by assumption) ?rest7
  case hy7 => (intro w hSw; (try dsimp only at hSw); have c0 := hSw.cell c0 id; have c1 := hSw.cell c1 id; have c2 := hSw.cell c2 id; have c3 := hSw.cell c3 id; have c4 := hSw.cell c4 id; go_simp <;> with_reducible rfl)
  try simp only [Act.put, List.setIfInBounds_toArray, List.set_cons_zero, List.set_cons_succ]
  refine wpAnyH_take (i := 10) (oi := { dst := some 16, op := Go.Op.fieldAddr 97 (Go.Operand.tmp 1) 3, type := 0, pos := "ipv4.go:80", after := #[], guard := none }) (v := ?v8) rfl (by kernel_rfl) (by kernel_rfl) (by kernel_rfl) (fun _ _ _ h => h) (Or.inl ⟨by rfl, ?hy8⟩) (by assumption) ?rest8
  case hy8 => (intro w hSw; (try dsimp only at hSw); have c0 := hSw.cell c0 id; have c1 := hSw.cell c1 id; have c2 := hSw.cell c2 id; have c3 := hSw.cell c3 id; have c4 := hSw.cell c4 id; go_simp <;> with_reducible rfl)
  try simp only [Act.put, List.setIfInBounds_toArray, List.set_cons_zero, List.set_cons_succ]
  refine wpAnyH_take (i := 11) (oi := { dst := some 17, op := Go.Op.load 23 (Go.Operand.tmp 16), type := 23, pos := "ipv4.go:80", after := #[{ on := 10, ground := Go.Ground.data }], guard := none }) (v := ?v9) rfl (by kernel_rfl) (by kernel_rfl) (by kernel_rfl) (fun _ _ _ h => h) (Or.inl ⟨by rfl, ?hy9⟩) (by assumption) ?rest9
  case hy9 => (intro w hSw; (try dsimp only at hSw); have c0 := hSw.cell c0 id; have c1 := hSw.cell c1 id; have c2 := hSw.cell c2 id; have c3 := hSw.cell c3 id; have c4 := hSw.cell c4 id; go_simp <;> with_reducible rfl)
  try simp only [Act.put, List.setIfInBounds_toArray, List.set_cons_zero, List.set_cons_succ]
  refine wpAnyH_take (i := 13) (oi := { dst := some 19, op := Go.Op.fieldAddr 97 (Go.Operand.tmp 1) 4, type := 0, pos := "ipv4.go:80", after := #[], guard := none }) (v := ?v10) rfl (by kernel_rfl) (by kernel_rfl) (by kernel_rfl) (fun _ _ _ h => h) (Or.inl ⟨by rfl, ?hy10⟩) (by assumption) ?rest10
  case hy10 => (intro w hSw; (try dsimp only at hSw); have c0 := hSw.cell c0 id; have c1 := hSw.cell c1 id; have c2 := hSw.cell c2 id; have c3 := hSw.cell c3 id; have c4 := hSw.cell c4 id; go_simp <;> with_reducible rfl)
  try simp only [Act.put, List.setIfInBounds_toArray, List.set_cons_zero, List.set_cons_succ]
  refine wpAnyH_take (i := 14) (oi := { dst := some 20, op := Go.Op.load 23 (Go.Operand.tmp 19), type := 23, pos := "ipv4.go:80", after := #[{ on := 13, ground := Go.Ground.data }], guard := none }) (v := ?v11) rfl (by kernel_rfl) (by kernel_rfl) (by kernel_rfl) (fun _ _ _ h => h) (Or.inl ⟨by rfl, ?hy11⟩) (by assumption) ?rest11
  case hy11 => (intro w hSw; (try dsimp only at hSw); have c0 := hSw.cell c0 id; have c1 := hSw.cell c1 id; have c2 := hSw.cell c2 id; have c3 := hSw.cell c3 id; have c4 := hSw.cell c4 id; go_simp <;> with_reducible rfl)
  try simp only [Act.put, List.setIfInBounds_toArray, List.set_cons_zero, List.set_cons_succ]
  refine wpAnyH_ready (rs := [3]) (by kernel_rfl) (by simp) ?_
  refine AllReadyH.cons (o := { dst := some 9, op := Go.Op.call { callee := Go.Callee.value (Go.Operand.func 76), args := #[Go.Operand.tmp 6, Go.Operand.tmp 8], argTypes := #[120, 5] }, type := 120, pos := "ipv4.go:80", after := #[{ on := 0, ground := Go.Ground.data }, { on := 2, ground := Go.Ground.data }], guard := none }) rfl (fun K hK => ?_) AllReadyH.nil
  go_simp
  refine (wu8_any p q0 ([]) vi _ (by omega) (by omega) HW0.out (by simp)).mono ?_
  rintro e w3 ⟨rfl, hw⟩
  obtain ⟨q1, h1, h2, h3⟩ := writer_step HQ0.out hS0.size hw
  have hS1 := hS0.andThen h3 (fun i hi e => by rcases e with e | e <;> omega)
  have HW1 := Lib.hid h1
  have HQ1 := Lib.hid h2
  clear h1 h2 h3 hw
  refine hK.out _ _ hS1 (fun _ => ?_)
  refine wpAnyH_ready (rs := [6]) (by kernel_rfl) (by simp) ?_
  refine AllReadyH.cons (o := { dst := some 12, op := Go.Op.call { callee := Go.Callee.value (Go.Operand.func 76), args := #[Go.Operand.tmp 9, Go.Operand.tmp 11], argTypes := #[120, 5] }, type := 120, pos := "ipv4.go:80", after := #[{ on := 3, ground := Go.Ground.data }, { on := 5, ground := Go.Ground.data }, { on := 3, ground := Go.Ground.chain }], guard := none }) rfl (fun K hK => ?_) AllReadyH.nil
  go_simp
  refine (wu8_any p q1 ([] ++ txt vi 1) tos _ (by omega) (by omega) HW1.out (by simp [txt_len])).mono ?_
  rintro e w4 ⟨rfl, hw⟩
  obtain ⟨q2, h1, h2, h3⟩ := writer_step HQ1.out hS1.size hw
  have hS2 := hS1.andThen h3 (fun i hi e => by rcases e with e | e <;> omega)
  have HW2 := Lib.hid h1
  have HQ2 := Lib.hid h2
  clear h1 h2 h3 hw
  refine hK.out _ _ hS2 (fun _ => ?_)
  refine wpAnyH_ready (rs := [9]) (by kernel_rfl) (by simp) ?_
  refine AllReadyH.cons (o := { dst := some 15, op := Go.Op.call { callee := Go.Callee.value (Go.Operand.func 66), args := #[Go.Operand.tmp 12, Go.Operand.tmp 14], argTypes := #[120, 23] }, type := 120, pos := "ipv4.go:80", after := #[{ on := 6, ground := Go.Ground.data }, { on := 8, ground := Go.Ground.data }, { on := 6, ground := Go.Ground.chain }], guard := none }) rfl (fun K hK => ?_) AllReadyH.nil
  go_simp
  refine (wu16_any p q2 ([] ++ txt vi 1 ++ txt tos 1) size _ (by omega) (by omega) HW2.out (by simp [txt_len])).mono ?_
  rintro e w5 ⟨rfl, hw⟩
  obtain ⟨q3, h1, h2, h3⟩ := writer_step HQ2.out hS2.size hw
  have hS3 := hS2.andThen h3 (fun i hi e => by rcases e with e | e <;> omega)
  have HW3 := Lib.hid h1
  have HQ3 := Lib.hid h2
  clear h1 h2 h3 hw
  refine hK.out _ _ hS3 (fun _ => ?_)
  refine wpAnyH_ready (rs := [12]) (by kernel_rfl) (by simp) ?_
  refine AllReadyH.cons (o := { dst := some 18, op := Go.Op.call { callee := Go.Callee.value (Go.Operand.func 66), args := #[Go.Operand.tmp 15, Go.Operand.tmp 17], argTypes := #[120, 23] }, type := 120, pos := "ipv4.go:80", after := #[{ on := 9, ground := Go.Ground.data }, { on := 11, ground := Go.Ground.data }, { on := 9, ground := Go.Ground.chain }], guard := none }) rfl (fun K hK => ?_) AllReadyH.nil
  go_simp
  refine (wu16_any p q3 ([] ++ txt vi 1 ++ txt tos 1 ++ txt size 2) ident _ (by omega) (by omega) HW3.out (by simp [txt_len])).mono ?_
  rintro e w6 ⟨rfl, hw⟩
  obtain ⟨q4, h1, h2, h3⟩ := writer_step HQ3.out hS3.size hw
  have hS4 := hS3.andThen h3 (fun i hi e => by rcases e with e | e <;> omega)
  have HW4 := Lib.hid h1
  have HQ4 := Lib.hid h2
  clear h1 h2 h3 hw
  refine hK.out _ _ hS4 (fun _ => ?_)
  refine wpAnyH_ready (rs := [15]) (by kernel_rfl) (by simp) ?_
  refine AllReadyH.cons (o := { dst := some 21, op := Go.Op.call { callee := Go.Callee.value (Go.Operand.func 66), args := #[Go.Operand.tmp 18, Go.Operand.tmp 20], argTypes := #[120, 23] }, type := 120, pos := "ipv4.go:80", after := #[{ on := 12, ground := Go.Ground.data }, { on := 14, ground := Go.Ground.data }, { on := 12, ground := Go.Ground.chain }], guard := none }) rfl (fun K hK => ?_) AllReadyH.nil
  go_simp
  refine (wu16_any p q4 ([] ++ txt vi 1 ++ txt tos 1 ++ txt size 2 ++ txt ident 2) bits _ (by omega) (by omega) HW4.out (by simp [txt_len])).mono ?_
  rintro e w7 ⟨rfl, hw⟩
  obtain ⟨q5, h1, h2, h3⟩ := writer_step HQ4.out hS4.size hw
  have hS5 := hS4.andThen h3 (fun i hi e => by rcases e with e | e <;> omega)
  have HW5 := Lib.hid h1
  have HQ5 := Lib.hid h2
  clear h1 h2 h3 hw
  refine hK.out _ _ hS5 (fun _ => ?_)
  refine wpAnyH_done (by kernel_rfl) ?_ _
  clear HW0 HQ0 HW1 HQ1 HW2 HQ2 HW3 HQ3 HW4 HQ4
  go_upto_region 3 with fail
  have HW5d := Lib.hid (HW5.out.keep (S := fun _ => False) (Ex.refl _ w7).drew id (fun _ _ _ => id))
  have hS5d := hS5.drew
  clear HW5 hS0 hS1 hS2 hS3 hS4 hS5
  have HW5 := HW5d
  have hS5 := hS5d
  clear HW5d hS5d
  refine wp_region_held_drew (S := fun W => Ex (fun _ => False) w1 W) (by kernel_rfl) hS5 (fun _ => ?_)
  refine wpAnyH_take (i := 0) (oi := { dst := some 22, op := Go.Op.move (Go.Operand.tmp 3), type := 120, pos := "ipv4.go:81", after := #[], guard := none }) (v := ?v12) rfl (by kernel_rfl) (by kernel_rfl) (by kernel_rfl) (fun _ _ _ h => h) (Or.inl ⟨by rfl, ?hy12⟩) (by assumption) ?rest12
  case hy12 => (intro w hSw; (try dsimp only at hSw); have c5 := hSw.cell c5 id; have c6 := hSw.cell c6 id; have c7 := hSw.cell c7 id; have c8 := hSw.cell c8 id; have c9 := hSw.cell c9 id; go_simp <;> with_reducible rfl)
  try simp only [Act.put, List.setIfInBounds_toArray, List.set_cons_zero, List.set_cons_succ]
  refine wpAnyH_take (i := 1) (oi := { dst := some 23, op := Go.Op.fieldAddr 97 (Go.Operand.tmp 1) 5, type := 0, pos := "ipv4.go:81", after := #[], guard := none }) (v := ?v13) rfl (by kernel_rfl) (by kernel_rfl) (by kernel_rfl) (fun _ _ _ h => h) (Or.inl ⟨by rfl, ?hy13⟩) (by assumption) ?rest13
  case hy13 => (intro w hSw; (try dsimp only at hSw); have c5 := hSw.cell c5 id; have c6 := hSw.cell c6 id; have c7 := hSw.cell c7 id; have c8 := hSw.cell c8 id; have c9 := hSw.cell c9 id; go_simp <;> with_reducible rfl)
  try simp only [Act.put, List.setIfInBounds_toArray, List.set_cons_zero, List.set_cons_succ]
  refine wpAnyH_take (i := 2) (oi := { dst := some 24, op := Go.Op.load 5 (Go.Operand.tmp 23), type := 5, pos := "ipv4.go:81", after := #[{ on := 1, ground := Go.Ground.data }], guard := none }) (v := ?v14) rfl (by kernel_rfl) (by kernel_rfl) (by kernel_rfl) (fun _ _ _ h => h) (Or.inl ⟨by rfl, ?hy14⟩) (by assumption) ?rest14
  case hy14 => (intro w hSw; (try dsimp only at hSw); have c5 := hSw.cell c5 id; have c6 := hSw.cell c6 id; have c7 := hSw.cell c7 id; have c8 := hSw.cell c8 id; have c9 := hSw.cell c9 id; go_simp <;> with_reducible rfl)
  try simp only [Act.put, List.setIfInBounds_toArray, List.set_cons_zero, List.set_cons_succ]
  refine wpAnyH_take (i := 4) (oi := { dst := some 26, op := Go.Op.fieldAddr 97 (Go.Operand.tmp 1) 6, type := 0, pos := "ipv4.go:81", after := #[], guard := none }) (v := ?v15) rfl (by kernel_rfl) (by kernel_rfl) (by kernel_rfl) (fun _ _ _ h => h) (Or.inl ⟨by rfl, ?hy15⟩) (by assumption) ?rest15
  case hy15 => (intro w hSw; (try dsimp only at hSw); have c5 := hSw.cell c5 id; have c6 := hSw.cell c6 id; have c7 := hSw.cell c7 id; have c8 := hSw.cell c8 id; have c9 := hSw.cell c9 id; go_simp <;> with_reducible rfl)
  try simp only [Act.put, List.setIfInBounds_toArray, List.set_cons_zero, List.set_cons_succ]
  refine wpAnyH_take (i := 5) (oi := { dst := some 27, op := Go.Op.load 5 (Go.Operand.tmp 26), type := 5, pos := "ipv4.go:81", after := #[{ on := 4, ground := Go.Ground.data }], guard := none }) (v := ?v16) rfl (by kernel_rfl) (by kernel_rfl) (by kernel_rfl) (fun _ _ _ h => h) (Or.inl ⟨by rfl, ?hy16⟩) (by assumption) ?rest16
  case hy16 => (intro w hSw; (try dsimp only at hSw); have c5 := hSw.cell c5 id; have c6 := hSw.cell c6 id; have c7 := hSw.cell c7 id; have c8 := hSw.cell c8 id; have c9 := hSw.cell c9 id; go_simp <;> with_reducible rfl)
  try simp only [Act.put, List.setIfInBounds_toArray, List.set_cons_zero, List.set_cons_succ]
  refine wpAnyH_take (i := 7) (oi := { dst := some 29, op := Go.Op.fieldAddr 97 (Go.Operand.tmp 1) 7, type := 0, pos := "ipv4.go:81", after := #[], guard := none }) (v := ?v17) rfl (by kernel_rfl) (by kernel_rfl) (by kernel_rfl) (fun _ _ _ h => h) (Or.inl ⟨by rfl, ?hy17⟩) (by assumption) ?rest17
  case hy17 => (intro w hSw; (try dsimp only at hSw); have c5 := hSw.cell c5 id; have c6 := hSw.cell c6 id; have c7 := hSw.cell c7 id; have c8 := hSw.cell c8 id; have c9 := hSw.cell c9 id; go_simp <;> with_reducible rfl)
  try simp only [Act.put, List.setIfInBounds_toArray, List.set_cons_zero, List.set_cons_succ]
  refine wpAnyH_take (i := 8) (oi := { dst := some 30, op := Go.Op.load 23 (Go.Operand.tmp 29), type := 23, pos := "ipv4.go:81", after := #[{ on := 7, ground := Go.Ground.data }], guard := none }) (v := ?v18) rfl (by kernel_rfl) (by kernel_rfl) (by kernel_rfl) (fun _ _ _ h => h) (Or.inl ⟨by rfl, ?hy18⟩) (by assumption) ?rest18
  case hy18 => (intro w hSw; (try dsimp only at hSw); have c5 := hSw.cell c5 id; have c6 := hSw.cell c6 id; have c7 := hSw.cell c7 id; have c8 := hSw.cell c8 id; have c9 := hSw.cell c9 id; go_simp <;> with_reducible rfl)
  try simp only [Act.put, List.setIfInBounds_toArray, List.set_cons_zero, List.set_cons_succ]
  refine wpAnyH_take (i := 10) (oi := { dst := some 32, op := Go.Op.fieldAddr 97 (Go.Operand.tmp 1) 8, type := 0, pos := "ipv4.go:81", after := #[], guard := none }) (v := ?v19) rfl (by kernel_rfl) (by kernel_rfl) (by kernel_rfl) (fun _ _ _ h => h) (Or.inl ⟨by rfl, ?hy19⟩) (by assumption) ?rest19
  case hy19 => (intro w hSw; (try dsimp only at hSw); have c5 := hSw.cell c5 id; have c6 := hSw.cell c6 id; have c7 := hSw.cell c7 id; have c8 := hSw.cell c8 id; have c9 := hSw.cell c9 id; go_simp <;> with_reducible rfl)
  try simp only [Act.put, List.setIfInBounds_toArray, List.set_cons_zero, List.set_cons_succ]
  refine wpAnyH_take (i := 11) (oi := { dst := some 33, op := Go.Op.load 26 (Go.Operand.tmp 32), type := 26, pos := "ipv4.go:81", after := #[{ on := 10, ground := Go.Ground.data }], guard := none }) (v := ?v20) rfl (by kernel_rfl) (by kernel_rfl) (by kernel_rfl) (fun _ _ _ h => h) (Or.inl ⟨by rfl, ?hy20⟩) (by assumption) ?rest20
  case hy20 => (intro w hSw; (try dsimp only at hSw); have c5 := hSw.cell c5 id; have c6 := hSw.cell c6 id; have c7 := hSw.cell c7 id; have c8 := hSw.cell c8 id; have c9 := hSw.cell c9 id; go_simp <;> with_reducible rfl)
  try simp only [Act.put, List.setIfInBounds_toArray, List.set_cons_zero, List.set_cons_succ]
  refine wpAnyH_take (i := 13) (oi := { dst := some 35, op := Go.Op.fieldAddr 97 (Go.Operand.tmp 1) 9, type := 0, pos := "ipv4.go:81", after := #[], guard := none }) (v := ?v21) rfl (by kernel_rfl) (by kernel_rfl) (by kernel_rfl) (fun _ _ _ h => h) (Or.inl ⟨by rfl, ?hy21⟩) (by assumption) ?rest21
  case hy21 => (intro w hSw; (try dsimp only at hSw); have c5 := hSw.cell c5 id; have c6 := hSw.cell c6 id; have c7 := hSw.cell c7 id; have c8 := hSw.cell c8 id; have c9 := hSw.cell c9 id; go_simp <;> with_reducible rfl)
  try simp only [Act.put, List.setIfInBounds_toArray, List.set_cons_zero, List.set_cons_succ]
  refine wpAnyH_take (i := 14) (oi := { dst := some 36, op := Go.Op.load 26 (Go.Operand.tmp 35), type := 26, pos := "ipv4.go:81", after := #[{ on := 13, ground := Go.Ground.data }], guard := none }) (v := ?v22) rfl (by kernel_rfl) (by kernel_rfl) (by kernel_rfl) (fun _ _ _ h => h) (Or.inl ⟨by rfl, ?hy22⟩) (by assumption) ?rest22
  case hy22 => (intro w hSw; (try dsimp only at hSw); have c5 := hSw.cell c5 id; have c6 := hSw.cell c6 id; have c7 := hSw.cell c7 id; have c8 := hSw.cell c8 id; have c9 := hSw.cell c9 id; go_simp <;> with_reducible rfl)
  try simp only [Act.put, List.setIfInBounds_toArray, List.set_cons_zero, List.set_cons_succ]
  refine wpAnyH_ready (rs := [3]) (by kernel_rfl) (by simp) ?_
  refine AllReadyH.cons (o := { dst := some 25, op := Go.Op.call { callee := Go.Callee.value (Go.Operand.func 76), args := #[Go.Operand.tmp 22, Go.Operand.tmp 24], argTypes := #[120, 5] }, type := 120, pos := "ipv4.go:81", after := #[{ on := 0, ground := Go.Ground.data }, { on := 2, ground := Go.Ground.data }], guard := none }) rfl (fun K hK => ?_) AllReadyH.nil
  go_simp
  refine (wu8_any p q5 ([] ++ txt vi 1 ++ txt tos 1 ++ txt size 2 ++ txt ident 2 ++ txt bits 2) ttl _ (by omega) (by omega) HW5.out (by simp [txt_len])).mono ?_
  rintro e w8 ⟨rfl, hw⟩
  obtain ⟨q6, h1, h2, h3⟩ := writer_step HQ5.out hS5.size hw
  have hS6 := hS5.andThen h3 (fun i hi e => by rcases e with e | e <;> omega)
  have HW6 := Lib.hid h1
  have HQ6 := Lib.hid h2
  clear h1 h2 h3 hw
  refine hK.out _ _ hS6 (fun _ => ?_)
  refine wpAnyH_ready (rs := [6]) (by kernel_rfl) (by simp) ?_
  refine AllReadyH.cons (o := { dst := some 28, op := Go.Op.call { callee := Go.Callee.value (Go.Operand.func 76), args := #[Go.Operand.tmp 25, Go.Operand.tmp 27], argTypes := #[120, 5] }, type := 120, pos := "ipv4.go:81", after := #[{ on := 3, ground := Go.Ground.data }, { on := 5, ground := Go.Ground.data }, { on := 3, ground := Go.Ground.chain }], guard := none }) rfl (fun K hK => ?_) AllReadyH.nil
  go_simp
  refine (wu8_any p q6 ([] ++ txt vi 1 ++ txt tos 1 ++ txt size 2 ++ txt ident 2 ++ txt bits 2 ++ txt ttl 1) pr _ (by omega) (by omega) HW6.out (by simp [txt_len])).mono ?_
  rintro e w9 ⟨rfl, hw⟩
  obtain ⟨q7, h1, h2, h3⟩ := writer_step HQ6.out hS6.size hw
  have hS7 := hS6.andThen h3 (fun i hi e => by rcases e with e | e <;> omega)
  have HW7 := Lib.hid h1
  have HQ7 := Lib.hid h2
  clear h1 h2 h3 hw
  refine hK.out _ _ hS7 (fun _ => ?_)
  refine wpAnyH_ready (rs := [9]) (by kernel_rfl) (by simp) ?_
  refine AllReadyH.cons (o := { dst := some 31, op := Go.Op.call { callee := Go.Callee.value (Go.Operand.func 66), args := #[Go.Operand.tmp 28, Go.Operand.tmp 30], argTypes := #[120, 23] }, type := 120, pos := "ipv4.go:81", after := #[{ on := 6, ground := Go.Ground.data }, { on := 8, ground := Go.Ground.data }, { on := 6, ground := Go.Ground.chain }], guard := none }) rfl (fun K hK => ?_) AllReadyH.nil
  go_simp
  refine (wu16_any p q7 ([] ++ txt vi 1 ++ txt tos 1 ++ txt size 2 ++ txt ident 2 ++ txt bits 2 ++ txt ttl 1 ++ txt pr 1) sum _ (by omega) (by omega) HW7.out (by simp [txt_len])).mono ?_
  rintro e w10 ⟨rfl, hw⟩
  obtain ⟨q8, h1, h2, h3⟩ := writer_step HQ7.out hS7.size hw
  have hS8 := hS7.andThen h3 (fun i hi e => by rcases e with e | e <;> omega)
  have HW8 := Lib.hid h1
  have HQ8 := Lib.hid h2
  clear h1 h2 h3 hw
  refine hK.out _ _ hS8 (fun _ => ?_)
  refine wpAnyH_ready (rs := [12]) (by kernel_rfl) (by simp) ?_
  refine AllReadyH.cons (o := { dst := some 34, op := Go.Op.call { callee := Go.Callee.value (Go.Operand.func 77), args := #[Go.Operand.tmp 31, Go.Operand.tmp 33], argTypes := #[120, 26] }, type := 120, pos := "ipv4.go:81", after := #[{ on := 9, ground := Go.Ground.data }, { on := 11, ground := Go.Ground.data }, { on := 9, ground := Go.Ground.chain }], guard := none }) rfl (fun K hK => ?_) AllReadyH.nil
  go_simp
  refine (wu32_any p q8 ([] ++ txt vi 1 ++ txt tos 1 ++ txt size 2 ++ txt ident 2 ++ txt bits 2 ++ txt ttl 1 ++ txt pr 1 ++ txt sum 2) src _ (by omega) (by omega) HW8.out (by simp [txt_len])).mono ?_
  rintro e w11 ⟨rfl, hw⟩
  obtain ⟨q9, h1, h2, h3⟩ := writer_step HQ8.out hS8.size hw
  have hS9 := hS8.andThen h3 (fun i hi e => by rcases e with e | e <;> omega)
  have HW9 := Lib.hid h1
  have HQ9 := Lib.hid h2
  clear h1 h2 h3 hw
  refine hK.out _ _ hS9 (fun _ => ?_)
  refine wpAnyH_ready (rs := [15]) (by kernel_rfl) (by simp) ?_
  refine AllReadyH.cons (o := { dst := some 37, op := Go.Op.call { callee := Go.Callee.value (Go.Operand.func 77), args := #[Go.Operand.tmp 34, Go.Operand.tmp 36], argTypes := #[120, 26] }, type := 120, pos := "ipv4.go:81", after := #[{ on := 12, ground := Go.Ground.data }, { on := 14, ground := Go.Ground.data }, { on := 12, ground := Go.Ground.chain }], guard := none }) rfl (fun K hK => ?_) AllReadyH.nil
  go_simp
  refine (wu32_any p q9 ([] ++ txt vi 1 ++ txt tos 1 ++ txt size 2 ++ txt ident 2 ++ txt bits 2 ++ txt ttl 1 ++ txt pr 1 ++ txt sum 2 ++ txt src 4) dst _ (by omega) (by omega) HW9.out (by simp [txt_len])).mono ?_
  rintro e w12 ⟨rfl, hw⟩
  obtain ⟨q10, h1, h2, h3⟩ := writer_step HQ9.out hS9.size hw
  have hS10 := hS9.andThen h3 (fun i hi e => by rcases e with e | e <;> omega)
  have HW10 := Lib.hid h1
  have HQ10 := Lib.hid h2
  clear h1 h2 h3 hw
  refine hK.out _ _ hS10 (fun _ => ?_)
  refine wpAnyH_done (by kernel_rfl) ?_ _
  clear HW5 HQ5 HW6 HQ6 HW7 HQ7 HW8 HQ8 HW9 HQ9 c0 c1 c2 c3 c4 c5 c6 c7 c8 c9
  go_wp2_with fail
  refine (wdone_any p q10 ([] ++ txt vi 1 ++ txt tos 1 ++ txt size 2 ++ txt ident 2 ++ txt bits 2 ++ txt ttl 1 ++ txt pr 1 ++ txt sum 2 ++ txt src 4 ++ txt dst 4) _ HW10.out (by simp [txt_len])).mono ?_
  rintro e w13 ⟨A, c, rfl, ho, hx⟩
  have hl : ([] ++ txt vi 1 ++ txt tos 1 ++ txt size 2 ++ txt ident 2 ++ txt bits 2 ++ txt ttl 1 ++ txt pr 1 ++ txt sum 2 ++ txt src 4 ++ txt dst 4) = (⟨vi, tos, size, ident, bits, ttl, pr, sum, src, dst⟩ : Hd).bytes := rfl
  rw [hl] at ho
  have HO := Lib.hid ho
  have HX := Lib.hid (HA1.out.trans (hS10.trans hx))
  have hs12 := hS10.size
  clear ho hx hl
  go_wp2_with fail
  go_ret
  exact ⟨A, c, rfl, HO.out.mono (by omega), HX.out⟩
end Go.Proofs.YtfcfpkhcpijkfaaDoor
