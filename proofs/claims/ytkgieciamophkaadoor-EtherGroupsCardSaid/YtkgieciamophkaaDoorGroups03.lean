/-
  The walk of EtherGroups. By an AI agent.
-/
import Derived.Test.YtkgieciamophkaaDoorShown03
import Derived.Deep.RegionHeld
import Derived.Deep.DeepCutAuto
import Derived.Deep.CutBlock
namespace Go.Proofs.YtkgieciamophkaaDoor
open Go.RowKit

theorem xor_u8 (a b : UInt8) : Go.bits .xor .u8 (a.toNat : Int) (b.toNat : Int) = ((a ^^^ b).toNat : Int) := by
  have ha := a.toNat_lt
  have hb := b.toNat_lt
  have key : (BitVec.ofInt 8 (a.toNat : Int) ^^^ BitVec.ofInt 8 (b.toNat : Int)).toNat = (a ^^^ b).toNat := by
    rw [BitVec.toNat_xor, BitVec.toNat_ofInt, BitVec.toNat_ofInt, UInt8.toNat_xor, show ((a.toNat : Int) % ((2 ^ 8 : Nat) : Int)).toNat = a.toNat by omega, show ((b.toNat : Int) % ((2 ^ 8 : Nat) : Int)).toNat = b.toNat by omega]
  have hl := (a ^^^ b).toNat_lt
  show IntKind.u8.wrap ((BitVec.ofInt 8 (a.toNat : Int) ^^^ BitVec.ofInt 8 (b.toNat : Int)).toNat : Nat) = _
  rw [key, IntKind.wrap_u8]
  omega
theorem and_254_all : ∀ n : Fin 256, Go.bits .and .u8 (n.val : Int) 254 = ((n.val / 2 * 2 : Nat) : Int) := by decide +kernel
theorem and_254 (a : UInt8) : Go.bits .and .u8 (a.toNat : Int) 254 = ((a.toNat / 2 * 2 : Nat) : Int) := and_254_all ⟨a.toNat, a.toNat_lt⟩
theorem xor_one_all : ∀ n : Fin 256, ((UInt8.ofNat n.val ^^^ 1).toNat % 2 = 1) ↔ ¬ (n.val % 2 = 1) := by decide +kernel
theorem xor_one (a : UInt8) : ((a ^^^ 1).toNat % 2 = 1) ↔ ¬ (a.toNat % 2 = 1) := by
  have := xor_one_all ⟨a.toNat, a.toNat_lt⟩
  rwa [UInt8.ofNat_toNat] at this

set_option maxRecDepth 100000 in
set_option maxHeartbeats 4000000 in
theorem groups_any (m0 m1 m2 m3 m4 m5 b0 b1 b2 b3 b4 b5 : UInt8) (w : World) (hg : ET w) (hal : AL w) :
    Calls Tryd.prog 14 #[.agg #[.int .u8 (m0.toNat : Int), .int .u8 (m1.toNat : Int), .int .u8 (m2.toNat : Int), .int .u8 (m3.toNat : Int), .int .u8 (m4.toNat : Int), .int .u8 (m5.toNat : Int)], .agg #[.int .u8 (b0.toNat : Int), .int .u8 (b1.toNat : Int), .int .u8 (b2.toNat : Int), .int .u8 (b3.toNat : Int), .int .u8 (b4.toNat : Int), .int .u8 (b5.toNat : Int)]] w fun e w' => e = .returned (.bool true) ∧ Ex (fun _ => False) w w' := by
  have h0w : 0 < w.heap.size := World.block_lt_of_cell? w _ (hal 0 (by decide))
  have HG := Lib.hid hg
  have HAL := Lib.hid hal
  clear hg hal
  go_enter Tryd.func14, Tryd.ntmps14
  go_upto_region 1 with fail
  have hx0 : Ex (fun _ => False) w ((w.alloc (.cells #[.int .u8 (m0.toNat : Int), .int .u8 (m1.toNat : Int), .int .u8 (m2.toNat : Int), .int .u8 (m3.toNat : Int), .int .u8 (m4.toNat : Int), .int .u8 (m5.toNat : Int)] 74)).alloc (.cells #[.int .u8 (b0.toNat : Int), .int .u8 (b1.toNat : Int), .int .u8 (b2.toNat : Int), .int .u8 (b3.toNat : Int), .int .u8 (b4.toNat : Int), .int .u8 (b5.toNat : Int)] 74)) := ((Ex.refl _ w).alloc _).alloc _
  have hb0 : ((w.alloc (.cells #[.int .u8 (m0.toNat : Int), .int .u8 (m1.toNat : Int), .int .u8 (m2.toNat : Int), .int .u8 (m3.toNat : Int), .int .u8 (m4.toNat : Int), .int .u8 (m5.toNat : Int)] 74)).alloc (.cells #[.int .u8 (b0.toNat : Int), .int .u8 (b1.toNat : Int), .int .u8 (b2.toNat : Int), .int .u8 (b3.toNat : Int), .int .u8 (b4.toNat : Int), .int .u8 (b5.toNat : Int)] 74)).heap[w.heap.size + 1]? = some (.cells #[.int .u8 (b0.toNat : Int), .int .u8 (b1.toNat : Int), .int .u8 (b2.toNat : Int), .int .u8 (b3.toNat : Int), .int .u8 (b4.toNat : Int), .int .u8 (b5.toNat : Int)] 74) := heap_alloc2_new w _ _
  have hm0 : ((w.alloc (.cells #[.int .u8 (m0.toNat : Int), .int .u8 (m1.toNat : Int), .int .u8 (m2.toNat : Int), .int .u8 (m3.toNat : Int), .int .u8 (m4.toNat : Int), .int .u8 (m5.toNat : Int)] 74)).alloc (.cells #[.int .u8 (b0.toNat : Int), .int .u8 (b1.toNat : Int), .int .u8 (b2.toNat : Int), .int .u8 (b3.toNat : Int), .int .u8 (b4.toNat : Int), .int .u8 (b5.toNat : Int)] 74)).heap[w.heap.size]? = some (.cells #[.int .u8 (m0.toNat : Int), .int .u8 (m1.toNat : Int), .int .u8 (m2.toNat : Int), .int .u8 (m3.toNat : Int), .int .u8 (m4.toNat : Int), .int .u8 (m5.toNat : Int)] 74) := (((Ex.refl (fun _ => False) (w.alloc (.cells #[.int .u8 (m0.toNat : Int), .int .u8 (m1.toNat : Int), .int .u8 (m2.toNat : Int), .int .u8 (m3.toNat : Int), .int .u8 (m4.toNat : Int), .int .u8 (m5.toNat : Int)] 74))).alloc (.cells #[.int .u8 (b0.toNat : Int), .int .u8 (b1.toNat : Int), .int .u8 (b2.toNat : Int), .int .u8 (b3.toNat : Int), .int .u8 (b4.toNat : Int), .int .u8 (b5.toNat : Int)] 74)).block w.heap.size (by simp) id).trans (heap_alloc_new w _)
  generalize (w.alloc (.cells #[.int .u8 (m0.toNat : Int), .int .u8 (m1.toNat : Int), .int .u8 (m2.toNat : Int), .int .u8 (m3.toNat : Int), .int .u8 (m4.toNat : Int), .int .u8 (m5.toNat : Int)] 74)).alloc (.cells #[.int .u8 (b0.toNat : Int), .int .u8 (b1.toNat : Int), .int .u8 (b2.toNat : Int), .int .u8 (b3.toNat : Int), .int .u8 (b4.toNat : Int), .int .u8 (b5.toNat : Int)] 74) = w1 at hx0 hb0 hm0 ⊢
  obtain ⟨mb, hmb⟩ : ∃ mb, mb = w.heap.size := ⟨_, rfl⟩
  obtain ⟨bb, hbb⟩ : ∃ bb, bb = w.heap.size + 1 := ⟨_, rfl⟩
  rw [← hbb] at hb0
  rw [← hmb] at hm0
  try simp only [← hbb]
  try simp only [← hmb]
  have hmb1 : w.heap.size ≤ mb := by omega
  have hbb1 : w.heap.size ≤ bb := by omega
  clear hmb hbb
  have HB0 := Lib.hid hb0
  have HM0 := Lib.hid hm0
  have HX0 := Lib.hid hx0
  clear hb0 hm0 hx0
  go_wp2_with fail
  refine (shown3_any w1 (HG.out.keep HX0.out id) (HAL.out.keep HX0.out id)).mono ?_
  rintro e w2 ⟨rfl, hx2⟩
  have hm2 := (hx2.block mb (row_lt HM0.out) id).trans HM0.out
  have HM2 := Lib.hid hm2
  have HB2 := Lib.hid ((hx2.block bb (row_lt HB0.out) id).trans HB0.out)
  have HX2 := Lib.hid (HX0.out.trans hx2)
  have c0 := row_cell (k := 0) (v := .int .u8 (m0.toNat : Int)) hm2 rfl
  have c1 := row_cell (k := 1) (v := .int .u8 (m1.toNat : Int)) hm2 rfl
  have c2 := row_cell (k := 2) (v := .int .u8 (m2.toNat : Int)) hm2 rfl
  have c3 := row_cell (k := 3) (v := .int .u8 (m3.toNat : Int)) hm2 rfl
  have c4 := row_cell (k := 4) (v := .int .u8 (m4.toNat : Int)) hm2 rfl
  have c5 := row_cell (k := 5) (v := .int .u8 (m5.toNat : Int)) hm2 rfl
  clear hm2 hx2 HX0 HM0 HB0
  go_upto_region 3 with fail
  clear c0 c1 c2 c3 c4 c5
  have hx3 : Ex (fun _ => False) w2 (w2.alloc (.cells #[.int .u8 (m0.toNat : Int), .int .u8 (m1.toNat : Int), .int .u8 (m2.toNat : Int), .int .u8 (m3.toNat : Int), .int .u8 (m4.toNat : Int), .int .u8 (m5.toNat : Int)] 74)) := (Ex.refl _ w2).alloc _
  have hf3 : (w2.alloc (.cells #[.int .u8 (m0.toNat : Int), .int .u8 (m1.toNat : Int), .int .u8 (m2.toNat : Int), .int .u8 (m3.toNat : Int), .int .u8 (m4.toNat : Int), .int .u8 (m5.toNat : Int)] 74)).heap[w2.heap.size]? = some (.cells #[.int .u8 (m0.toNat : Int), .int .u8 (m1.toNat : Int), .int .u8 (m2.toNat : Int), .int .u8 (m3.toNat : Int), .int .u8 (m4.toNat : Int), .int .u8 (m5.toNat : Int)] 74) := heap_alloc_new w2 _
  have hsz2 := HX2.out.size
  have hm2l := row_lt HM2.out
  have hb2l := row_lt HB2.out
  generalize w2.alloc (.cells #[.int .u8 (m0.toNat : Int), .int .u8 (m1.toNat : Int), .int .u8 (m2.toNat : Int), .int .u8 (m3.toNat : Int), .int .u8 (m4.toNat : Int), .int .u8 (m5.toNat : Int)] 74) = w3 at hx3 hf3 ⊢
  obtain ⟨xb, hxb0⟩ : ∃ xb, xb = w2.heap.size := ⟨_, rfl⟩
  rw [← hxb0] at hf3
  try simp only [← hxb0]
  have hxb1 : w.heap.size ≤ xb := by omega
  have hbx : bb ≠ xb := by omega
  have hmx : mb ≠ xb := by omega
  clear hxb0
  have HB := Lib.hid ((hx3.block bb (row_lt HB2.out) id).trans HB2.out)
  have HM := Lib.hid ((hx3.block mb (row_lt HM2.out) id).trans HM2.out)
  have HX3 := Lib.hid (HX2.out.trans hx3)
  have HF3 := Lib.hid hf3
  have hx3s := hx3.size
  have hmw3 := row_lt HM.out
  clear hx3 hf3 HX2 HB2 HM2
  go_upto_block 0 with fail
  go_cut [7] (fun _ wx => ∃ x0 x1 x2 x3 x4 x5 : UInt8, Hid (wx.heap[xb]? = some (.cells #[.int .u8 (x0.toNat : Int), .int .u8 (x1.toNat : Int), .int .u8 (x2.toNat : Int), .int .u8 (x3.toNat : Int), .int .u8 (x4.toNat : Int), .int .u8 (x5.toNat : Int)] 74)) ∧ Hid (Ex (fun j => j = xb) w3 wx))
  case first =>
    go_wp2_with fail
    go_loopw [7] (fun i wr => ∃ (k : Nat) (x0 x1 x2 x3 x4 x5 : UInt8), k ≤ 6 ∧ i = .int .i64 (k : Int) ∧ Hid (wr.heap[xb]? = some (.cells #[.int .u8 (x0.toNat : Int), .int .u8 (x1.toNat : Int), .int .u8 (x2.toNat : Int), .int .u8 (x3.toNat : Int), .int .u8 (x4.toNat : Int), .int .u8 (x5.toNat : Int)] 74)) ∧ Hid (Ex (fun j => j = xb) w3 wr) ∧ Hid (wr.heap[bb]? = w3.heap[bb]?)) (fun i _ => 6 - (intOf i).toNat)
    case atStart => exact ⟨0, m0, m1, m2, m3, m4, m5, by omega, rfl, HF3, Lib.hid (Ex.refl _ w3), Lib.hid rfl⟩
    case round =>
      obtain ⟨k, x0, x1, x2, x3, x4, x5, hk, rfl, hx, hxb2, hxb⟩ := hrel
      have hbw := row_lt HB.out
      have hrs := hxb2.out.size
      have hk' : k = 0 ∨ k = 1 ∨ k = 2 ∨ k = 3 ∨ k = 4 ∨ k = 5 ∨ k = 6 := by omega
      rcases hk' with rfl | rfl | rfl | rfl | rfl | rfl | rfl
      · have qx := xor_u8 x0 b0
        have cx := row_cell (k := 0) (v := .int .u8 (x0.toNat : Int)) hx.out rfl
        have fx := row_frozen hx.out 0
        have cb := row_cell (k := 0) (v := .int .u8 (b0.toNat : Int)) (hxb.out.trans HB.out) rfl
        have hnx := row_set hx.out 0 (.int .u8 ((x0 ^^^ b0).toNat : Int))
        have hns := (Ex.refl (fun j => j = xb) wr).setCell (p := ⟨xb, 0, none⟩) (.inl rfl) (.int .u8 ((x0 ^^^ b0).toNat : Int))
        have HNX := Lib.hid hnx
        have HNS := Lib.hid hns
        clear hnx hns
        go_upto_region 6 with fail
        go_region
        go_wp2_with fail
        go_roundw
        case rel => exact ⟨1, (x0 ^^^ b0), x1, x2, x3, x4, x5, by omega, by go_num, Lib.hid HNX.out, Lib.hid ((hxb2.out.trans HNS.out).drew), Lib.hid ((HNS.out.drew.block bb (by omega) hbx).trans hxb.out)⟩
        case measure => simp [intOf]
      · have qx := xor_u8 x1 b1
        have cx := row_cell (k := 1) (v := .int .u8 (x1.toNat : Int)) hx.out rfl
        have fx := row_frozen hx.out 1
        have cb := row_cell (k := 1) (v := .int .u8 (b1.toNat : Int)) (hxb.out.trans HB.out) rfl
        have hnx := row_set hx.out 1 (.int .u8 ((x1 ^^^ b1).toNat : Int))
        have hns := (Ex.refl (fun j => j = xb) wr).setCell (p := ⟨xb, 1, none⟩) (.inl rfl) (.int .u8 ((x1 ^^^ b1).toNat : Int))
        have HNX := Lib.hid hnx
        have HNS := Lib.hid hns
        clear hnx hns
        go_upto_region 6 with fail
        go_region
        go_wp2_with fail
        go_roundw
        case rel => exact ⟨2, x0, (x1 ^^^ b1), x2, x3, x4, x5, by omega, by go_num, Lib.hid HNX.out, Lib.hid ((hxb2.out.trans HNS.out).drew), Lib.hid ((HNS.out.drew.block bb (by omega) hbx).trans hxb.out)⟩
        case measure => simp [intOf]
      · have qx := xor_u8 x2 b2
        have cx := row_cell (k := 2) (v := .int .u8 (x2.toNat : Int)) hx.out rfl
        have fx := row_frozen hx.out 2
        have cb := row_cell (k := 2) (v := .int .u8 (b2.toNat : Int)) (hxb.out.trans HB.out) rfl
        have hnx := row_set hx.out 2 (.int .u8 ((x2 ^^^ b2).toNat : Int))
        have hns := (Ex.refl (fun j => j = xb) wr).setCell (p := ⟨xb, 2, none⟩) (.inl rfl) (.int .u8 ((x2 ^^^ b2).toNat : Int))
        have HNX := Lib.hid hnx
        have HNS := Lib.hid hns
        clear hnx hns
        go_upto_region 6 with fail
        go_region
        go_wp2_with fail
        go_roundw
        case rel => exact ⟨3, x0, x1, (x2 ^^^ b2), x3, x4, x5, by omega, by go_num, Lib.hid HNX.out, Lib.hid ((hxb2.out.trans HNS.out).drew), Lib.hid ((HNS.out.drew.block bb (by omega) hbx).trans hxb.out)⟩
        case measure => simp [intOf]
      · have qx := xor_u8 x3 b3
        have cx := row_cell (k := 3) (v := .int .u8 (x3.toNat : Int)) hx.out rfl
        have fx := row_frozen hx.out 3
        have cb := row_cell (k := 3) (v := .int .u8 (b3.toNat : Int)) (hxb.out.trans HB.out) rfl
        have hnx := row_set hx.out 3 (.int .u8 ((x3 ^^^ b3).toNat : Int))
        have hns := (Ex.refl (fun j => j = xb) wr).setCell (p := ⟨xb, 3, none⟩) (.inl rfl) (.int .u8 ((x3 ^^^ b3).toNat : Int))
        have HNX := Lib.hid hnx
        have HNS := Lib.hid hns
        clear hnx hns
        go_upto_region 6 with fail
        go_region
        go_wp2_with fail
        go_roundw
        case rel => exact ⟨4, x0, x1, x2, (x3 ^^^ b3), x4, x5, by omega, by go_num, Lib.hid HNX.out, Lib.hid ((hxb2.out.trans HNS.out).drew), Lib.hid ((HNS.out.drew.block bb (by omega) hbx).trans hxb.out)⟩
        case measure => simp [intOf]
      · have qx := xor_u8 x4 b4
        have cx := row_cell (k := 4) (v := .int .u8 (x4.toNat : Int)) hx.out rfl
        have fx := row_frozen hx.out 4
        have cb := row_cell (k := 4) (v := .int .u8 (b4.toNat : Int)) (hxb.out.trans HB.out) rfl
        have hnx := row_set hx.out 4 (.int .u8 ((x4 ^^^ b4).toNat : Int))
        have hns := (Ex.refl (fun j => j = xb) wr).setCell (p := ⟨xb, 4, none⟩) (.inl rfl) (.int .u8 ((x4 ^^^ b4).toNat : Int))
        have HNX := Lib.hid hnx
        have HNS := Lib.hid hns
        clear hnx hns
        go_upto_region 6 with fail
        go_region
        go_wp2_with fail
        go_roundw
        case rel => exact ⟨5, x0, x1, x2, x3, (x4 ^^^ b4), x5, by omega, by go_num, Lib.hid HNX.out, Lib.hid ((hxb2.out.trans HNS.out).drew), Lib.hid ((HNS.out.drew.block bb (by omega) hbx).trans hxb.out)⟩
        case measure => simp [intOf]
      · have qx := xor_u8 x5 b5
        have cx := row_cell (k := 5) (v := .int .u8 (x5.toNat : Int)) hx.out rfl
        have fx := row_frozen hx.out 5
        have cb := row_cell (k := 5) (v := .int .u8 (b5.toNat : Int)) (hxb.out.trans HB.out) rfl
        have hnx := row_set hx.out 5 (.int .u8 ((x5 ^^^ b5).toNat : Int))
        have hns := (Ex.refl (fun j => j = xb) wr).setCell (p := ⟨xb, 5, none⟩) (.inl rfl) (.int .u8 ((x5 ^^^ b5).toNat : Int))
        have HNX := Lib.hid hnx
        have HNS := Lib.hid hns
        clear hnx hns
        go_upto_region 6 with fail
        go_region
        go_wp2_with fail
        go_roundw
        case rel => exact ⟨6, x0, x1, x2, x3, x4, (x5 ^^^ b5), by omega, by go_num, Lib.hid HNX.out, Lib.hid ((hxb2.out.trans HNS.out).drew), Lib.hid ((HNS.out.drew.block bb (by omega) hbx).trans hxb.out)⟩
        case measure => simp [intOf]
      · go_wp2_with fail
        go_meet
        exact ⟨x0, x1, x2, x3, x4, x5, hx, hxb2⟩
  case rest =>
    clear HF3
    obtain ⟨x0, x1, x2, x3, x4, x5, hx, hxb2⟩ := hcut
    have hm := (hxb2.out.block mb hmw3 hmx).trans HM.out
    have cm := row_cell (k := 0) (v := .int .u8 (m0.toNat : Int)) hm rfl
    have cx := row_cell (k := 0) (v := .int .u8 (x0.toNat : Int)) hx.out rfl
    have fx := row_frozen hx.out 0
    have qa := and_254 x0
    have hm0l := m0.toNat_lt
    have hx0l := x0.toNat_lt
    have qw := IntWalk.u8_in (((x0.toNat / 2 * 2 : Nat) : Int) + (m0.toNat : Int) % 2) (by omega)
    go_upto_region 8 with fail
    obtain ⟨X0, hX0⟩ : ∃ X0 : UInt8, (X0.toNat : Int) = (x0.toNat : Int) / 2 * 2 + (m0.toNat : Int) % 2 := ⟨UInt8.ofNat (x0.toNat / 2 * 2 + m0.toNat % 2), by rw [UInt8.toNat_ofNat']; omega⟩
    rw [← hX0]
    have hxS := row_set hx.out 0 (.int .u8 (X0.toNat : Int))
    have hmS := (((Ex.refl (fun j => j = xb) wc).setCell (p := ⟨xb, 0, none⟩) (.inl rfl) (.int .u8 (X0.toNat : Int))).block mb (by have := row_lt hm; exact this) hmx).trans hm
    have hwS := hxb2.out.setCell (p := ⟨xb, 0, none⟩) (.inl rfl) (.int .u8 (X0.toNat : Int))
    have HX0 := Lib.hid hX0
    have HXS := Lib.hid (show (wc.setCell ⟨xb, 0, none⟩ (.int .u8 (X0.toNat : Int))).heap[xb]? = some (.cells #[.int .u8 (X0.toNat : Int), .int .u8 (x1.toNat : Int), .int .u8 (x2.toNat : Int), .int .u8 (x3.toNat : Int), .int .u8 (x4.toNat : Int), .int .u8 (x5.toNat : Int)] 74) from hxS)
    have HMS := Lib.hid hmS
    have HWS := Lib.hid hwS
    clear hX0 hxS hwS qa qw cm cx fx hm
    generalize wc.setCell ⟨xb, 0, none⟩ (.int .u8 (X0.toNat : Int)) = wS at HXS HMS HWS hmS ⊢
    have c0 := row_cell (k := 0) (v := .int .u8 (m0.toNat : Int)) hmS rfl
    have c1 := row_cell (k := 1) (v := .int .u8 (m1.toNat : Int)) hmS rfl
    have c2 := row_cell (k := 2) (v := .int .u8 (m2.toNat : Int)) hmS rfl
    have c3 := row_cell (k := 3) (v := .int .u8 (m3.toNat : Int)) hmS rfl
    have c4 := row_cell (k := 4) (v := .int .u8 (m4.toNat : Int)) hmS rfl
    have c5 := row_cell (k := 5) (v := .int .u8 (m5.toNat : Int)) hmS rfl
    clear hmS
    obtain ⟨Y0, hY0⟩ : ∃ Y0, Y0 = m0 ^^^ 1 := ⟨_, rfl⟩
    have qy : Go.bits .xor .u8 (m0.toNat : Int) 1 = (Y0.toNat : Int) := by rw [hY0]; exact xor_u8 m0 1
    have HY0 := Lib.hid hY0
    clear hY0
    go_upto_region 10 with fail
    clear c0 c1 c2 c3 c4 c5 qy
    have hx4 : Ex (fun _ => False) wS (wS.alloc (.cells #[.int .u8 (Y0.toNat : Int), .int .u8 (m1.toNat : Int), .int .u8 (m2.toNat : Int), .int .u8 (m3.toNat : Int), .int .u8 (m4.toNat : Int), .int .u8 (m5.toNat : Int)] 74)) := (Ex.refl _ wS).alloc _
    have hy4 : (wS.alloc (.cells #[.int .u8 (Y0.toNat : Int), .int .u8 (m1.toNat : Int), .int .u8 (m2.toNat : Int), .int .u8 (m3.toNat : Int), .int .u8 (m4.toNat : Int), .int .u8 (m5.toNat : Int)] 74)).heap[wS.heap.size]? = some (.cells #[.int .u8 (Y0.toNat : Int), .int .u8 (m1.toNat : Int), .int .u8 (m2.toNat : Int), .int .u8 (m3.toNat : Int), .int .u8 (m4.toNat : Int), .int .u8 (m5.toNat : Int)] 74) := heap_alloc_new wS _
    generalize wS.alloc (.cells #[.int .u8 (Y0.toNat : Int), .int .u8 (m1.toNat : Int), .int .u8 (m2.toNat : Int), .int .u8 (m3.toNat : Int), .int .u8 (m4.toNat : Int), .int .u8 (m5.toNat : Int)] 74) = w4 at hx4 hy4 ⊢
    generalize wS.heap.size = yb at hy4 ⊢
    have hxx := (hx4.block xb (row_lt HXS.out) id).trans HXS.out
    have hmm := (hx4.block mb (row_lt HMS.out) id).trans HMS.out
    have hX4 : Ex (fun _ => False) w w4 := (HX3.out.andThen (HWS.out.trans (hx4.mono (fun _ _ h => h.elim))) (fun i hi e => by omega))
    have HAL4 := HAL.out.keep hX4 id
    have Cm0 := row_cell (k := 0) (v := .int .u8 (m0.toNat : Int)) hmm rfl
    have Cm1 := row_cell (k := 1) (v := .int .u8 (m1.toNat : Int)) hmm rfl
    have Cm2 := row_cell (k := 2) (v := .int .u8 (m2.toNat : Int)) hmm rfl
    have Cm3 := row_cell (k := 3) (v := .int .u8 (m3.toNat : Int)) hmm rfl
    have Cm4 := row_cell (k := 4) (v := .int .u8 (m4.toNat : Int)) hmm rfl
    have Cm5 := row_cell (k := 5) (v := .int .u8 (m5.toNat : Int)) hmm rfl
    have Cx0 := row_cell (k := 0) (v := .int .u8 (X0.toNat : Int)) hxx rfl
    have Cx1 := row_cell (k := 1) (v := .int .u8 (x1.toNat : Int)) hxx rfl
    have Cx2 := row_cell (k := 2) (v := .int .u8 (x2.toNat : Int)) hxx rfl
    have Cx3 := row_cell (k := 3) (v := .int .u8 (x3.toNat : Int)) hxx rfl
    have Cx4 := row_cell (k := 4) (v := .int .u8 (x4.toNat : Int)) hxx rfl
    have Cx5 := row_cell (k := 5) (v := .int .u8 (x5.toNat : Int)) hxx rfl
    have Cy0 := row_cell (k := 0) (v := .int .u8 (Y0.toNat : Int)) hy4 rfl
    have Cy1 := row_cell (k := 1) (v := .int .u8 (m1.toNat : Int)) hy4 rfl
    have Cy2 := row_cell (k := 2) (v := .int .u8 (m2.toNat : Int)) hy4 rfl
    have Cy3 := row_cell (k := 3) (v := .int .u8 (m3.toNat : Int)) hy4 rfl
    have Cy4 := row_cell (k := 4) (v := .int .u8 (m4.toNat : Int)) hy4 rfl
    have Cy5 := row_cell (k := 5) (v := .int .u8 (m5.toNat : Int)) hy4 rfl
    have Ca0 := HAL4 0 (by decide)
    have Ca1 := HAL4 1 (by decide)
    have Ca2 := HAL4 2 (by decide)
    have Ca3 := HAL4 3 (by decide)
    have Ca4 := HAL4 4 (by decide)
    have Ca5 := HAL4 5 (by decide)
    have hS : Ex (fun _ => False) w4 w4.drew := (Ex.refl _ w4).drew
    have p1 : decide (X0.toNat % 2 = 1) = decide (m0.toNat % 2 = 1) := by
      have := HX0.out
      by_cases h : m0.toNat % 2 = 1
      · rw [decide_eq_true h, decide_eq_true (by omega)]
      · rw [decide_eq_false h, decide_eq_false (by omega)]
    have p2 : decide (Y0.toNat % 2 = 1) = !(decide (m0.toNat % 2 = 1)) := by
      have := xor_one m0
      rw [← HY0.out] at this
      by_cases h : m0.toNat % 2 = 1
      · rw [decide_eq_true h, decide_eq_false (by rw [this]; exact not_not_intro h)]; rfl
      · rw [decide_eq_false h, decide_eq_true (this.2 h)]; rfl
    have p3 : decide ((255 : UInt8).toNat % 2 = 1) = true := by decide
    obtain ⟨bm, hbm⟩ : ∃ bm, bm = decide (m0.toNat % 2 = 1) := ⟨_, rfl⟩
    rw [← hbm] at p1 p2
    have P1 := Lib.hid p1
    have P2 := Lib.hid p2
    have HBM := Lib.hid hbm
    have HX4 := Lib.hid hX4
    clear hx4 hy4 hxx hmm HAL4 HX0 HXS HMS HWS p1 p2 hbm hX4 hx hxb2
    have nb : ((!bm) != bm) = true := by cases bm <;> rfl
    refine wp_region_held_drew (S := fun W => Ex (fun _ => False) w4 W) (by kernel_rfl) hS (fun _ => ?_)
    refine wpAnyH_take (i := 0) (oi := { dst := some 37, op := Go.Op.move (Go.Operand.tmp 5), type := 4, pos := "more.go:53", after := #[], guard := none }) (v := ?v1) rfl (by kernel_rfl) (by kernel_rfl) (by kernel_rfl) (fun _ _ _ h => h) (Or.inl ⟨by rfl, ?hy1⟩) (by assumption) ?rest1
    case hy1 => (intro w hSw; (try dsimp only at hSw); have em0 := hSw.cell Cm0 id; have em1 := hSw.cell Cm1 id; have em2 := hSw.cell Cm2 id; have em3 := hSw.cell Cm3 id; have em4 := hSw.cell Cm4 id; have em5 := hSw.cell Cm5 id; have ex0 := hSw.cell Cx0 id; have ex1 := hSw.cell Cx1 id; have ex2 := hSw.cell Cx2 id; have ex3 := hSw.cell Cx3 id; have ex4 := hSw.cell Cx4 id; have ex5 := hSw.cell Cx5 id; have ey0 := hSw.cell Cy0 id; have ey1 := hSw.cell Cy1 id; have ey2 := hSw.cell Cy2 id; have ey3 := hSw.cell Cy3 id; have ey4 := hSw.cell Cy4 id; have ey5 := hSw.cell Cy5 id; have ea0 := hSw.cell Ca0 id; have ea1 := hSw.cell Ca1 id; have ea2 := hSw.cell Ca2 id; have ea3 := hSw.cell Ca3 id; have ea4 := hSw.cell Ca4 id; have ea5 := hSw.cell Ca5 id; go_simp <;> with_reducible rfl)
    try simp only [Act.put, List.setIfInBounds_toArray, List.set_cons_zero, List.set_cons_succ]
    refine wpAnyH_take (i := 1) (oi := { dst := some 38, op := Go.Op.move (Go.Operand.tmp 37), type := 4, pos := "more.go:53", after := #[{ on := 0, ground := Go.Ground.data }], guard := none }) (v := ?v2) rfl (by kernel_rfl) (by kernel_rfl) (by kernel_rfl) (fun _ _ _ h => h) (Or.inl ⟨by rfl, ?hy2⟩) (by assumption) ?rest2
    case hy2 => (intro w hSw; (try dsimp only at hSw); have em0 := hSw.cell Cm0 id; have em1 := hSw.cell Cm1 id; have em2 := hSw.cell Cm2 id; have em3 := hSw.cell Cm3 id; have em4 := hSw.cell Cm4 id; have em5 := hSw.cell Cm5 id; have ex0 := hSw.cell Cx0 id; have ex1 := hSw.cell Cx1 id; have ex2 := hSw.cell Cx2 id; have ex3 := hSw.cell Cx3 id; have ex4 := hSw.cell Cx4 id; have ex5 := hSw.cell Cx5 id; have ey0 := hSw.cell Cy0 id; have ey1 := hSw.cell Cy1 id; have ey2 := hSw.cell Cy2 id; have ey3 := hSw.cell Cy3 id; have ey4 := hSw.cell Cy4 id; have ey5 := hSw.cell Cy5 id; have ea0 := hSw.cell Ca0 id; have ea1 := hSw.cell Ca1 id; have ea2 := hSw.cell Ca2 id; have ea3 := hSw.cell Ca3 id; have ea4 := hSw.cell Ca4 id; have ea5 := hSw.cell Ca5 id; go_simp <;> with_reducible rfl)
    try simp only [Act.put, List.setIfInBounds_toArray, List.set_cons_zero, List.set_cons_succ]
    refine wpAnyH_take (i := 2) (oi := { dst := some 39, op := Go.Op.load 74 (Go.Operand.tmp 6), type := 74, pos := "more.go:53", after := #[{ on := 1, ground := Go.Ground.guard }], guard := some (1, true) }) (v := ?v3) rfl (by kernel_rfl) (by kernel_rfl) (by kernel_rfl) (fun _ _ _ h => h) (Or.inl ⟨by rfl, ?hy3⟩) (by assumption) ?rest3
    case hy3 => (intro w hSw; (try dsimp only at hSw); have em0 := hSw.cell Cm0 id; have em1 := hSw.cell Cm1 id; have em2 := hSw.cell Cm2 id; have em3 := hSw.cell Cm3 id; have em4 := hSw.cell Cm4 id; have em5 := hSw.cell Cm5 id; have ex0 := hSw.cell Cx0 id; have ex1 := hSw.cell Cx1 id; have ex2 := hSw.cell Cx2 id; have ex3 := hSw.cell Cx3 id; have ex4 := hSw.cell Cx4 id; have ex5 := hSw.cell Cx5 id; have ey0 := hSw.cell Cy0 id; have ey1 := hSw.cell Cy1 id; have ey2 := hSw.cell Cy2 id; have ey3 := hSw.cell Cy3 id; have ey4 := hSw.cell Cy4 id; have ey5 := hSw.cell Cy5 id; have ea0 := hSw.cell Ca0 id; have ea1 := hSw.cell Ca1 id; have ea2 := hSw.cell Ca2 id; have ea3 := hSw.cell Ca3 id; have ea4 := hSw.cell Ca4 id; have ea5 := hSw.cell Ca5 id; go_simp <;> with_reducible rfl)
    try simp only [Act.put, List.setIfInBounds_toArray, List.set_cons_zero, List.set_cons_succ]
    refine wpAnyH_take (i := 4) (oi := { dst := some 41, op := Go.Op.load 74 (Go.Operand.tmp 2), type := 74, pos := "more.go:53", after := #[{ on := 1, ground := Go.Ground.guard }], guard := some (1, true) }) (v := ?v4) rfl (by kernel_rfl) (by kernel_rfl) (by kernel_rfl) (fun _ _ _ h => h) (Or.inl ⟨by rfl, ?hy4⟩) (by assumption) ?rest4
    case hy4 => (intro w hSw; (try dsimp only at hSw); have em0 := hSw.cell Cm0 id; have em1 := hSw.cell Cm1 id; have em2 := hSw.cell Cm2 id; have em3 := hSw.cell Cm3 id; have em4 := hSw.cell Cm4 id; have em5 := hSw.cell Cm5 id; have ex0 := hSw.cell Cx0 id; have ex1 := hSw.cell Cx1 id; have ex2 := hSw.cell Cx2 id; have ex3 := hSw.cell Cx3 id; have ex4 := hSw.cell Cx4 id; have ex5 := hSw.cell Cx5 id; have ey0 := hSw.cell Cy0 id; have ey1 := hSw.cell Cy1 id; have ey2 := hSw.cell Cy2 id; have ey3 := hSw.cell Cy3 id; have ey4 := hSw.cell Cy4 id; have ey5 := hSw.cell Cy5 id; have ea0 := hSw.cell Ca0 id; have ea1 := hSw.cell Ca1 id; have ea2 := hSw.cell Ca2 id; have ea3 := hSw.cell Ca3 id; have ea4 := hSw.cell Ca4 id; have ea5 := hSw.cell Ca5 id; go_simp <;> with_reducible rfl)
    try simp only [Act.put, List.setIfInBounds_toArray, List.set_cons_zero, List.set_cons_succ]
    refine wpAnyH_ready (rs := [3]) (by kernel_rfl) (by simp) ?_
    refine AllReadyH.cons (o := { dst := some 40, op := Go.Op.call { callee := Go.Callee.value (Go.Operand.func 40), args := #[Go.Operand.tmp 39], argTypes := #[74] }, type := 4, pos := "more.go:53", after := #[{ on := 2, ground := Go.Ground.data }, { on := 1, ground := Go.Ground.chain }, { on := 1, ground := Go.Ground.guard }], guard := some (1, true) }) rfl (fun K hK => ?_) AllReadyH.nil
    go_simp
    refine (group_any X0 x1 x2 x3 x4 x5 _).mono ?_
    rintro e w5 ⟨rfl, hx5⟩
    rw [P1.out]
    have hS5 := hS.trans hx5
    refine hK.out _ _ hS5 (fun _ => ?_)
    refine wpAnyH_ready (rs := [5]) (by kernel_rfl) (by simp) ?_
    refine AllReadyH.cons (o := { dst := some 42, op := Go.Op.call { callee := Go.Callee.value (Go.Operand.func 40), args := #[Go.Operand.tmp 41], argTypes := #[74] }, type := 4, pos := "more.go:53", after := #[{ on := 4, ground := Go.Ground.data }, { on := 3, ground := Go.Ground.chain }, { on := 1, ground := Go.Ground.guard }], guard := some (1, true) }) rfl (fun K hK => ?_) AllReadyH.nil
    go_simp
    refine (group_any m0 m1 m2 m3 m4 m5 _).mono ?_
    rintro e w6 ⟨rfl, hx6⟩
    rw [← HBM.out]
    have hS6 := hS5.trans hx6
    refine hK.out _ _ hS6 (fun _ => ?_)
    refine wpAnyH_take (i := 6) (oi := { dst := some 43, op := Go.Op.binOp Go.BinOp.eql 4 (Go.Operand.tmp 40) (Go.Operand.tmp 42) 4, type := 4, pos := "more.go:53", after := #[{ on := 3, ground := Go.Ground.data }, { on := 5, ground := Go.Ground.data }, { on := 1, ground := Go.Ground.guard }], guard := some (1, true) }) (v := ?v5) rfl (by kernel_rfl) (by kernel_rfl) (by kernel_rfl) (fun _ _ _ h => h) (Or.inl ⟨by rfl, ?hy5⟩) (by assumption) ?rest5
    case hy5 => (intro w hSw; (try dsimp only at hSw); have em0 := hSw.cell Cm0 id; have em1 := hSw.cell Cm1 id; have em2 := hSw.cell Cm2 id; have em3 := hSw.cell Cm3 id; have em4 := hSw.cell Cm4 id; have em5 := hSw.cell Cm5 id; have ex0 := hSw.cell Cx0 id; have ex1 := hSw.cell Cx1 id; have ex2 := hSw.cell Cx2 id; have ex3 := hSw.cell Cx3 id; have ex4 := hSw.cell Cx4 id; have ex5 := hSw.cell Cx5 id; have ey0 := hSw.cell Cy0 id; have ey1 := hSw.cell Cy1 id; have ey2 := hSw.cell Cy2 id; have ey3 := hSw.cell Cy3 id; have ey4 := hSw.cell Cy4 id; have ey5 := hSw.cell Cy5 id; have ea0 := hSw.cell Ca0 id; have ea1 := hSw.cell Ca1 id; have ea2 := hSw.cell Ca2 id; have ea3 := hSw.cell Ca3 id; have ea4 := hSw.cell Ca4 id; have ea5 := hSw.cell Ca5 id; go_simp <;> with_reducible rfl)
    try simp only [Act.put, List.setIfInBounds_toArray, List.set_cons_zero, List.set_cons_succ]
    refine wpAnyH_take (i := 7) (oi := { dst := some 44, op := Go.Op.pick (Go.Operand.tmp 38) (Go.Operand.tmp 43) (Go.Operand.const (Go.Value.bool false)), type := 4, pos := "more.go:53", after := #[{ on := 1, ground := Go.Ground.data }, { on := 6, ground := Go.Ground.data }], guard := none }) (v := ?v6) rfl (by kernel_rfl) (by kernel_rfl) (by kernel_rfl) (fun _ _ _ h => h) (Or.inl ⟨by rfl, ?hy6⟩) (by assumption) ?rest6
    case hy6 => (intro w hSw; (try dsimp only at hSw); have em0 := hSw.cell Cm0 id; have em1 := hSw.cell Cm1 id; have em2 := hSw.cell Cm2 id; have em3 := hSw.cell Cm3 id; have em4 := hSw.cell Cm4 id; have em5 := hSw.cell Cm5 id; have ex0 := hSw.cell Cx0 id; have ex1 := hSw.cell Cx1 id; have ex2 := hSw.cell Cx2 id; have ex3 := hSw.cell Cx3 id; have ex4 := hSw.cell Cx4 id; have ex5 := hSw.cell Cx5 id; have ey0 := hSw.cell Cy0 id; have ey1 := hSw.cell Cy1 id; have ey2 := hSw.cell Cy2 id; have ey3 := hSw.cell Cy3 id; have ey4 := hSw.cell Cy4 id; have ey5 := hSw.cell Cy5 id; have ea0 := hSw.cell Ca0 id; have ea1 := hSw.cell Ca1 id; have ea2 := hSw.cell Ca2 id; have ea3 := hSw.cell Ca3 id; have ea4 := hSw.cell Ca4 id; have ea5 := hSw.cell Ca5 id; go_simp <;> with_reducible rfl)
    try simp only [Act.put, List.setIfInBounds_toArray, List.set_cons_zero, List.set_cons_succ]
    refine wpAnyH_take (i := 8) (oi := { dst := some 45, op := Go.Op.move (Go.Operand.tmp 44), type := 4, pos := "more.go:53", after := #[{ on := 7, ground := Go.Ground.data }, { on := 5, ground := Go.Ground.chain }], guard := none }) (v := ?v7) rfl (by kernel_rfl) (by kernel_rfl) (by kernel_rfl) (fun _ _ _ h => h) (Or.inl ⟨by rfl, ?hy7⟩) (by assumption) ?rest7
    case hy7 => (intro w hSw; (try dsimp only at hSw); have em0 := hSw.cell Cm0 id; have em1 := hSw.cell Cm1 id; have em2 := hSw.cell Cm2 id; have em3 := hSw.cell Cm3 id; have em4 := hSw.cell Cm4 id; have em5 := hSw.cell Cm5 id; have ex0 := hSw.cell Cx0 id; have ex1 := hSw.cell Cx1 id; have ex2 := hSw.cell Cx2 id; have ex3 := hSw.cell Cx3 id; have ex4 := hSw.cell Cx4 id; have ex5 := hSw.cell Cx5 id; have ey0 := hSw.cell Cy0 id; have ey1 := hSw.cell Cy1 id; have ey2 := hSw.cell Cy2 id; have ey3 := hSw.cell Cy3 id; have ey4 := hSw.cell Cy4 id; have ey5 := hSw.cell Cy5 id; have ea0 := hSw.cell Ca0 id; have ea1 := hSw.cell Ca1 id; have ea2 := hSw.cell Ca2 id; have ea3 := hSw.cell Ca3 id; have ea4 := hSw.cell Ca4 id; have ea5 := hSw.cell Ca5 id; go_simp <;> with_reducible rfl)
    try simp only [Act.put, List.setIfInBounds_toArray, List.set_cons_zero, List.set_cons_succ]
    refine wpAnyH_take (i := 9) (oi := { dst := some 46, op := Go.Op.load 74 (Go.Operand.tmp 8), type := 74, pos := "more.go:53", after := #[{ on := 8, ground := Go.Ground.guard }], guard := some (8, true) }) (v := ?v8) rfl (by kernel_rfl) (by kernel_rfl) (by kernel_rfl) (fun _ _ _ h => h) (Or.inl ⟨by rfl, ?hy8⟩) (by assumption) ?rest8
    case hy8 => (intro w hSw; (try dsimp only at hSw); have em0 := hSw.cell Cm0 id; have em1 := hSw.cell Cm1 id; have em2 := hSw.cell Cm2 id; have em3 := hSw.cell Cm3 id; have em4 := hSw.cell Cm4 id; have em5 := hSw.cell Cm5 id; have ex0 := hSw.cell Cx0 id; have ex1 := hSw.cell Cx1 id; have ex2 := hSw.cell Cx2 id; have ex3 := hSw.cell Cx3 id; have ex4 := hSw.cell Cx4 id; have ex5 := hSw.cell Cx5 id; have ey0 := hSw.cell Cy0 id; have ey1 := hSw.cell Cy1 id; have ey2 := hSw.cell Cy2 id; have ey3 := hSw.cell Cy3 id; have ey4 := hSw.cell Cy4 id; have ey5 := hSw.cell Cy5 id; have ea0 := hSw.cell Ca0 id; have ea1 := hSw.cell Ca1 id; have ea2 := hSw.cell Ca2 id; have ea3 := hSw.cell Ca3 id; have ea4 := hSw.cell Ca4 id; have ea5 := hSw.cell Ca5 id; go_simp <;> with_reducible rfl)
    try simp only [Act.put, List.setIfInBounds_toArray, List.set_cons_zero, List.set_cons_succ]
    refine wpAnyH_take (i := 11) (oi := { dst := some 48, op := Go.Op.load 74 (Go.Operand.tmp 2), type := 74, pos := "more.go:53", after := #[{ on := 8, ground := Go.Ground.guard }], guard := some (8, true) }) (v := ?v9) rfl (by kernel_rfl) (by kernel_rfl) (by kernel_rfl) (fun _ _ _ h => h) (Or.inl ⟨by rfl, ?hy9⟩) (by assumption) ?rest9
    case hy9 => (intro w hSw; (try dsimp only at hSw); have em0 := hSw.cell Cm0 id; have em1 := hSw.cell Cm1 id; have em2 := hSw.cell Cm2 id; have em3 := hSw.cell Cm3 id; have em4 := hSw.cell Cm4 id; have em5 := hSw.cell Cm5 id; have ex0 := hSw.cell Cx0 id; have ex1 := hSw.cell Cx1 id; have ex2 := hSw.cell Cx2 id; have ex3 := hSw.cell Cx3 id; have ex4 := hSw.cell Cx4 id; have ex5 := hSw.cell Cx5 id; have ey0 := hSw.cell Cy0 id; have ey1 := hSw.cell Cy1 id; have ey2 := hSw.cell Cy2 id; have ey3 := hSw.cell Cy3 id; have ey4 := hSw.cell Cy4 id; have ey5 := hSw.cell Cy5 id; have ea0 := hSw.cell Ca0 id; have ea1 := hSw.cell Ca1 id; have ea2 := hSw.cell Ca2 id; have ea3 := hSw.cell Ca3 id; have ea4 := hSw.cell Ca4 id; have ea5 := hSw.cell Ca5 id; go_simp <;> with_reducible rfl)
    try simp only [Act.put, List.setIfInBounds_toArray, List.set_cons_zero, List.set_cons_succ]
    refine wpAnyH_ready (rs := [10]) (by kernel_rfl) (by simp) ?_
    refine AllReadyH.cons (o := { dst := some 47, op := Go.Op.call { callee := Go.Callee.value (Go.Operand.func 40), args := #[Go.Operand.tmp 46], argTypes := #[74] }, type := 4, pos := "more.go:53", after := #[{ on := 9, ground := Go.Ground.data }, { on := 8, ground := Go.Ground.chain }, { on := 8, ground := Go.Ground.guard }], guard := some (8, true) }) rfl (fun K hK => ?_) AllReadyH.nil
    go_simp
    refine (group_any Y0 m1 m2 m3 m4 m5 _).mono ?_
    rintro e w7 ⟨rfl, hx7⟩
    rw [P2.out]
    have hS7 := hS6.trans hx7
    refine hK.out _ _ hS7 (fun _ => ?_)
    refine wpAnyH_ready (rs := [12]) (by kernel_rfl) (by simp) ?_
    refine AllReadyH.cons (o := { dst := some 49, op := Go.Op.call { callee := Go.Callee.value (Go.Operand.func 40), args := #[Go.Operand.tmp 48], argTypes := #[74] }, type := 4, pos := "more.go:53", after := #[{ on := 11, ground := Go.Ground.data }, { on := 10, ground := Go.Ground.chain }, { on := 8, ground := Go.Ground.guard }], guard := some (8, true) }) rfl (fun K hK => ?_) AllReadyH.nil
    go_simp
    refine (group_any m0 m1 m2 m3 m4 m5 _).mono ?_
    rintro e w8 ⟨rfl, hx8⟩
    rw [← HBM.out]
    have hS8 := hS7.trans hx8
    refine hK.out _ _ hS8 (fun _ => ?_)
    refine wpAnyH_take (i := 13) (oi := { dst := some 50, op := Go.Op.binOp Go.BinOp.neq 4 (Go.Operand.tmp 47) (Go.Operand.tmp 49) 4, type := 4, pos := "more.go:53", after := #[{ on := 10, ground := Go.Ground.data }, { on := 12, ground := Go.Ground.data }, { on := 8, ground := Go.Ground.guard }], guard := some (8, true) }) (v := ?v10) rfl (by kernel_rfl) (by kernel_rfl) (by kernel_rfl) (fun _ _ _ h => h) (Or.inl ⟨by rfl, ?hy10⟩) (by assumption) ?rest10
    case hy10 => (intro w hSw; (try dsimp only at hSw); have em0 := hSw.cell Cm0 id; have em1 := hSw.cell Cm1 id; have em2 := hSw.cell Cm2 id; have em3 := hSw.cell Cm3 id; have em4 := hSw.cell Cm4 id; have em5 := hSw.cell Cm5 id; have ex0 := hSw.cell Cx0 id; have ex1 := hSw.cell Cx1 id; have ex2 := hSw.cell Cx2 id; have ex3 := hSw.cell Cx3 id; have ex4 := hSw.cell Cx4 id; have ex5 := hSw.cell Cx5 id; have ey0 := hSw.cell Cy0 id; have ey1 := hSw.cell Cy1 id; have ey2 := hSw.cell Cy2 id; have ey3 := hSw.cell Cy3 id; have ey4 := hSw.cell Cy4 id; have ey5 := hSw.cell Cy5 id; have ea0 := hSw.cell Ca0 id; have ea1 := hSw.cell Ca1 id; have ea2 := hSw.cell Ca2 id; have ea3 := hSw.cell Ca3 id; have ea4 := hSw.cell Ca4 id; have ea5 := hSw.cell Ca5 id; go_simp <;> with_reducible rfl)
    try simp only [Act.put, List.setIfInBounds_toArray, List.set_cons_zero, List.set_cons_succ]
    refine wpAnyH_take (i := 14) (oi := { dst := some 51, op := Go.Op.pick (Go.Operand.tmp 45) (Go.Operand.tmp 50) (Go.Operand.const (Go.Value.bool false)), type := 4, pos := "more.go:53", after := #[{ on := 8, ground := Go.Ground.data }, { on := 13, ground := Go.Ground.data }], guard := none }) (v := ?v11) rfl (by kernel_rfl) (by kernel_rfl) (by kernel_rfl) (fun _ _ _ h => h) (Or.inl ⟨by rfl, ?hy11⟩) (by assumption) ?rest11
    case hy11 => (intro w hSw; (try dsimp only at hSw); have em0 := hSw.cell Cm0 id; have em1 := hSw.cell Cm1 id; have em2 := hSw.cell Cm2 id; have em3 := hSw.cell Cm3 id; have em4 := hSw.cell Cm4 id; have em5 := hSw.cell Cm5 id; have ex0 := hSw.cell Cx0 id; have ex1 := hSw.cell Cx1 id; have ex2 := hSw.cell Cx2 id; have ex3 := hSw.cell Cx3 id; have ex4 := hSw.cell Cx4 id; have ex5 := hSw.cell Cx5 id; have ey0 := hSw.cell Cy0 id; have ey1 := hSw.cell Cy1 id; have ey2 := hSw.cell Cy2 id; have ey3 := hSw.cell Cy3 id; have ey4 := hSw.cell Cy4 id; have ey5 := hSw.cell Cy5 id; have ea0 := hSw.cell Ca0 id; have ea1 := hSw.cell Ca1 id; have ea2 := hSw.cell Ca2 id; have ea3 := hSw.cell Ca3 id; have ea4 := hSw.cell Ca4 id; have ea5 := hSw.cell Ca5 id; go_simp <;> with_reducible rfl)
    try simp only [Act.put, List.setIfInBounds_toArray, List.set_cons_zero, List.set_cons_succ]
    refine wpAnyH_take (i := 15) (oi := { dst := some 52, op := Go.Op.move (Go.Operand.tmp 51), type := 4, pos := "more.go:53", after := #[{ on := 14, ground := Go.Ground.data }, { on := 12, ground := Go.Ground.chain }], guard := none }) (v := ?v12) rfl (by kernel_rfl) (by kernel_rfl) (by kernel_rfl) (fun _ _ _ h => h) (Or.inl ⟨by rfl, ?hy12⟩) (by assumption) ?rest12
    case hy12 => (intro w hSw; (try dsimp only at hSw); have em0 := hSw.cell Cm0 id; have em1 := hSw.cell Cm1 id; have em2 := hSw.cell Cm2 id; have em3 := hSw.cell Cm3 id; have em4 := hSw.cell Cm4 id; have em5 := hSw.cell Cm5 id; have ex0 := hSw.cell Cx0 id; have ex1 := hSw.cell Cx1 id; have ex2 := hSw.cell Cx2 id; have ex3 := hSw.cell Cx3 id; have ex4 := hSw.cell Cx4 id; have ex5 := hSw.cell Cx5 id; have ey0 := hSw.cell Cy0 id; have ey1 := hSw.cell Cy1 id; have ey2 := hSw.cell Cy2 id; have ey3 := hSw.cell Cy3 id; have ey4 := hSw.cell Cy4 id; have ey5 := hSw.cell Cy5 id; have ea0 := hSw.cell Ca0 id; have ea1 := hSw.cell Ca1 id; have ea2 := hSw.cell Ca2 id; have ea3 := hSw.cell Ca3 id; have ea4 := hSw.cell Ca4 id; have ea5 := hSw.cell Ca5 id; go_simp <;> with_reducible rfl)
    try simp only [Act.put, List.setIfInBounds_toArray, List.set_cons_zero, List.set_cons_succ]
    refine wpAnyH_take (i := 16) (oi := { dst := some 53, op := Go.Op.load 74 (Go.Operand.global 0), type := 74, pos := "more.go:53", after := #[{ on := 15, ground := Go.Ground.guard }], guard := some (15, true) }) (v := ?v13) rfl (by kernel_rfl) (by kernel_rfl) (by kernel_rfl) (fun _ _ _ h => h) (Or.inl ⟨by rfl, ?hy13⟩) (by assumption) ?rest13
    case hy13 => (intro w hSw; (try dsimp only at hSw); have em0 := hSw.cell Cm0 id; have em1 := hSw.cell Cm1 id; have em2 := hSw.cell Cm2 id; have em3 := hSw.cell Cm3 id; have em4 := hSw.cell Cm4 id; have em5 := hSw.cell Cm5 id; have ex0 := hSw.cell Cx0 id; have ex1 := hSw.cell Cx1 id; have ex2 := hSw.cell Cx2 id; have ex3 := hSw.cell Cx3 id; have ex4 := hSw.cell Cx4 id; have ex5 := hSw.cell Cx5 id; have ey0 := hSw.cell Cy0 id; have ey1 := hSw.cell Cy1 id; have ey2 := hSw.cell Cy2 id; have ey3 := hSw.cell Cy3 id; have ey4 := hSw.cell Cy4 id; have ey5 := hSw.cell Cy5 id; have ea0 := hSw.cell Ca0 id; have ea1 := hSw.cell Ca1 id; have ea2 := hSw.cell Ca2 id; have ea3 := hSw.cell Ca3 id; have ea4 := hSw.cell Ca4 id; have ea5 := hSw.cell Ca5 id; go_simp <;> with_reducible rfl)
    try simp only [Act.put, List.setIfInBounds_toArray, List.set_cons_zero, List.set_cons_succ]
    refine wpAnyH_ready (rs := [17]) (by kernel_rfl) (by simp) ?_
    refine AllReadyH.cons (o := { dst := some 54, op := Go.Op.call { callee := Go.Callee.value (Go.Operand.func 40), args := #[Go.Operand.tmp 53], argTypes := #[74] }, type := 4, pos := "more.go:53", after := #[{ on := 16, ground := Go.Ground.data }, { on := 15, ground := Go.Ground.chain }, { on := 15, ground := Go.Ground.guard }], guard := some (15, true) }) rfl (fun K hK => ?_) AllReadyH.nil
    go_simp
    refine (group_any 255 255 255 255 255 255 _).mono ?_
    rintro e w9 ⟨rfl, hx9⟩
    rw [p3]
    have hS9 := hS8.trans hx9
    refine hK.out _ _ hS9 (fun _ => ?_)
    refine wpAnyH_take (i := 18) (oi := { dst := some 55, op := Go.Op.pick (Go.Operand.tmp 52) (Go.Operand.tmp 54) (Go.Operand.const (Go.Value.bool false)), type := 4, pos := "more.go:53", after := #[{ on := 15, ground := Go.Ground.data }, { on := 17, ground := Go.Ground.data }], guard := none }) (v := ?v14) rfl (by kernel_rfl) (by kernel_rfl) (by kernel_rfl) (fun _ _ _ h => h) (Or.inl ⟨by rfl, ?hy14⟩) (by assumption) ?rest14
    case hy14 => (intro w hSw; (try dsimp only at hSw); have em0 := hSw.cell Cm0 id; have em1 := hSw.cell Cm1 id; have em2 := hSw.cell Cm2 id; have em3 := hSw.cell Cm3 id; have em4 := hSw.cell Cm4 id; have em5 := hSw.cell Cm5 id; have ex0 := hSw.cell Cx0 id; have ex1 := hSw.cell Cx1 id; have ex2 := hSw.cell Cx2 id; have ex3 := hSw.cell Cx3 id; have ex4 := hSw.cell Cx4 id; have ex5 := hSw.cell Cx5 id; have ey0 := hSw.cell Cy0 id; have ey1 := hSw.cell Cy1 id; have ey2 := hSw.cell Cy2 id; have ey3 := hSw.cell Cy3 id; have ey4 := hSw.cell Cy4 id; have ey5 := hSw.cell Cy5 id; have ea0 := hSw.cell Ca0 id; have ea1 := hSw.cell Ca1 id; have ea2 := hSw.cell Ca2 id; have ea3 := hSw.cell Ca3 id; have ea4 := hSw.cell Ca4 id; have ea5 := hSw.cell Ca5 id; go_simp <;> with_reducible rfl)
    try simp only [Act.put, List.setIfInBounds_toArray, List.set_cons_zero, List.set_cons_succ]
    refine wpAnyH_take (i := 19) (oi := { dst := some 4, op := Go.Op.assign (Go.Operand.tmp 55), type := 4, pos := "more.go:53", after := #[{ on := 18, ground := Go.Ground.data }, { on := 17, ground := Go.Ground.chain }, { on := 0, ground := Go.Ground.phase }, { on := 1, ground := Go.Ground.phase }, { on := 2, ground := Go.Ground.phase }, { on := 3, ground := Go.Ground.phase }, { on := 4, ground := Go.Ground.phase }, { on := 5, ground := Go.Ground.phase }, { on := 6, ground := Go.Ground.phase }, { on := 7, ground := Go.Ground.phase }, { on := 8, ground := Go.Ground.phase }, { on := 9, ground := Go.Ground.phase }, { on := 10, ground := Go.Ground.phase }, { on := 11, ground := Go.Ground.phase }, { on := 12, ground := Go.Ground.phase }, { on := 13, ground := Go.Ground.phase }, { on := 14, ground := Go.Ground.phase }, { on := 15, ground := Go.Ground.phase }, { on := 16, ground := Go.Ground.phase }, { on := 17, ground := Go.Ground.phase }, { on := 18, ground := Go.Ground.phase }], guard := none }) (v := ?v15) rfl (by kernel_rfl) (by kernel_rfl) (by kernel_rfl) (fun _ _ _ h => h) (Or.inl ⟨by rfl, ?hy15⟩) (by assumption) ?rest15
    case hy15 => (intro w hSw; (try dsimp only at hSw); have em0 := hSw.cell Cm0 id; have em1 := hSw.cell Cm1 id; have em2 := hSw.cell Cm2 id; have em3 := hSw.cell Cm3 id; have em4 := hSw.cell Cm4 id; have em5 := hSw.cell Cm5 id; have ex0 := hSw.cell Cx0 id; have ex1 := hSw.cell Cx1 id; have ex2 := hSw.cell Cx2 id; have ex3 := hSw.cell Cx3 id; have ex4 := hSw.cell Cx4 id; have ex5 := hSw.cell Cx5 id; have ey0 := hSw.cell Cy0 id; have ey1 := hSw.cell Cy1 id; have ey2 := hSw.cell Cy2 id; have ey3 := hSw.cell Cy3 id; have ey4 := hSw.cell Cy4 id; have ey5 := hSw.cell Cy5 id; have ea0 := hSw.cell Ca0 id; have ea1 := hSw.cell Ca1 id; have ea2 := hSw.cell Ca2 id; have ea3 := hSw.cell Ca3 id; have ea4 := hSw.cell Ca4 id; have ea5 := hSw.cell Ca5 id; go_simp <;> with_reducible rfl)
    try simp only [Act.put, List.setIfInBounds_toArray, List.set_cons_zero, List.set_cons_succ]
    refine wpAnyH_done (by kernel_rfl) ?_ _
    go_wp2
    go_ret
    exact ⟨rfl, HX4.out.trans hS9⟩
end Go.Proofs.YtkgieciamophkaaDoor
