/-
  The walk of EtherBack. By an AI agent.
-/
import Derived.Test.YtkgieciamophkaaDoorShown03
import Derived.Test.YtkgieciamophkaaDoorBackFr
import Derived.Deep.RegionHeld
import Derived.Deep.DeepCutAuto
import Derived.Deep.CutBlock
namespace Go.Proofs.YtkgieciamophkaaDoor
open Go.RowKit

set_option maxRecDepth 100000 in
set_option maxHeartbeats 8000000 in
theorem back3_any (l : List UInt8) (Ab : Option Addr) (n cb : Nat) (f : Fr) (A : Option Addr) (c : Nat) (w : World) (hrb : RB w (fun _ => True) (.slice Ab n cb) l) (hz : Ab = none → cb = 0) (ok : f.ok) (hr : RB w (fun _ => True) (.slice A f.b.length c) f.b) (hg : ET w) (hal : AL w) :
    Calls Tryd.prog 10 #[.slice Ab n cb, frv f (.slice A f.b.length c)] w fun e w' => e = .returned (.bool true) ∧ Ex (fun _ => False) w w' := by
  have HG := Lib.hid hg
  have HAL := Lib.hid hal
  clear hg hal
  obtain rfl : n = l.length := by obtain ⟨_, _, _, e, _⟩ := hrb; injection e
  obtain ⟨fd, fs, vl, ty, b⟩ := f
  obtain ⟨h1, h2, h3, h4, h5⟩ := ok
  simp only at h1 h2 h3 h4 h5 hr
  obtain ⟨d0, d1, d2, d3, d4, d5, rfl⟩ := six_is h1
  obtain ⟨s0, s1, s2, s3, s4, s5, rfl⟩ := six_is h2
  obtain ⟨l1, hk, hk1, hk2000, hl1⟩ : ∃ l1 : List UInt8, (if 10000 < (l.length : Int) then (10000 : Int) else (l.length : Int)) = (l1.length : Int) ∧ l1.length ≤ l.length ∧ l1.length ≤ 10000 ∧ Hid (l1 = l.take 10000) := by
    refine ⟨l.take 10000, ?_, by simp; omega, by simp; omega, rfl⟩
    rw [List.length_take]; split <;> omega
  have hki : (l1.length : Int) ≤ (l.length : Int) := by omega
  have hlc : l.length ≤ cb := by obtain ⟨_, _, _, e, h, _⟩ := hrb; injection e with _ _ e3; rw [e3]; exact h
  have hkc : l1.length ≤ cb := by omega
  have hrb1 := hrb.take 10000
  rw [← hl1.out] at hrb1
  have HRB := Lib.hid hrb1
  have HZ := Lib.hid hz
  clear hrb hrb1 hz
  obtain ⟨l2, hm, hm1, hm2000, hl2⟩ : ∃ l2 : List UInt8, (if 10000 < (b.length : Int) then (10000 : Int) else (b.length : Int)) = (l2.length : Int) ∧ l2.length ≤ b.length ∧ l2.length ≤ 10000 ∧ Hid (l2 = b.take 10000) := by
    refine ⟨b.take 10000, ?_, by simp; omega, by simp; omega, rfl⟩
    rw [List.length_take]; split <;> omega
  have hmi : (l2.length : Int) ≤ (b.length : Int) := by omega
  have hbc : b.length ≤ c := by obtain ⟨_, _, _, e, h, _⟩ := hr; injection e with _ _ e3; rw [e3]; exact h
  have hmc : l2.length ≤ c := by omega
  have hr1 := hr.take 10000
  rw [← hl2.out] at hr1
  have HR1 := Lib.hid hr1
  clear hr hr1
  have OK1 : Hid (Fr.ok ⟨[d0, d1, d2, d3, d4, d5], [s0, s1, s2, s3, s4, s5], vl, ty, l2⟩) := Lib.hid ⟨rfl, rfl, h3, h4, h5⟩
  clear h1 h2
  show Calls Tryd.prog 10 #[.slice Ab l.length cb, .agg #[.int .u8 (d0.toNat : Int), .int .u8 (d1.toNat : Int), .int .u8 (d2.toNat : Int), .int .u8 (d3.toNat : Int), .int .u8 (d4.toNat : Int), .int .u8 (d5.toNat : Int), .int .u8 (s0.toNat : Int), .int .u8 (s1.toNat : Int), .int .u8 (s2.toNat : Int), .int .u8 (s3.toNat : Int), .int .u8 (s4.toNat : Int), .int .u8 (s5.toNat : Int), .int .i64 vl, .int .u16 (ty : Int), .slice A b.length c]] w _
  go_enter Tryd.func10, Tryd.ntmps10
  go_upto_region 1 with fail
  have hx0 : Ex (fun _ => False) w (w.alloc (.cells #[.int .u8 (d0.toNat : Int), .int .u8 (d1.toNat : Int), .int .u8 (d2.toNat : Int), .int .u8 (d3.toNat : Int), .int .u8 (d4.toNat : Int), .int .u8 (d5.toNat : Int), .int .u8 (s0.toNat : Int), .int .u8 (s1.toNat : Int), .int .u8 (s2.toNat : Int), .int .u8 (s3.toNat : Int), .int .u8 (s4.toNat : Int), .int .u8 (s5.toNat : Int), .int .i64 vl, .int .u16 (ty : Int), .slice A b.length c] 76)) := (Ex.refl _ w).alloc _
  have hb0 : (w.alloc (.cells #[.int .u8 (d0.toNat : Int), .int .u8 (d1.toNat : Int), .int .u8 (d2.toNat : Int), .int .u8 (d3.toNat : Int), .int .u8 (d4.toNat : Int), .int .u8 (d5.toNat : Int), .int .u8 (s0.toNat : Int), .int .u8 (s1.toNat : Int), .int .u8 (s2.toNat : Int), .int .u8 (s3.toNat : Int), .int .u8 (s4.toNat : Int), .int .u8 (s5.toNat : Int), .int .i64 vl, .int .u16 (ty : Int), .slice A b.length c] 76)).heap[w.heap.size]? = some (.cells #[.int .u8 (d0.toNat : Int), .int .u8 (d1.toNat : Int), .int .u8 (d2.toNat : Int), .int .u8 (d3.toNat : Int), .int .u8 (d4.toNat : Int), .int .u8 (d5.toNat : Int), .int .u8 (s0.toNat : Int), .int .u8 (s1.toNat : Int), .int .u8 (s2.toNat : Int), .int .u8 (s3.toNat : Int), .int .u8 (s4.toNat : Int), .int .u8 (s5.toNat : Int), .int .i64 vl, .int .u16 (ty : Int), .slice A b.length c] 76) := heap_alloc_new w _
  generalize w.alloc (.cells #[.int .u8 (d0.toNat : Int), .int .u8 (d1.toNat : Int), .int .u8 (d2.toNat : Int), .int .u8 (d3.toNat : Int), .int .u8 (d4.toNat : Int), .int .u8 (d5.toNat : Int), .int .u8 (s0.toNat : Int), .int .u8 (s1.toNat : Int), .int .u8 (s2.toNat : Int), .int .u8 (s3.toNat : Int), .int .u8 (s4.toNat : Int), .int .u8 (s5.toNat : Int), .int .i64 vl, .int .u16 (ty : Int), .slice A b.length c] 76) = w1 at hx0 hb0 ⊢
  obtain ⟨fb, hfb⟩ : ∃ fb, fb = w.heap.size := ⟨_, rfl⟩
  rw [← hfb] at hb0
  try simp only [← hfb]
  have hfb1 : w.heap.size ≤ fb := by omega
  clear hfb
  have HB0 := Lib.hid hb0
  have HX0 := Lib.hid hx0
  clear hb0 hx0
  go_wp2_with fail
  refine (shown3_any w1 (HG.out.keep HX0.out id) (HAL.out.keep HX0.out id)).mono ?_
  rintro e w2 ⟨rfl, hx2⟩
  have HB2 := Lib.hid ((hx2.block fb (row_lt HB0.out) id).trans HB0.out)
  have HX2 := Lib.hid (HX0.out.trans hx2)
  clear hx2 HB0 HX0
  go_upto_region 3 with fail
  go_wp2_with fail
  refine (parse_any _ Ab l1.length cb l1 w2 (HRB.out.keep HX2.out (fun _ _ _ => id)) HZ.out (by omega)).mono ?_
  rintro e w3 ⟨hx3, hcase⟩
  obtain ⟨e0, e1, e2, e3, e4, e5, g0, g1, g2, g3, g4, g5, vx, tx, bx, Ax, ev, rfl, hR⟩ : ∃ (e0 e1 e2 e3 e4 e5 g0 g1 g2 g3 g4 g5 : UInt8) (vx : Int) (tx : Nat) (bx : List UInt8) (Ax : Option Addr) (ev : Value), e = .returned (.tuple #[.agg #[.int .u8 (e0.toNat : Int), .int .u8 (e1.toNat : Int), .int .u8 (e2.toNat : Int), .int .u8 (e3.toNat : Int), .int .u8 (e4.toNat : Int), .int .u8 (e5.toNat : Int), .int .u8 (g0.toNat : Int), .int .u8 (g1.toNat : Int), .int .u8 (g2.toNat : Int), .int .u8 (g3.toNat : Int), .int .u8 (g4.toNat : Int), .int .u8 (g5.toNat : Int), .int .i64 vx, .int .u16 (tx : Int), .slice Ax bx.length bx.length], ev]) ∧ Hid (((∃ t y, ev = .iface t y) ∧ (l1.length ≤ 9000 → pframe l1 = none)) ∨ (ev = .nilIface ∧ l1.length ≤ 9000 ∧ pframe l1 = some ⟨[e0, e1, e2, e3, e4, e5], [g0, g1, g2, g3, g4, g5], vx, tx, bx⟩ ∧ RB w3 (fun _ => True) (.slice Ax bx.length bx.length) bx)) := by
    rcases hcase with ⟨h, v, h1, h2⟩ | ⟨_, h, v, h1, h2⟩ | ⟨h, f, A', g, o, h1, h2, _, h3, _⟩
    · exact ⟨0, 0, 0, 0, 0, 0, 0, 0, 0, 0, 0, 0, 0, 0, [], none, v, h1, .inl ⟨h2.shape, fun h' => by omega⟩⟩
    · exact ⟨0, 0, 0, 0, 0, 0, 0, 0, 0, 0, 0, 0, 0, 0, [], none, v, h1, .inl ⟨h2.shape, fun _ => h⟩⟩
    · obtain ⟨_, fok, _⟩ := fbytes_pframe h1
      obtain ⟨xd, xs, xv, xt, xb⟩ := f
      obtain ⟨k1, k2, _, _, _⟩ := fok
      simp only at k1 k2
      obtain ⟨e0, e1, e2, e3, e4, e5, rfl⟩ := six_is k1
      obtain ⟨g0, g1, g2, g3, g4, g5, rfl⟩ := six_is k2
      exact ⟨e0, e1, e2, e3, e4, e5, g0, g1, g2, g3, g4, g5, xv, xt, xb, A', .nilIface, h2, .inr ⟨rfl, h, h1, h3.any⟩⟩
  clear hcase
  have HX3 := Lib.hid (HX2.out.trans hx3)
  have HB3 := Lib.hid ((hx3.block fb (row_lt HB2.out) id).trans HB2.out)
  clear hx3
  go_upto_region 4 with fail
  have hx4 : Ex (fun _ => False) w3 (w3.alloc (.cells #[.int .u8 (e0.toNat : Int), .int .u8 (e1.toNat : Int), .int .u8 (e2.toNat : Int), .int .u8 (e3.toNat : Int), .int .u8 (e4.toNat : Int), .int .u8 (e5.toNat : Int), .int .u8 (g0.toNat : Int), .int .u8 (g1.toNat : Int), .int .u8 (g2.toNat : Int), .int .u8 (g3.toNat : Int), .int .u8 (g4.toNat : Int), .int .u8 (g5.toNat : Int), .int .i64 vx, .int .u16 (tx : Int), .slice Ax bx.length bx.length] 76)) := (Ex.refl _ w3).alloc _
  have hbx : (w3.alloc (.cells #[.int .u8 (e0.toNat : Int), .int .u8 (e1.toNat : Int), .int .u8 (e2.toNat : Int), .int .u8 (e3.toNat : Int), .int .u8 (e4.toNat : Int), .int .u8 (e5.toNat : Int), .int .u8 (g0.toNat : Int), .int .u8 (g1.toNat : Int), .int .u8 (g2.toNat : Int), .int .u8 (g3.toNat : Int), .int .u8 (g4.toNat : Int), .int .u8 (g5.toNat : Int), .int .i64 vx, .int .u16 (tx : Int), .slice Ax bx.length bx.length] 76)).heap[w3.heap.size]? = some (.cells #[.int .u8 (e0.toNat : Int), .int .u8 (e1.toNat : Int), .int .u8 (e2.toNat : Int), .int .u8 (e3.toNat : Int), .int .u8 (e4.toNat : Int), .int .u8 (e5.toNat : Int), .int .u8 (g0.toNat : Int), .int .u8 (g1.toNat : Int), .int .u8 (g2.toNat : Int), .int .u8 (g3.toNat : Int), .int .u8 (g4.toNat : Int), .int .u8 (g5.toNat : Int), .int .i64 vx, .int .u16 (tx : Int), .slice Ax bx.length bx.length] 76) := heap_alloc_new w3 _
  generalize w3.alloc (.cells #[.int .u8 (e0.toNat : Int), .int .u8 (e1.toNat : Int), .int .u8 (e2.toNat : Int), .int .u8 (e3.toNat : Int), .int .u8 (e4.toNat : Int), .int .u8 (e5.toNat : Int), .int .u8 (g0.toNat : Int), .int .u8 (g1.toNat : Int), .int .u8 (g2.toNat : Int), .int .u8 (g3.toNat : Int), .int .u8 (g4.toNat : Int), .int .u8 (g5.toNat : Int), .int .i64 vx, .int .u16 (tx : Int), .slice Ax bx.length bx.length] 76) = w4 at hx4 hbx ⊢
  obtain ⟨xb, hxb⟩ : ∃ xb, xb = w3.heap.size := ⟨_, rfl⟩
  rw [← hxb] at hbx
  try simp only [← hxb]
  have hfx : fb < xb := by have := row_lt HB3.out; omega
  clear hxb
  have HX4 := Lib.hid (HX3.out.trans hx4)
  have HB4 := Lib.hid ((hx4.block fb (row_lt HB3.out) id).trans HB3.out)
  have HBX := Lib.hid hbx
  have HR4 : Hid (((∃ t y, ev = .iface t y) ∧ (l1.length ≤ 9000 → pframe l1 = none)) ∨ (ev = .nilIface ∧ l1.length ≤ 9000 ∧ pframe l1 = some ⟨[e0, e1, e2, e3, e4, e5], [g0, g1, g2, g3, g4, g5], vx, tx, bx⟩ ∧ RB w4 (fun _ => True) (.slice Ax bx.length bx.length) bx)) := by
    rcases hR.out with h | ⟨h1, h2, h3, h4⟩
    · exact .inl h
    · exact .inr ⟨h1, h2, h3, h4.keep hx4 (fun _ _ _ => id)⟩
  have HRB4 := Lib.hid (HRB.out.keep HX4.out (fun _ _ _ => id))
  clear hx4 hbx hR HB3 HX3 HB2 HX2
  -- is there a tag
  obtain ⟨tg, htg⟩ : ∃ tg, tg = tagB l1 := ⟨_, rfl⟩
  have HTG := Lib.hid htg
  clear htg
  go_cut [8] (fun x wx => x = .bool tg ∧ wx = w4)
  case first =>
    by_cases h14 : 14 ≤ l1.length
    · obtain ⟨bb, off, rfl, c12, c13⟩ : ∃ bb off, Ab = some ⟨bb, off, none⟩ ∧ w4.cell? ⟨bb, off + 12, none⟩ = some (.int .u8 ((l1[12]'(by omega)).toNat : Int)) ∧ w4.cell? ⟨bb, off + 13, none⟩ = some (.int .u8 ((l1[13]'(by omega)).toNat : Int)) := by
        obtain ⟨_, A', c', e, _, hc⟩ := HRB4.out
        injection e with e1 _ _
        obtain ⟨bb, off, h1, _, h2⟩ := hc 12 (by omega)
        obtain ⟨bb', off', h1', _, h2'⟩ := hc 13 (by omega)
        rw [h1] at h1'
        injection h1' with h1'
        injection h1' with i1 i2
        subst i1 i2
        exact ⟨bb, off, e1.trans h1, h2, h2'⟩
      have g12 : l1.getD 12 0 = l1[12]'(by omega) := by simp [List.getD, show 12 < l1.length by omega]
      have g13 : l1.getD 13 0 = l1[13]'(by omega) := by simp [List.getD, show 13 < l1.length by omega]
      have ht := HTG.out
      unfold tagB at ht
      rw [decide_eq_true h14, Bool.true_and, g12, g13] at ht
      generalize (l1[12]'(by omega)).toNat = x12 at c12 ht
      generalize (l1[13]'(by omega)).toNat = x13 at c13 ht
      clear g12 g13
      have h14i : (14 : Int) ≤ (l1.length : Int) := by omega
      have h12i : (12 : Int) < (l1.length : Int) := by omega
      have h13i : (13 : Int) < (l1.length : Int) := by omega
      by_cases k12 : x12 = 129
      · have e12 : ((x12 : Int) == 129) = true := by simp; omega
        by_cases k13 : x13 = 0
        · have e13 : ((x13 : Int) == 0) = true := by simp; omega
          have HT : Hid (tg = true) := by rw [ht]; exact Lib.hid (by simp [k12, k13])
          clear ht k12 k13
          go_wp2_with fail
          go_meet
          exact ⟨by rw [HT.out], rfl⟩
        · have e13 : ((x13 : Int) == 0) = false := by simp; omega
          have HT : Hid (tg = false) := by rw [ht]; exact Lib.hid (by simp [k13])
          clear ht k12 k13
          go_wp2_with fail
          go_meet
          exact ⟨by rw [HT.out], rfl⟩
      · have e12 : ((x12 : Int) == 129) = false := by simp; omega
        have HT : Hid (tg = false) := by rw [ht]; exact Lib.hid (by simp [k12])
        clear ht k12
        go_wp2_with fail
        go_meet
        exact ⟨by rw [HT.out], rfl⟩
    · have h14i : ¬ (14 : Int) ≤ (l1.length : Int) := by omega
      have HT : Hid (tg = false) := by
        have := HTG.out
        unfold tagB at this
        rw [decide_eq_false h14, Bool.false_and] at this
        exact Lib.hid this
      clear h14
      go_wp2_with fail
      go_meet
      exact ⟨by rw [HT.out], rfl⟩
  case rest =>
    obtain ⟨rfl, hwc⟩ := hcut; replace hwc := hwc.symm; subst hwc
    obtain ⟨rt, hrt⟩ : ∃ rt, rt = (decide (l1.length ≤ 9000) && (decide (18 ≤ l1.length) || (decide (14 ≤ l1.length) && !tg))) := ⟨_, rfl⟩
    have HRT := Lib.hid hrt
    clear hrt
    go_upto_region 5 with fail
    go_cut [9] (fun x wx => x = .bool rt ∧ wx = w4)
    case first =>
      by_cases h9 : l1.length ≤ 9000
      · have i9 : (l1.length : Int) ≤ 9000 := by omega
        by_cases h18 : 18 ≤ l1.length
        · have i18 : (18 : Int) ≤ (l1.length : Int) := by omega
          have HT : Hid (rt = true) := by rw [HRT.out, decide_eq_true h9, decide_eq_true h18]; exact Lib.hid rfl
          go_wp2_with fail
          go_meet
          exact ⟨by rw [HT.out], rfl⟩
        · have i18 : ¬ (18 : Int) ≤ (l1.length : Int) := by omega
          by_cases h14 : 14 ≤ l1.length
          · have i14 : (14 : Int) ≤ (l1.length : Int) := by omega
            have HT : Hid (rt = !tg) := by rw [HRT.out, decide_eq_true h9, decide_eq_false h18, decide_eq_true h14]; exact Lib.hid (by simp)
            go_wp2_with fail
            go_meet
            exact ⟨by rw [HT.out], rfl⟩
          · have i14 : ¬ (14 : Int) ≤ (l1.length : Int) := by omega
            have HT : Hid (rt = false) := by rw [HRT.out, decide_eq_true h9, decide_eq_false h18, decide_eq_false h14]; exact Lib.hid (by simp)
            go_wp2_with fail
            go_meet
            exact ⟨by rw [HT.out], rfl⟩
      · have i9 : ¬ (l1.length : Int) ≤ 9000 := by omega
        have HT : Hid (rt = false) := by rw [HRT.out, decide_eq_false h9]; exact Lib.hid rfl
        go_wp2_with fail
        go_meet
        exact ⟨by rw [HT.out], rfl⟩
    case rest =>
      obtain ⟨rfl, hwc⟩ := hcut; replace hwc := hwc.symm; subst hwc
      have HR5 : Hid (((∃ t y, ev = .iface t y) ∧ rt = false) ∨ (ev = .nilIface ∧ rt = true ∧ l1.length ≤ 9000 ∧ pframe l1 = some ⟨[e0, e1, e2, e3, e4, e5], [g0, g1, g2, g3, g4, g5], vx, tx, bx⟩ ∧ RB w4 (fun _ => True) (.slice Ax bx.length bx.length) bx)) := by
        have hps := pframe_isSome l1
        rw [← HTG.out] at hps
        rcases HR4.out with ⟨h1, h2⟩ | ⟨h1, h2, h3, h4⟩
        · refine .inl ⟨h1, ?_⟩
          rw [HRT.out]
          by_cases h9 : l1.length ≤ 9000
          · rw [h2 h9] at hps
            rw [← hps, Option.isSome_none, Bool.and_false]
          · rw [decide_eq_false h9, Bool.false_and]
        · refine .inr ⟨h1, ?_, h2, h3, h4⟩
          rw [h3] at hps
          rw [HRT.out, ← hps, decide_eq_true h2]
          rfl
      clear HR4 HRT
      go_upto_region 6 with fail
      go_cut [62] (fun x wx => x = .bool false ∧ wx = w4)
      case first =>
        rcases HR5.out with ⟨⟨t, y, rfl⟩, rfl⟩ | ⟨rfl, rfl, _⟩
        · go_wp2_with fail
          go_meet
          exact ⟨rfl, rfl⟩
        · go_wp2_with fail
          go_meet
          exact ⟨rfl, rfl⟩
      case rest =>
        obtain ⟨rfl, hwc⟩ := hcut; replace hwc := hwc.symm; subst hwc
        go_upto_region 8 with fail
        go_cut [64] (fun x wx => x = .bool rt ∧ wx = w4)
        case first =>
          rcases HR5.out with ⟨⟨t, y, rfl⟩, rfl⟩ | ⟨rfl, rfl, _⟩
          · go_wp2_with fail
            go_meet
            exact ⟨rfl, rfl⟩
          · go_wp2_with fail
            go_meet
            exact ⟨rfl, rfl⟩
        case rest =>
          obtain ⟨rfl, hwc⟩ := hcut; replace hwc := hwc.symm; subst hwc
          go_upto_if 64 with fail
          go_cut [10] (fun _ wx => Hid (Ex (fun _ => False) w4 wx))
          case first =>
            rcases HR5.out with ⟨⟨t, y, rfl⟩, rfl⟩ | ⟨rfl, rfl, hl9, hpf, hbx⟩
            · go_wp2_with fail
              go_meet
              exact Lib.hid (Ex.refl _ _)
            · obtain ⟨hfb, okx, nbx⟩ := fbytes_pframe hpf
              have htx := pframe_tag hpf
              simp only at htx
              rw [← HTG.out] at htx
              have HBB := Lib.hid hbx
              have HFB := Lib.hid hfb
              have OKX := Lib.hid okx
              have NBX := Lib.hid nbx
              have hblx : bx.length ≤ 1000000 := by
                have := congrArg List.length hfb
                rw [fbytes_head, List.length_append] at this
                simp only at this
                omega
              clear hbx hfb okx nbx hpf
              have cx0 := row_cell (k := 0) (v := .int .u8 (e0.toNat : Int)) HBX.out rfl
              have cx1 := row_cell (k := 1) (v := .int .u8 (e1.toNat : Int)) HBX.out rfl
              have cx2 := row_cell (k := 2) (v := .int .u8 (e2.toNat : Int)) HBX.out rfl
              have cx3 := row_cell (k := 3) (v := .int .u8 (e3.toNat : Int)) HBX.out rfl
              have cx4 := row_cell (k := 4) (v := .int .u8 (e4.toNat : Int)) HBX.out rfl
              have cx5 := row_cell (k := 5) (v := .int .u8 (e5.toNat : Int)) HBX.out rfl
              have cx6 := row_cell (k := 6) (v := .int .u8 (g0.toNat : Int)) HBX.out rfl
              have cx7 := row_cell (k := 7) (v := .int .u8 (g1.toNat : Int)) HBX.out rfl
              have cx8 := row_cell (k := 8) (v := .int .u8 (g2.toNat : Int)) HBX.out rfl
              have cx9 := row_cell (k := 9) (v := .int .u8 (g3.toNat : Int)) HBX.out rfl
              have cx10 := row_cell (k := 10) (v := .int .u8 (g4.toNat : Int)) HBX.out rfl
              have cx11 := row_cell (k := 11) (v := .int .u8 (g5.toNat : Int)) HBX.out rfl
              have cx12 := row_cell (k := 12) (v := .int .i64 vx) HBX.out rfl
              have cx13 := row_cell (k := 13) (v := .int .u16 (tx : Int)) HBX.out rfl
              have cx14 := row_cell (k := 14) (v := .slice Ax bx.length bx.length) HBX.out rfl
              go_upto_region 9 with fail
              go_wp2_with fail
              refine (fbytes_any _ ⟨[e0, e1, e2, e3, e4, e5], [g0, g1, g2, g3, g4, g5], vx, tx, bx⟩ Ax bx.length bx.length w4 OKX.out HBB.out hblx).mono ?_
              rintro e w5 ⟨hx5, hcase⟩
              obtain ⟨A5, c5, rfl, ho5⟩ : ∃ A' c', e = .returned (.tuple #[.slice (some A') l1.length c', .nilIface]) ∧ OB w5 w4.heap.size (.slice (some A') l1.length c') l1 := by
                rw [HFB.out] at hcase
                rcases hcase with ⟨h, _⟩ | ⟨_, h, _⟩ | ⟨_, _, A', c', h1, h2⟩
                · exact absurd h NBX.out
                · omega
                · exact ⟨A', c', h1, h2⟩
              clear hcase cx0 cx1 cx2 cx3 cx4 cx5 cx6 cx7 cx8 cx9 cx10 cx11 cx12 cx13 cx14
              have hv1 : ∀ W, Ex (fun _ => False) w5 W → (convert 23 9 (.slice (some A5) l1.length c5)).run Tryd.prog W = .ok (.string (bs l1)) W := conv_later ho5.rb.any
              have hv2 : ∀ W, Ex (fun _ => False) w5 W → (convert 23 9 (.slice Ab l1.length cb)).run Tryd.prog W = .ok (.string (bs l1)) W := conv_later (HRB4.out.keep hx5 (fun _ _ _ => id))
              have cx12 := row_cell (k := 12) (v := .int .i64 vx) ((hx5.block xb (row_lt HBX.out) id).trans HBX.out) rfl
              have hv1w := hv1 w5 (Ex.refl _ _)
              have hv2w := hv2 w5 (Ex.refl _ _)
              clear ho5 hv1 hv2
              have HX5 := Lib.hid hx5
              clear hx5
              cases tg with
              | true =>
                have hvx : (0 : Int) ≤ vx := by simpa using htx
                go_wp2_with fail
                go_meet
                exact HX5
              | false =>
                have hvx : ¬ (0 : Int) ≤ vx := by simpa using htx
                go_wp2_with fail
                go_meet
                exact HX5
          case rest =>
            have HXc := Lib.hid (HX4.out.trans hcut.out)
            have HBc := Lib.hid ((hcut.out.block fb (row_lt HB4.out) id).trans HB4.out)
            clear hcut HX4 HB4 HR5 HRB4 HBX HTG
            have c14 := row_cell (k := 14) (v := .slice A b.length c) HBc.out rfl
            have f14 := row_frozen HBc.out 14
            have hb3 := row_set HBc.out 14 (.slice A l2.length c)
            have hx3 : Ex (fun j => j = fb) wc (wc.setCell ⟨fb, 14, none⟩ (.slice A l2.length c)) := (Ex.refl (fun j => j = fb) wc).setCell (p := ⟨fb, 14, none⟩) (.inl rfl) _
            have HB5 : Hid ((wc.setCell ⟨fb, 14, none⟩ (.slice A l2.length c)).heap[fb]? = some (.cells #[.int .u8 (d0.toNat : Int), .int .u8 (d1.toNat : Int), .int .u8 (d2.toNat : Int), .int .u8 (d3.toNat : Int), .int .u8 (d4.toNat : Int), .int .u8 (d5.toNat : Int), .int .u8 (s0.toNat : Int), .int .u8 (s1.toNat : Int), .int .u8 (s2.toNat : Int), .int .u8 (s3.toNat : Int), .int .u8 (s4.toNat : Int), .int .u8 (s5.toNat : Int), .int .i64 vl, .int .u16 (ty : Int), .slice A l2.length c] 76)) := hb3
            have HX5 := Lib.hid (HXc.out.andThen hx3 (fun i hi e => by omega))
            clear hb3 hx3
            go_upto_region 13 with fail
            clear c14 f14 HBc HXc
            generalize wc.setCell ⟨fb, 14, none⟩ (.slice A l2.length c) = w5 at HB5 HX5 ⊢
            have c0 := row_cell (k := 0) (v := .int .u8 (d0.toNat : Int)) HB5.out rfl
            have c1 := row_cell (k := 1) (v := .int .u8 (d1.toNat : Int)) HB5.out rfl
            have c2 := row_cell (k := 2) (v := .int .u8 (d2.toNat : Int)) HB5.out rfl
            have c3 := row_cell (k := 3) (v := .int .u8 (d3.toNat : Int)) HB5.out rfl
            have c4 := row_cell (k := 4) (v := .int .u8 (d4.toNat : Int)) HB5.out rfl
            have c5 := row_cell (k := 5) (v := .int .u8 (d5.toNat : Int)) HB5.out rfl
            have c6 := row_cell (k := 6) (v := .int .u8 (s0.toNat : Int)) HB5.out rfl
            have c7 := row_cell (k := 7) (v := .int .u8 (s1.toNat : Int)) HB5.out rfl
            have c8 := row_cell (k := 8) (v := .int .u8 (s2.toNat : Int)) HB5.out rfl
            have c9 := row_cell (k := 9) (v := .int .u8 (s3.toNat : Int)) HB5.out rfl
            have c10 := row_cell (k := 10) (v := .int .u8 (s4.toNat : Int)) HB5.out rfl
            have c11 := row_cell (k := 11) (v := .int .u8 (s5.toNat : Int)) HB5.out rfl
            have c12 := row_cell (k := 12) (v := .int .i64 vl) HB5.out rfl
            have c13 := row_cell (k := 13) (v := .int .u16 (ty : Int)) HB5.out rfl
            have c14 := row_cell (k := 14) (v := .slice A l2.length c) HB5.out rfl
            go_wp2_with fail
            refine (fbytes_any _ ⟨[d0, d1, d2, d3, d4, d5], [s0, s1, s2, s3, s4, s5], vl, ty, l2⟩ A l2.length c w5 OK1.out (HR1.out.keep HX5.out (fun _ _ _ => id)) (by show l2.length ≤ 1000000; omega)).mono ?_
            rintro e w6 ⟨hx6, hcase⟩
            have HX6 := Lib.hid (HX5.out.trans hx6)
            have HB6 := Lib.hid ((hx6.block fb (row_lt HB5.out) id).trans HB5.out)
            clear hx6 c0 c1 c2 c3 c4 c5 c6 c7 c8 c9 c10 c11 c12 c13 c14
            by_cases hbad : badfr ⟨[d0, d1, d2, d3, d4, d5], [s0, s1, s2, s3, s4, s5], vl, ty, l2⟩ ∨ 9000 < (fbytes ⟨[d0, d1, d2, d3, d4, d5], [s0, s1, s2, s3, s4, s5], vl, ty, l2⟩).length
            · obtain ⟨v6, rfl, ty6, y6, rfl⟩ : ∃ v, e = .returned (.tuple #[.slice none 0 0, v]) ∧ ∃ t y, v = .iface t y := by
                rcases hcase with ⟨_, v, h1, h2⟩ | ⟨_, _, v, h1, h2⟩ | ⟨h1, h2, _⟩
                · exact ⟨v, h1, h2.shape⟩
                · exact ⟨v, h1, h2.shape⟩
                · rcases hbad with h | h
                  · exact absurd h h1
                  · omega
              clear hcase hbad
              go_wp2_with fail
              go_ret
              exact ⟨rfl, HX6.out⟩
            · have hnb : ¬ badfr ⟨[d0, d1, d2, d3, d4, d5], [s0, s1, s2, s3, s4, s5], vl, ty, l2⟩ := fun h => hbad (.inl h)
              have hle : (fbytes ⟨[d0, d1, d2, d3, d4, d5], [s0, s1, s2, s3, s4, s5], vl, ty, l2⟩).length ≤ 9000 := by
                have : ¬ 9000 < (fbytes ⟨[d0, d1, d2, d3, d4, d5], [s0, s1, s2, s3, s4, s5], vl, ty, l2⟩).length := fun h => hbad (.inr h)
                omega
              obtain ⟨A6, c6, rfl, ho6⟩ : ∃ A' c', e = .returned (.tuple #[.slice (some A') (fbytes ⟨[d0, d1, d2, d3, d4, d5], [s0, s1, s2, s3, s4, s5], vl, ty, l2⟩).length c', .nilIface]) ∧ OB w6 w5.heap.size (.slice (some A') (fbytes ⟨[d0, d1, d2, d3, d4, d5], [s0, s1, s2, s3, s4, s5], vl, ty, l2⟩).length c') (fbytes ⟨[d0, d1, d2, d3, d4, d5], [s0, s1, s2, s3, s4, s5], vl, ty, l2⟩) := by
                rcases hcase with ⟨h, _⟩ | ⟨_, h, _⟩ | ⟨_, _, A', c', h1, h2⟩
                · exact absurd (.inl h) hbad
                · exact absurd (.inr h) hbad
                · exact ⟨A', c', h1, h2⟩
              clear hcase hbad
              have hps : pframe (fbytes ⟨[d0, d1, d2, d3, d4, d5], [s0, s1, s2, s3, s4, s5], vl, ty, l2⟩) = some ⟨[d0, d1, d2, d3, d4, d5], [s0, s1, s2, s3, s4, s5], vl, ty, l2⟩ := by
                have := pframe_head OK1.out hnb l2
                rw [fbytes_head]
                exact this
              obtain ⟨M, hM⟩ : ∃ M, M = fbytes ⟨[d0, d1, d2, d3, d4, d5], [s0, s1, s2, s3, s4, s5], vl, ty, l2⟩ := ⟨_, rfl⟩
              rw [← hM] at ho6 hps hle ⊢
              have HO6 := Lib.hid ho6
              have HPS := Lib.hid hps
              clear ho6 hM hps hnb
              go_upto_region 16 with fail
              go_wp2_with fail
              refine (parse_any _ (some A6) M.length c6 M w6 HO6.out.rb.any (fun h => by cases h) (by omega)).mono ?_
              rintro e w7 ⟨hx7, hcase⟩
              obtain ⟨A8, g8, rfl, hb8⟩ : ∃ A' g, e = .returned (.tuple #[frv ⟨[d0, d1, d2, d3, d4, d5], [s0, s1, s2, s3, s4, s5], vl, ty, l2⟩ (.slice A' l2.length l2.length), .nilIface]) ∧ RB w7 (fun j => j = g) (.slice A' l2.length l2.length) l2 := by
                rcases hcase with ⟨h, _⟩ | ⟨_, h, _⟩ | ⟨_, f, A', g, o, h1, h2, _, h3, _⟩
                · omega
                · rw [HPS.out] at h; cases h
                · rw [HPS.out] at h1
                  obtain rfl := Option.some.inj h1
                  exact ⟨A', g, h2, h3⟩
              clear hcase
              have hz : frv ⟨[d0, d1, d2, d3, d4, d5], [s0, s1, s2, s3, s4, s5], vl, ty, l2⟩ (.slice A8 l2.length l2.length) = .agg #[.int .u8 (d0.toNat : Int), .int .u8 (d1.toNat : Int), .int .u8 (d2.toNat : Int), .int .u8 (d3.toNat : Int), .int .u8 (d4.toNat : Int), .int .u8 (d5.toNat : Int), .int .u8 (s0.toNat : Int), .int .u8 (s1.toNat : Int), .int .u8 (s2.toNat : Int), .int .u8 (s3.toNat : Int), .int .u8 (s4.toNat : Int), .int .u8 (s5.toNat : Int), .int .i64 vl, .int .u16 (ty : Int), .slice A8 l2.length l2.length] := rfl
              rw [hz]
              clear hz
              have HX7 := Lib.hid (HX6.out.trans hx7)
              have HB7 := Lib.hid ((hx7.block fb (row_lt HB6.out) id).trans HB6.out)
              have HB8 := Lib.hid hb8
              clear hx7 hb8
              go_upto_region 17 with fail
              have hx8 : Ex (fun _ => False) w7 (w7.alloc (.cells #[.int .u8 (d0.toNat : Int), .int .u8 (d1.toNat : Int), .int .u8 (d2.toNat : Int), .int .u8 (d3.toNat : Int), .int .u8 (d4.toNat : Int), .int .u8 (d5.toNat : Int), .int .u8 (s0.toNat : Int), .int .u8 (s1.toNat : Int), .int .u8 (s2.toNat : Int), .int .u8 (s3.toNat : Int), .int .u8 (s4.toNat : Int), .int .u8 (s5.toNat : Int), .int .i64 vl, .int .u16 (ty : Int), .slice A8 l2.length l2.length] 76)) := (Ex.refl _ w7).alloc _
              have hyb : (w7.alloc (.cells #[.int .u8 (d0.toNat : Int), .int .u8 (d1.toNat : Int), .int .u8 (d2.toNat : Int), .int .u8 (d3.toNat : Int), .int .u8 (d4.toNat : Int), .int .u8 (d5.toNat : Int), .int .u8 (s0.toNat : Int), .int .u8 (s1.toNat : Int), .int .u8 (s2.toNat : Int), .int .u8 (s3.toNat : Int), .int .u8 (s4.toNat : Int), .int .u8 (s5.toNat : Int), .int .i64 vl, .int .u16 (ty : Int), .slice A8 l2.length l2.length] 76)).heap[w7.heap.size]? = some (.cells #[.int .u8 (d0.toNat : Int), .int .u8 (d1.toNat : Int), .int .u8 (d2.toNat : Int), .int .u8 (d3.toNat : Int), .int .u8 (d4.toNat : Int), .int .u8 (d5.toNat : Int), .int .u8 (s0.toNat : Int), .int .u8 (s1.toNat : Int), .int .u8 (s2.toNat : Int), .int .u8 (s3.toNat : Int), .int .u8 (s4.toNat : Int), .int .u8 (s5.toNat : Int), .int .i64 vl, .int .u16 (ty : Int), .slice A8 l2.length l2.length] 76) := heap_alloc_new w7 _
              generalize w7.alloc (.cells #[.int .u8 (d0.toNat : Int), .int .u8 (d1.toNat : Int), .int .u8 (d2.toNat : Int), .int .u8 (d3.toNat : Int), .int .u8 (d4.toNat : Int), .int .u8 (d5.toNat : Int), .int .u8 (s0.toNat : Int), .int .u8 (s1.toNat : Int), .int .u8 (s2.toNat : Int), .int .u8 (s3.toNat : Int), .int .u8 (s4.toNat : Int), .int .u8 (s5.toNat : Int), .int .i64 vl, .int .u16 (ty : Int), .slice A8 l2.length l2.length] 76) = w8 at hx8 hyb ⊢
              generalize w7.heap.size = yb at hyb ⊢
              have hfr := (hx8.block fb (row_lt HB7.out) id).trans HB7.out
              have HX8 := Lib.hid (HX7.out.trans hx8)
              have HBY := Lib.hid (HB8.out.keep hx8 (fun _ _ _ => id)).any
              have HBF := Lib.hid (HR1.out.keep HX8.out (fun _ _ _ => id))
              have cf0 := row_cell (k := 0) (v := .int .u8 (d0.toNat : Int)) hfr rfl
              have cf1 := row_cell (k := 1) (v := .int .u8 (d1.toNat : Int)) hfr rfl
              have cf2 := row_cell (k := 2) (v := .int .u8 (d2.toNat : Int)) hfr rfl
              have cf3 := row_cell (k := 3) (v := .int .u8 (d3.toNat : Int)) hfr rfl
              have cf4 := row_cell (k := 4) (v := .int .u8 (d4.toNat : Int)) hfr rfl
              have cf5 := row_cell (k := 5) (v := .int .u8 (d5.toNat : Int)) hfr rfl
              have cf6 := row_cell (k := 6) (v := .int .u8 (s0.toNat : Int)) hfr rfl
              have cf7 := row_cell (k := 7) (v := .int .u8 (s1.toNat : Int)) hfr rfl
              have cf8 := row_cell (k := 8) (v := .int .u8 (s2.toNat : Int)) hfr rfl
              have cf9 := row_cell (k := 9) (v := .int .u8 (s3.toNat : Int)) hfr rfl
              have cf10 := row_cell (k := 10) (v := .int .u8 (s4.toNat : Int)) hfr rfl
              have cf11 := row_cell (k := 11) (v := .int .u8 (s5.toNat : Int)) hfr rfl
              have cf12 := row_cell (k := 12) (v := .int .i64 vl) hfr rfl
              have cf13 := row_cell (k := 13) (v := .int .u16 (ty : Int)) hfr rfl
              have cf14 := row_cell (k := 14) (v := .slice A l2.length c) hfr rfl
              have cy0 := row_cell (k := 0) (v := .int .u8 (d0.toNat : Int)) hyb rfl
              have cy1 := row_cell (k := 1) (v := .int .u8 (d1.toNat : Int)) hyb rfl
              have cy2 := row_cell (k := 2) (v := .int .u8 (d2.toNat : Int)) hyb rfl
              have cy3 := row_cell (k := 3) (v := .int .u8 (d3.toNat : Int)) hyb rfl
              have cy4 := row_cell (k := 4) (v := .int .u8 (d4.toNat : Int)) hyb rfl
              have cy5 := row_cell (k := 5) (v := .int .u8 (d5.toNat : Int)) hyb rfl
              have cy6 := row_cell (k := 6) (v := .int .u8 (s0.toNat : Int)) hyb rfl
              have cy7 := row_cell (k := 7) (v := .int .u8 (s1.toNat : Int)) hyb rfl
              have cy8 := row_cell (k := 8) (v := .int .u8 (s2.toNat : Int)) hyb rfl
              have cy9 := row_cell (k := 9) (v := .int .u8 (s3.toNat : Int)) hyb rfl
              have cy10 := row_cell (k := 10) (v := .int .u8 (s4.toNat : Int)) hyb rfl
              have cy11 := row_cell (k := 11) (v := .int .u8 (s5.toNat : Int)) hyb rfl
              have cy12 := row_cell (k := 12) (v := .int .i64 vl) hyb rfl
              have cy13 := row_cell (k := 13) (v := .int .u16 (ty : Int)) hyb rfl
              have cy14 := row_cell (k := 14) (v := .slice A8 l2.length l2.length) hyb rfl
              have rfe : ∀ W, (binOp .eql 80 (rfv ⟨[d0, d1, d2, d3, d4, d5], [s0, s1, s2, s3, s4, s5], vl, ty, l2⟩) (rfv ⟨[d0, d1, d2, d3, d4, d5], [s0, s1, s2, s3, s4, s5], vl, ty, l2⟩)).run Tryd.prog W = .ok (.bool true) W := rfv_eq _
              have rfg : ∀ x y W, (eqGuard .eql 80 x y (rfv ⟨[d0, d1, d2, d3, d4, d5], [s0, s1, s2, s3, s4, s5], vl, ty, l2⟩) (rfv ⟨[d0, d1, d2, d3, d4, d5], [s0, s1, s2, s3, s4, s5], vl, ty, l2⟩)).run Tryd.prog W = .ok () W := fun x y W => rfv_guard _ x y _ _ W
              obtain ⟨V, hV⟩ : ∃ V, V = rfv ⟨[d0, d1, d2, d3, d4, d5], [s0, s1, s2, s3, s4, s5], vl, ty, l2⟩ := ⟨_, rfl⟩
              rw [← hV] at rfe rfg
              have HV := Lib.hid hV
              clear hx8 hyb hfr hV
              have hS : Ex (fun _ => False) w8 w8.drew := (Ex.refl _ w8).drew
              refine wp_region_held_drew (S := fun W => Ex (fun _ => False) w8 W) (by kernel_rfl) hS (fun _ => ?_)
              refine wpAnyH_take (i := 0) (oi := { dst := some 112, op := Go.Op.move (Go.Operand.tmp 5), type := 4, pos := "law.go:81", after := #[], guard := none }) (v := ?v1) rfl (by kernel_rfl) (by kernel_rfl) (by kernel_rfl) (fun _ _ _ h => h) (Or.inl ⟨by rfl, ?hy1⟩) (by assumption) ?rest1
              case hy1 => (intro w hSw; (try dsimp only at hSw); have ef0 := hSw.cell cf0 id; have ef1 := hSw.cell cf1 id; have ef2 := hSw.cell cf2 id; have ef3 := hSw.cell cf3 id; have ef4 := hSw.cell cf4 id; have ef5 := hSw.cell cf5 id; have ef6 := hSw.cell cf6 id; have ef7 := hSw.cell cf7 id; have ef8 := hSw.cell cf8 id; have ef9 := hSw.cell cf9 id; have ef10 := hSw.cell cf10 id; have ef11 := hSw.cell cf11 id; have ef12 := hSw.cell cf12 id; have ef13 := hSw.cell cf13 id; have ef14 := hSw.cell cf14 id; have ey0 := hSw.cell cy0 id; have ey1 := hSw.cell cy1 id; have ey2 := hSw.cell cy2 id; have ey3 := hSw.cell cy3 id; have ey4 := hSw.cell cy4 id; have ey5 := hSw.cell cy5 id; have ey6 := hSw.cell cy6 id; have ey7 := hSw.cell cy7 id; have ey8 := hSw.cell cy8 id; have ey9 := hSw.cell cy9 id; have ey10 := hSw.cell cy10 id; have ey11 := hSw.cell cy11 id; have ey12 := hSw.cell cy12 id; have ey13 := hSw.cell cy13 id; have ey14 := hSw.cell cy14 id; go_simp <;> with_reducible rfl)
              try simp only [Act.put, List.setIfInBounds_toArray, List.set_cons_zero, List.set_cons_succ]
              refine wpAnyH_take (i := 1) (oi := { dst := some 113, op := Go.Op.move (Go.Operand.tmp 112), type := 4, pos := "law.go:81", after := #[{ on := 0, ground := Go.Ground.data }], guard := none }) (v := ?v2) rfl (by kernel_rfl) (by kernel_rfl) (by kernel_rfl) (fun _ _ _ h => h) (Or.inl ⟨by rfl, ?hy2⟩) (by assumption) ?rest2
              case hy2 => (intro w hSw; (try dsimp only at hSw); have ef0 := hSw.cell cf0 id; have ef1 := hSw.cell cf1 id; have ef2 := hSw.cell cf2 id; have ef3 := hSw.cell cf3 id; have ef4 := hSw.cell cf4 id; have ef5 := hSw.cell cf5 id; have ef6 := hSw.cell cf6 id; have ef7 := hSw.cell cf7 id; have ef8 := hSw.cell cf8 id; have ef9 := hSw.cell cf9 id; have ef10 := hSw.cell cf10 id; have ef11 := hSw.cell cf11 id; have ef12 := hSw.cell cf12 id; have ef13 := hSw.cell cf13 id; have ef14 := hSw.cell cf14 id; have ey0 := hSw.cell cy0 id; have ey1 := hSw.cell cy1 id; have ey2 := hSw.cell cy2 id; have ey3 := hSw.cell cy3 id; have ey4 := hSw.cell cy4 id; have ey5 := hSw.cell cy5 id; have ey6 := hSw.cell cy6 id; have ey7 := hSw.cell cy7 id; have ey8 := hSw.cell cy8 id; have ey9 := hSw.cell cy9 id; have ey10 := hSw.cell cy10 id; have ey11 := hSw.cell cy11 id; have ey12 := hSw.cell cy12 id; have ey13 := hSw.cell cy13 id; have ey14 := hSw.cell cy14 id; go_simp <;> with_reducible rfl)
              try simp only [Act.put, List.setIfInBounds_toArray, List.set_cons_zero, List.set_cons_succ]
              refine wpAnyH_take (i := 2) (oi := { dst := some 114, op := Go.Op.move (Go.Operand.tmp 15), type := 28, pos := "law.go:81", after := #[{ on := 1, ground := Go.Ground.guard }], guard := some (1, true) }) (v := ?v3) rfl (by kernel_rfl) (by kernel_rfl) (by kernel_rfl) (fun _ _ _ h => h) (Or.inl ⟨by rfl, ?hy3⟩) (by assumption) ?rest3
              case hy3 => (intro w hSw; (try dsimp only at hSw); have ef0 := hSw.cell cf0 id; have ef1 := hSw.cell cf1 id; have ef2 := hSw.cell cf2 id; have ef3 := hSw.cell cf3 id; have ef4 := hSw.cell cf4 id; have ef5 := hSw.cell cf5 id; have ef6 := hSw.cell cf6 id; have ef7 := hSw.cell cf7 id; have ef8 := hSw.cell cf8 id; have ef9 := hSw.cell cf9 id; have ef10 := hSw.cell cf10 id; have ef11 := hSw.cell cf11 id; have ef12 := hSw.cell cf12 id; have ef13 := hSw.cell cf13 id; have ef14 := hSw.cell cf14 id; have ey0 := hSw.cell cy0 id; have ey1 := hSw.cell cy1 id; have ey2 := hSw.cell cy2 id; have ey3 := hSw.cell cy3 id; have ey4 := hSw.cell cy4 id; have ey5 := hSw.cell cy5 id; have ey6 := hSw.cell cy6 id; have ey7 := hSw.cell cy7 id; have ey8 := hSw.cell cy8 id; have ey9 := hSw.cell cy9 id; have ey10 := hSw.cell cy10 id; have ey11 := hSw.cell cy11 id; have ey12 := hSw.cell cy12 id; have ey13 := hSw.cell cy13 id; have ey14 := hSw.cell cy14 id; go_simp <;> with_reducible rfl)
              try simp only [Act.put, List.setIfInBounds_toArray, List.set_cons_zero, List.set_cons_succ]
              refine wpAnyH_take (i := 3) (oi := { dst := some 115, op := Go.Op.binOp Go.BinOp.eql 28 (Go.Operand.tmp 114) (Go.Operand.const Go.Value.nilIface) 28, type := 4, pos := "law.go:81", after := #[{ on := 2, ground := Go.Ground.data }, { on := 1, ground := Go.Ground.guard }], guard := some (1, true) }) (v := ?v4) rfl (by kernel_rfl) (by kernel_rfl) (by kernel_rfl) (fun _ _ _ h => h) (Or.inl ⟨by rfl, ?hy4⟩) (by assumption) ?rest4
              case hy4 => (intro w hSw; (try dsimp only at hSw); have ef0 := hSw.cell cf0 id; have ef1 := hSw.cell cf1 id; have ef2 := hSw.cell cf2 id; have ef3 := hSw.cell cf3 id; have ef4 := hSw.cell cf4 id; have ef5 := hSw.cell cf5 id; have ef6 := hSw.cell cf6 id; have ef7 := hSw.cell cf7 id; have ef8 := hSw.cell cf8 id; have ef9 := hSw.cell cf9 id; have ef10 := hSw.cell cf10 id; have ef11 := hSw.cell cf11 id; have ef12 := hSw.cell cf12 id; have ef13 := hSw.cell cf13 id; have ef14 := hSw.cell cf14 id; have ey0 := hSw.cell cy0 id; have ey1 := hSw.cell cy1 id; have ey2 := hSw.cell cy2 id; have ey3 := hSw.cell cy3 id; have ey4 := hSw.cell cy4 id; have ey5 := hSw.cell cy5 id; have ey6 := hSw.cell cy6 id; have ey7 := hSw.cell cy7 id; have ey8 := hSw.cell cy8 id; have ey9 := hSw.cell cy9 id; have ey10 := hSw.cell cy10 id; have ey11 := hSw.cell cy11 id; have ey12 := hSw.cell cy12 id; have ey13 := hSw.cell cy13 id; have ey14 := hSw.cell cy14 id; go_simp <;> with_reducible rfl)
              try simp only [Act.put, List.setIfInBounds_toArray, List.set_cons_zero, List.set_cons_succ]
              refine wpAnyH_take (i := 4) (oi := { dst := some 116, op := Go.Op.pick (Go.Operand.tmp 113) (Go.Operand.tmp 115) (Go.Operand.const (Go.Value.bool false)), type := 4, pos := "law.go:81", after := #[{ on := 1, ground := Go.Ground.data }, { on := 3, ground := Go.Ground.data }], guard := none }) (v := ?v5) rfl (by kernel_rfl) (by kernel_rfl) (by kernel_rfl) (fun _ _ _ h => h) (Or.inl ⟨by rfl, ?hy5⟩) (by assumption) ?rest5
              case hy5 => (intro w hSw; (try dsimp only at hSw); have ef0 := hSw.cell cf0 id; have ef1 := hSw.cell cf1 id; have ef2 := hSw.cell cf2 id; have ef3 := hSw.cell cf3 id; have ef4 := hSw.cell cf4 id; have ef5 := hSw.cell cf5 id; have ef6 := hSw.cell cf6 id; have ef7 := hSw.cell cf7 id; have ef8 := hSw.cell cf8 id; have ef9 := hSw.cell cf9 id; have ef10 := hSw.cell cf10 id; have ef11 := hSw.cell cf11 id; have ef12 := hSw.cell cf12 id; have ef13 := hSw.cell cf13 id; have ef14 := hSw.cell cf14 id; have ey0 := hSw.cell cy0 id; have ey1 := hSw.cell cy1 id; have ey2 := hSw.cell cy2 id; have ey3 := hSw.cell cy3 id; have ey4 := hSw.cell cy4 id; have ey5 := hSw.cell cy5 id; have ey6 := hSw.cell cy6 id; have ey7 := hSw.cell cy7 id; have ey8 := hSw.cell cy8 id; have ey9 := hSw.cell cy9 id; have ey10 := hSw.cell cy10 id; have ey11 := hSw.cell cy11 id; have ey12 := hSw.cell cy12 id; have ey13 := hSw.cell cy13 id; have ey14 := hSw.cell cy14 id; go_simp <;> with_reducible rfl)
              try simp only [Act.put, List.setIfInBounds_toArray, List.set_cons_zero, List.set_cons_succ]
              refine wpAnyH_take (i := 5) (oi := { dst := some 117, op := Go.Op.move (Go.Operand.tmp 116), type := 4, pos := "law.go:81", after := #[{ on := 4, ground := Go.Ground.data }, { on := 1, ground := Go.Ground.chain }], guard := none }) (v := ?v6) rfl (by kernel_rfl) (by kernel_rfl) (by kernel_rfl) (fun _ _ _ h => h) (Or.inl ⟨by rfl, ?hy6⟩) (by assumption) ?rest6
              case hy6 => (intro w hSw; (try dsimp only at hSw); have ef0 := hSw.cell cf0 id; have ef1 := hSw.cell cf1 id; have ef2 := hSw.cell cf2 id; have ef3 := hSw.cell cf3 id; have ef4 := hSw.cell cf4 id; have ef5 := hSw.cell cf5 id; have ef6 := hSw.cell cf6 id; have ef7 := hSw.cell cf7 id; have ef8 := hSw.cell cf8 id; have ef9 := hSw.cell cf9 id; have ef10 := hSw.cell cf10 id; have ef11 := hSw.cell cf11 id; have ef12 := hSw.cell cf12 id; have ef13 := hSw.cell cf13 id; have ef14 := hSw.cell cf14 id; have ey0 := hSw.cell cy0 id; have ey1 := hSw.cell cy1 id; have ey2 := hSw.cell cy2 id; have ey3 := hSw.cell cy3 id; have ey4 := hSw.cell cy4 id; have ey5 := hSw.cell cy5 id; have ey6 := hSw.cell cy6 id; have ey7 := hSw.cell cy7 id; have ey8 := hSw.cell cy8 id; have ey9 := hSw.cell cy9 id; have ey10 := hSw.cell cy10 id; have ey11 := hSw.cell cy11 id; have ey12 := hSw.cell cy12 id; have ey13 := hSw.cell cy13 id; have ey14 := hSw.cell cy14 id; go_simp <;> with_reducible rfl)
              try simp only [Act.put, List.setIfInBounds_toArray, List.set_cons_zero, List.set_cons_succ]
              refine wpAnyH_take (i := 6) (oi := { dst := some 118, op := Go.Op.load 76 (Go.Operand.tmp 14), type := 76, pos := "law.go:81", after := #[{ on := 5, ground := Go.Ground.guard }], guard := some (5, true) }) (v := ?v7) rfl (by kernel_rfl) (by kernel_rfl) (by kernel_rfl) (fun _ _ _ h => h) (Or.inl ⟨by rfl, ?hy7⟩) (by assumption) ?rest7
              case hy7 => (intro w hSw; (try dsimp only at hSw); have ef0 := hSw.cell cf0 id; have ef1 := hSw.cell cf1 id; have ef2 := hSw.cell cf2 id; have ef3 := hSw.cell cf3 id; have ef4 := hSw.cell cf4 id; have ef5 := hSw.cell cf5 id; have ef6 := hSw.cell cf6 id; have ef7 := hSw.cell cf7 id; have ef8 := hSw.cell cf8 id; have ef9 := hSw.cell cf9 id; have ef10 := hSw.cell cf10 id; have ef11 := hSw.cell cf11 id; have ef12 := hSw.cell cf12 id; have ef13 := hSw.cell cf13 id; have ef14 := hSw.cell cf14 id; have ey0 := hSw.cell cy0 id; have ey1 := hSw.cell cy1 id; have ey2 := hSw.cell cy2 id; have ey3 := hSw.cell cy3 id; have ey4 := hSw.cell cy4 id; have ey5 := hSw.cell cy5 id; have ey6 := hSw.cell cy6 id; have ey7 := hSw.cell cy7 id; have ey8 := hSw.cell cy8 id; have ey9 := hSw.cell cy9 id; have ey10 := hSw.cell cy10 id; have ey11 := hSw.cell cy11 id; have ey12 := hSw.cell cy12 id; have ey13 := hSw.cell cy13 id; have ey14 := hSw.cell cy14 id; go_simp <;> with_reducible rfl)
              try simp only [Act.put, List.setIfInBounds_toArray, List.set_cons_zero, List.set_cons_succ]
              refine wpAnyH_take (i := 8) (oi := { dst := some 120, op := Go.Op.load 76 (Go.Operand.tmp 3), type := 76, pos := "law.go:81", after := #[{ on := 5, ground := Go.Ground.guard }], guard := some (5, true) }) (v := ?v8) rfl (by kernel_rfl) (by kernel_rfl) (by kernel_rfl) (fun _ _ _ h => h) (Or.inl ⟨by rfl, ?hy8⟩) (by assumption) ?rest8
              case hy8 => (intro w hSw; (try dsimp only at hSw); have ef0 := hSw.cell cf0 id; have ef1 := hSw.cell cf1 id; have ef2 := hSw.cell cf2 id; have ef3 := hSw.cell cf3 id; have ef4 := hSw.cell cf4 id; have ef5 := hSw.cell cf5 id; have ef6 := hSw.cell cf6 id; have ef7 := hSw.cell cf7 id; have ef8 := hSw.cell cf8 id; have ef9 := hSw.cell cf9 id; have ef10 := hSw.cell cf10 id; have ef11 := hSw.cell cf11 id; have ef12 := hSw.cell cf12 id; have ef13 := hSw.cell cf13 id; have ef14 := hSw.cell cf14 id; have ey0 := hSw.cell cy0 id; have ey1 := hSw.cell cy1 id; have ey2 := hSw.cell cy2 id; have ey3 := hSw.cell cy3 id; have ey4 := hSw.cell cy4 id; have ey5 := hSw.cell cy5 id; have ey6 := hSw.cell cy6 id; have ey7 := hSw.cell cy7 id; have ey8 := hSw.cell cy8 id; have ey9 := hSw.cell cy9 id; have ey10 := hSw.cell cy10 id; have ey11 := hSw.cell cy11 id; have ey12 := hSw.cell cy12 id; have ey13 := hSw.cell cy13 id; have ey14 := hSw.cell cy14 id; go_simp <;> with_reducible rfl)
              try simp only [Act.put, List.setIfInBounds_toArray, List.set_cons_zero, List.set_cons_succ]
              refine wpAnyH_ready (rs := [7]) (by kernel_rfl) (by simp) ?_
              refine AllReadyH.cons (o := { dst := some 119, op := Go.Op.call { callee := Go.Callee.value (Go.Operand.func 37), args := #[Go.Operand.tmp 118], argTypes := #[76] }, type := 80, pos := "law.go:81", after := #[{ on := 6, ground := Go.Ground.data }, { on := 5, ground := Go.Ground.chain }, { on := 5, ground := Go.Ground.guard }], guard := some (5, true) }) rfl (fun K hK => ?_) AllReadyH.nil
              go_simp
              refine (of_any _ ⟨[d0, d1, d2, d3, d4, d5], [s0, s1, s2, s3, s4, s5], vl, ty, l2⟩ A8 l2.length l2.length _ OK1.out (HBY.out.keep hS (fun _ _ _ => id))).mono ?_
              rintro e w9 ⟨rfl, hx9⟩
              rw [← HV.out]
              have hS9 := hS.trans hx9
              refine hK.out _ _ hS9 (fun _ => ?_)
              refine wpAnyH_ready (rs := [9]) (by kernel_rfl) (by simp) ?_
              refine AllReadyH.cons (o := { dst := some 121, op := Go.Op.call { callee := Go.Callee.value (Go.Operand.func 37), args := #[Go.Operand.tmp 120], argTypes := #[76] }, type := 80, pos := "law.go:81", after := #[{ on := 8, ground := Go.Ground.data }, { on := 7, ground := Go.Ground.chain }, { on := 5, ground := Go.Ground.guard }], guard := some (5, true) }) rfl (fun K hK => ?_) AllReadyH.nil
              go_simp
              refine (of_any _ ⟨[d0, d1, d2, d3, d4, d5], [s0, s1, s2, s3, s4, s5], vl, ty, l2⟩ A l2.length c _ OK1.out (HBF.out.keep hS9 (fun _ _ _ => id))).mono ?_
              rintro e w10 ⟨rfl, hx10⟩
              rw [← HV.out]
              have hS10 := hS9.trans hx10
              refine hK.out _ _ hS10 (fun _ => ?_)
              refine wpAnyH_take (i := 10) (oi := { dst := some 122, op := Go.Op.binOp Go.BinOp.eql 80 (Go.Operand.tmp 119) (Go.Operand.tmp 121) 80, type := 4, pos := "law.go:81", after := #[{ on := 7, ground := Go.Ground.data }, { on := 9, ground := Go.Ground.data }, { on := 5, ground := Go.Ground.guard }], guard := some (5, true) }) (v := ?v9) rfl (by kernel_rfl) (by kernel_rfl) (by kernel_rfl) (fun _ _ _ h => h) (Or.inl ⟨by rfl, ?hy9⟩) (by assumption) ?rest9
              case hy9 => (intro w hSw; (try dsimp only at hSw); have ef0 := hSw.cell cf0 id; have ef1 := hSw.cell cf1 id; have ef2 := hSw.cell cf2 id; have ef3 := hSw.cell cf3 id; have ef4 := hSw.cell cf4 id; have ef5 := hSw.cell cf5 id; have ef6 := hSw.cell cf6 id; have ef7 := hSw.cell cf7 id; have ef8 := hSw.cell cf8 id; have ef9 := hSw.cell cf9 id; have ef10 := hSw.cell cf10 id; have ef11 := hSw.cell cf11 id; have ef12 := hSw.cell cf12 id; have ef13 := hSw.cell cf13 id; have ef14 := hSw.cell cf14 id; have ey0 := hSw.cell cy0 id; have ey1 := hSw.cell cy1 id; have ey2 := hSw.cell cy2 id; have ey3 := hSw.cell cy3 id; have ey4 := hSw.cell cy4 id; have ey5 := hSw.cell cy5 id; have ey6 := hSw.cell cy6 id; have ey7 := hSw.cell cy7 id; have ey8 := hSw.cell cy8 id; have ey9 := hSw.cell cy9 id; have ey10 := hSw.cell cy10 id; have ey11 := hSw.cell cy11 id; have ey12 := hSw.cell cy12 id; have ey13 := hSw.cell cy13 id; have ey14 := hSw.cell cy14 id; go_simp <;> with_reducible rfl)
              try simp only [Act.put, List.setIfInBounds_toArray, List.set_cons_zero, List.set_cons_succ]
              refine wpAnyH_take (i := 11) (oi := { dst := some 123, op := Go.Op.pick (Go.Operand.tmp 117) (Go.Operand.tmp 122) (Go.Operand.const (Go.Value.bool false)), type := 4, pos := "law.go:81", after := #[{ on := 5, ground := Go.Ground.data }, { on := 10, ground := Go.Ground.data }], guard := none }) (v := ?v10) rfl (by kernel_rfl) (by kernel_rfl) (by kernel_rfl) (fun _ _ _ h => h) (Or.inl ⟨by rfl, ?hy10⟩) (by assumption) ?rest10
              case hy10 => (intro w hSw; (try dsimp only at hSw); have ef0 := hSw.cell cf0 id; have ef1 := hSw.cell cf1 id; have ef2 := hSw.cell cf2 id; have ef3 := hSw.cell cf3 id; have ef4 := hSw.cell cf4 id; have ef5 := hSw.cell cf5 id; have ef6 := hSw.cell cf6 id; have ef7 := hSw.cell cf7 id; have ef8 := hSw.cell cf8 id; have ef9 := hSw.cell cf9 id; have ef10 := hSw.cell cf10 id; have ef11 := hSw.cell cf11 id; have ef12 := hSw.cell cf12 id; have ef13 := hSw.cell cf13 id; have ef14 := hSw.cell cf14 id; have ey0 := hSw.cell cy0 id; have ey1 := hSw.cell cy1 id; have ey2 := hSw.cell cy2 id; have ey3 := hSw.cell cy3 id; have ey4 := hSw.cell cy4 id; have ey5 := hSw.cell cy5 id; have ey6 := hSw.cell cy6 id; have ey7 := hSw.cell cy7 id; have ey8 := hSw.cell cy8 id; have ey9 := hSw.cell cy9 id; have ey10 := hSw.cell cy10 id; have ey11 := hSw.cell cy11 id; have ey12 := hSw.cell cy12 id; have ey13 := hSw.cell cy13 id; have ey14 := hSw.cell cy14 id; go_simp <;> with_reducible rfl)
              try simp only [Act.put, List.setIfInBounds_toArray, List.set_cons_zero, List.set_cons_succ]
              refine wpAnyH_take (i := 12) (oi := { dst := some 4, op := Go.Op.assign (Go.Operand.tmp 123), type := 4, pos := "law.go:81", after := #[{ on := 11, ground := Go.Ground.data }, { on := 9, ground := Go.Ground.chain }, { on := 0, ground := Go.Ground.phase }, { on := 1, ground := Go.Ground.phase }, { on := 2, ground := Go.Ground.phase }, { on := 3, ground := Go.Ground.phase }, { on := 4, ground := Go.Ground.phase }, { on := 5, ground := Go.Ground.phase }, { on := 6, ground := Go.Ground.phase }, { on := 7, ground := Go.Ground.phase }, { on := 8, ground := Go.Ground.phase }, { on := 9, ground := Go.Ground.phase }, { on := 10, ground := Go.Ground.phase }, { on := 11, ground := Go.Ground.phase }], guard := none }) (v := ?v11) rfl (by kernel_rfl) (by kernel_rfl) (by kernel_rfl) (fun _ _ _ h => h) (Or.inl ⟨by rfl, ?hy11⟩) (by assumption) ?rest11
              case hy11 => (intro w hSw; (try dsimp only at hSw); have ef0 := hSw.cell cf0 id; have ef1 := hSw.cell cf1 id; have ef2 := hSw.cell cf2 id; have ef3 := hSw.cell cf3 id; have ef4 := hSw.cell cf4 id; have ef5 := hSw.cell cf5 id; have ef6 := hSw.cell cf6 id; have ef7 := hSw.cell cf7 id; have ef8 := hSw.cell cf8 id; have ef9 := hSw.cell cf9 id; have ef10 := hSw.cell cf10 id; have ef11 := hSw.cell cf11 id; have ef12 := hSw.cell cf12 id; have ef13 := hSw.cell cf13 id; have ef14 := hSw.cell cf14 id; have ey0 := hSw.cell cy0 id; have ey1 := hSw.cell cy1 id; have ey2 := hSw.cell cy2 id; have ey3 := hSw.cell cy3 id; have ey4 := hSw.cell cy4 id; have ey5 := hSw.cell cy5 id; have ey6 := hSw.cell cy6 id; have ey7 := hSw.cell cy7 id; have ey8 := hSw.cell cy8 id; have ey9 := hSw.cell cy9 id; have ey10 := hSw.cell cy10 id; have ey11 := hSw.cell cy11 id; have ey12 := hSw.cell cy12 id; have ey13 := hSw.cell cy13 id; have ey14 := hSw.cell cy14 id; go_simp <;> with_reducible rfl)
              try simp only [Act.put, List.setIfInBounds_toArray, List.set_cons_zero, List.set_cons_succ]
              refine wpAnyH_done (by kernel_rfl) ?_ _
              go_wp2
              go_ret
              exact ⟨rfl, HX8.out.trans hS10⟩

end Go.Proofs.YtkgieciamophkaaDoor
