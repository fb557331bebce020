/-
  The walk of EtherTags. By an AI agent.
-/
import Derived.Test.YtkgieciamophkaaDoorShown03
import Derived.Test.YtkgieciamophkaaDoorFrLaw
import Derived.Deep.RegionHeld
namespace Go.Proofs.YtkgieciamophkaaDoor
open Go.RowKit

theorem tags_len (f : Fr) (ok : f.ok) : (fbytes f).length = (if f.vl = -1 then 14 else 18) + f.b.length := by
  rw [fbytes_head, List.length_append, fhead_len ok]

set_option maxRecDepth 100000 in
set_option maxHeartbeats 8000000 in
theorem tags_any (f : Fr) (A : Option Addr) (c : Nat) (tg : Nat) (w : World) (ok : f.ok) (hr : RB w (fun _ => True) (.slice A f.b.length c) f.b) (htg : tg < 65536) (hg : ET w) (hal : AL w) :
    Calls Tryd.prog 13 #[frv f (.slice A f.b.length c), .int .u16 (tg : Int)] w fun e w' => e = .returned (.bool true) ∧ Ex (fun _ => False) w w' := by
  have HG := Lib.hid hg
  have HAL := Lib.hid hal
  clear hg hal
  obtain ⟨fd, fs, vl, ty, b⟩ := f
  obtain ⟨h1, h2, h3, h4, h5⟩ := ok
  simp only at h1 h2 h3 h4 h5 hr
  obtain ⟨d0, d1, d2, d3, d4, d5, rfl⟩ := six_is h1
  obtain ⟨s0, s1, s2, s3, s4, s5, rfl⟩ := six_is h2
  obtain ⟨l1, hm, hm1, hm2000, hl1⟩ : ∃ l1 : List UInt8, (if 2000 < (b.length : Int) then (2000 : Int) else (b.length : Int)) = (l1.length : Int) ∧ l1.length ≤ b.length ∧ l1.length ≤ 2000 ∧ Hid (l1 = b.take 2000) := by
    refine ⟨b.take 2000, ?_, by simp; omega, by simp; omega, rfl⟩
    rw [List.length_take]; split <;> omega
  have hmi : (l1.length : Int) ≤ (b.length : Int) := by omega
  have hbc : b.length ≤ c := by obtain ⟨_, _, _, e, h, _⟩ := hr; injection e with _ _ e3; rw [e3]; exact h
  have hmc : l1.length ≤ c := by omega
  have hr1 := hr.take 2000
  rw [← hl1.out] at hr1
  have HR1 := Lib.hid hr1
  clear hr hr1
  have OK0 : Hid (Fr.ok ⟨[d0, d1, d2, d3, d4, d5], [s0, s1, s2, s3, s4, s5], -1, ty, l1⟩) := Lib.hid ⟨rfl, rfl, by simp, by simp, h5⟩
  have OK1 : Hid (Fr.ok ⟨[d0, d1, d2, d3, d4, d5], [s0, s1, s2, s3, s4, s5], (tg : Int), ty, l1⟩) := Lib.hid ⟨rfl, rfl, by show (-9223372036854775808 : Int) ≤ tg; omega, by show (tg : Int) ≤ 9223372036854775807; omega, h5⟩
  have NB1 : Hid (¬ badfr ⟨[d0, d1, d2, d3, d4, d5], [s0, s1, s2, s3, s4, s5], (tg : Int), ty, l1⟩) := by
    intro h
    rcases h with h | h | ⟨h, _⟩ <;> simp only at h <;> omega
  have HC1 : Hid ((fbytes ⟨[d0, d1, d2, d3, d4, d5], [s0, s1, s2, s3, s4, s5], (tg : Int), ty, l1⟩).length = 18 + l1.length) := by
    have := tags_len _ OK1.out
    rw [if_neg (by show ¬ ((tg : Int) = -1); omega)] at this
    exact this
  clear h1 h2
  show Calls Tryd.prog 13 #[.agg #[.int .u8 (d0.toNat : Int), .int .u8 (d1.toNat : Int), .int .u8 (d2.toNat : Int), .int .u8 (d3.toNat : Int), .int .u8 (d4.toNat : Int), .int .u8 (d5.toNat : Int), .int .u8 (s0.toNat : Int), .int .u8 (s1.toNat : Int), .int .u8 (s2.toNat : Int), .int .u8 (s3.toNat : Int), .int .u8 (s4.toNat : Int), .int .u8 (s5.toNat : Int), .int .i64 vl, .int .u16 (ty : Int), .slice A b.length c], .int .u16 (tg : Int)] w _
  go_enter Tryd.func13, Tryd.ntmps13
  go_upto_region 1 with fail
  have hx0 : Ex (fun _ => False) w (w.alloc (.cells #[.int .u8 (d0.toNat : Int), .int .u8 (d1.toNat : Int), .int .u8 (d2.toNat : Int), .int .u8 (d3.toNat : Int), .int .u8 (d4.toNat : Int), .int .u8 (d5.toNat : Int), .int .u8 (s0.toNat : Int), .int .u8 (s1.toNat : Int), .int .u8 (s2.toNat : Int), .int .u8 (s3.toNat : Int), .int .u8 (s4.toNat : Int), .int .u8 (s5.toNat : Int), .int .i64 vl, .int .u16 (ty : Int), .slice A b.length c] 76)) := (Ex.refl _ w).alloc _
  have hb0 : (w.alloc (.cells #[.int .u8 (d0.toNat : Int), .int .u8 (d1.toNat : Int), .int .u8 (d2.toNat : Int), .int .u8 (d3.toNat : Int), .int .u8 (d4.toNat : Int), .int .u8 (d5.toNat : Int), .int .u8 (s0.toNat : Int), .int .u8 (s1.toNat : Int), .int .u8 (s2.toNat : Int), .int .u8 (s3.toNat : Int), .int .u8 (s4.toNat : Int), .int .u8 (s5.toNat : Int), .int .i64 vl, .int .u16 (ty : Int), .slice A b.length c] 76)).heap[w.heap.size]? = some (.cells #[.int .u8 (d0.toNat : Int), .int .u8 (d1.toNat : Int), .int .u8 (d2.toNat : Int), .int .u8 (d3.toNat : Int), .int .u8 (d4.toNat : Int), .int .u8 (d5.toNat : Int), .int .u8 (s0.toNat : Int), .int .u8 (s1.toNat : Int), .int .u8 (s2.toNat : Int), .int .u8 (s3.toNat : Int), .int .u8 (s4.toNat : Int), .int .u8 (s5.toNat : Int), .int .i64 vl, .int .u16 (ty : Int), .slice A b.length c] 76) := heap_alloc_new w _
  generalize w.alloc (.cells #[.int .u8 (d0.toNat : Int), .int .u8 (d1.toNat : Int), .int .u8 (d2.toNat : Int), .int .u8 (d3.toNat : Int), .int .u8 (d4.toNat : Int), .int .u8 (d5.toNat : Int), .int .u8 (s0.toNat : Int), .int .u8 (s1.toNat : Int), .int .u8 (s2.toNat : Int), .int .u8 (s3.toNat : Int), .int .u8 (s4.toNat : Int), .int .u8 (s5.toNat : Int), .int .i64 vl, .int .u16 (ty : Int), .slice A b.length c] 76) = w1 at hx0 hb0 ⊢
  obtain ⟨fb, hfb⟩ : ∃ fb, fb = w.heap.size := ⟨_, rfl⟩
  rw [← hfb] at hb0
  try simp only [← hfb]
  have hfb1 : w.heap.size ≤ fb := by omega
  clear hfb
  have HB0 := Lib.hid hb0
  have HX0 := Lib.hid hx0
  clear hb0 hx0
  go_wp2_with fail
  refine (shown3_any w1 (HG.out.keep HX0.out id) (HAL.out.keep HX0.out id)).mono ?_
  rintro e w2 ⟨rfl, hx2⟩
  have hb2 := (hx2.block fb (row_lt HB0.out) id).trans HB0.out
  have HX2 := Lib.hid (HX0.out.trans hx2)
  have c14 := row_cell (k := 14) (v := .slice A b.length c) hb2 rfl
  have f14 := row_frozen hb2 14
  have c12 := row_cell (k := 12) (v := .int .i64 vl) hb2 rfl
  have f12 := row_frozen hb2 12
  have hb3 := row_set (row_set hb2 14 (.slice A l1.length c)) 12 (.int .i64 (-1))
  have hx3 : Ex (fun j => j = fb) w2 ((w2.setCell ⟨fb, 14, none⟩ (.slice A l1.length c)).setCell ⟨fb, 12, none⟩ (.int .i64 (-1))) := ((Ex.refl (fun j => j = fb) w2).setCell (p := ⟨fb, 14, none⟩) (.inl rfl) _).setCell (p := ⟨fb, 12, none⟩) (.inl rfl) _
  have HB3 : Hid (((w2.setCell ⟨fb, 14, none⟩ (.slice A l1.length c)).setCell ⟨fb, 12, none⟩ (.int .i64 (-1))).heap[fb]? = some (.cells #[.int .u8 (d0.toNat : Int), .int .u8 (d1.toNat : Int), .int .u8 (d2.toNat : Int), .int .u8 (d3.toNat : Int), .int .u8 (d4.toNat : Int), .int .u8 (d5.toNat : Int), .int .u8 (s0.toNat : Int), .int .u8 (s1.toNat : Int), .int .u8 (s2.toNat : Int), .int .u8 (s3.toNat : Int), .int .u8 (s4.toNat : Int), .int .u8 (s5.toNat : Int), .int .i64 (-1), .int .u16 (ty : Int), .slice A l1.length c] 76)) := hb3
  have HX3 := Lib.hid (HX2.out.andThen hx3 (fun i hi e => by omega))
  clear hb2 hx2 hb3 hx3 HX0 HX2 HB0
  go_upto_region 4 with fail
  clear c14 f14 c12 f12
  generalize (w2.setCell ⟨fb, 14, none⟩ (.slice A l1.length c)).setCell ⟨fb, 12, none⟩ (.int .i64 (-1)) = w3 at HB3 HX3 ⊢
  have c0 := row_cell (k := 0) (v := .int .u8 (d0.toNat : Int)) HB3.out rfl
  have c1 := row_cell (k := 1) (v := .int .u8 (d1.toNat : Int)) HB3.out rfl
  have c2 := row_cell (k := 2) (v := .int .u8 (d2.toNat : Int)) HB3.out rfl
  have c3 := row_cell (k := 3) (v := .int .u8 (d3.toNat : Int)) HB3.out rfl
  have c4 := row_cell (k := 4) (v := .int .u8 (d4.toNat : Int)) HB3.out rfl
  have c5 := row_cell (k := 5) (v := .int .u8 (d5.toNat : Int)) HB3.out rfl
  have c6 := row_cell (k := 6) (v := .int .u8 (s0.toNat : Int)) HB3.out rfl
  have c7 := row_cell (k := 7) (v := .int .u8 (s1.toNat : Int)) HB3.out rfl
  have c8 := row_cell (k := 8) (v := .int .u8 (s2.toNat : Int)) HB3.out rfl
  have c9 := row_cell (k := 9) (v := .int .u8 (s3.toNat : Int)) HB3.out rfl
  have c10 := row_cell (k := 10) (v := .int .u8 (s4.toNat : Int)) HB3.out rfl
  have c11 := row_cell (k := 11) (v := .int .u8 (s5.toNat : Int)) HB3.out rfl
  have c12 := row_cell (k := 12) (v := .int .i64 (-1)) HB3.out rfl
  have c13 := row_cell (k := 13) (v := .int .u16 (ty : Int)) HB3.out rfl
  have c14 := row_cell (k := 14) (v := .slice A l1.length c) HB3.out rfl
  go_wp2_with fail
  refine (fbytes_any _ ⟨[d0, d1, d2, d3, d4, d5], [s0, s1, s2, s3, s4, s5], -1, ty, l1⟩ A l1.length c w3 OK0.out (HR1.out.keep HX3.out (fun _ _ _ => id)) (by show l1.length ≤ 1000000; omega)).mono ?_
  rintro e w4 ⟨hx4, hcase⟩
  have hw34 := hx4.size
  have HX4 := Lib.hid (HX3.out.trans hx4)
  have HB4 := Lib.hid ((hx4.block fb (row_lt HB3.out) id).trans HB3.out)
  clear hx4 c0 c1 c2 c3 c4 c5 c6 c7 c8 c9 c10 c11 c12 c13 c14
  by_cases hty : ty = 33024
  · obtain ⟨v4, rfl, he4⟩ : ∃ v, e = .returned (.tuple #[.slice none 0 0, v]) ∧ EC w4 (fun j => w3.heap.size ≤ j) [lay3] v 1 := by
      rcases hcase with ⟨_, v, h1, h2⟩ | ⟨h, _⟩ | ⟨h, _⟩
      · exact ⟨v, h1, h2⟩
      · exact absurd (.inr (.inr ⟨rfl, hty⟩)) h
      · exact absurd (.inr (.inr ⟨rfl, hty⟩)) h
    have hfbs := row_lt HB3.out
    have HE4 := Lib.hid he4
    have HTY := Lib.hid hty
    have htb : ((ty : Int) == 33024) = true := by simp [hty]
    clear hcase he4 hty
    have f12 := row_frozen HB4.out 12
    have c12 := row_cell (k := 12) (v := .int .i64 (-1)) HB4.out rfl
    have hb6 := row_set HB4.out 12 (.int .i64 (tg : Int))
    have hx6 : Ex (fun j => j = fb) w4 (w4.setCell ⟨fb, 12, none⟩ (.int .i64 (tg : Int))) := (Ex.refl (fun j => j = fb) w4).setCell (p := ⟨fb, 12, none⟩) (.inl rfl) _
    have HB6 : Hid ((w4.setCell ⟨fb, 12, none⟩ (.int .i64 (tg : Int))).heap[fb]? = some (.cells #[.int .u8 (d0.toNat : Int), .int .u8 (d1.toNat : Int), .int .u8 (d2.toNat : Int), .int .u8 (d3.toNat : Int), .int .u8 (d4.toNat : Int), .int .u8 (d5.toNat : Int), .int .u8 (s0.toNat : Int), .int .u8 (s1.toNat : Int), .int .u8 (s2.toNat : Int), .int .u8 (s3.toNat : Int), .int .u8 (s4.toNat : Int), .int .u8 (s5.toNat : Int), .int .i64 (tg : Int), .int .u16 (ty : Int), .slice A l1.length c] 76)) := hb6
    have HX6 := Lib.hid (HX4.out.andThen hx6 (fun i hi e => by omega))
    have HXS := Lib.hid hx6
    have qt := IntWalk.i64_in (tg : Int) (by omega)
    clear hb6 hx6
    go_upto_region 6 with fail
    clear c12 f12
    generalize w4.setCell ⟨fb, 12, none⟩ (.int .i64 (tg : Int)) = w6 at HB6 HX6 HXS ⊢
    have ck0 := row_cell (k := 0) (v := .int .u8 (d0.toNat : Int)) HB6.out rfl
    have ck1 := row_cell (k := 1) (v := .int .u8 (d1.toNat : Int)) HB6.out rfl
    have ck2 := row_cell (k := 2) (v := .int .u8 (d2.toNat : Int)) HB6.out rfl
    have ck3 := row_cell (k := 3) (v := .int .u8 (d3.toNat : Int)) HB6.out rfl
    have ck4 := row_cell (k := 4) (v := .int .u8 (d4.toNat : Int)) HB6.out rfl
    have ck5 := row_cell (k := 5) (v := .int .u8 (d5.toNat : Int)) HB6.out rfl
    have ck6 := row_cell (k := 6) (v := .int .u8 (s0.toNat : Int)) HB6.out rfl
    have ck7 := row_cell (k := 7) (v := .int .u8 (s1.toNat : Int)) HB6.out rfl
    have ck8 := row_cell (k := 8) (v := .int .u8 (s2.toNat : Int)) HB6.out rfl
    have ck9 := row_cell (k := 9) (v := .int .u8 (s3.toNat : Int)) HB6.out rfl
    have ck10 := row_cell (k := 10) (v := .int .u8 (s4.toNat : Int)) HB6.out rfl
    have ck11 := row_cell (k := 11) (v := .int .u8 (s5.toNat : Int)) HB6.out rfl
    have ck12 := row_cell (k := 12) (v := .int .i64 (tg : Int)) HB6.out rfl
    have ck13 := row_cell (k := 13) (v := .int .u16 (ty : Int)) HB6.out rfl
    have ck14 := row_cell (k := 14) (v := .slice A l1.length c) HB6.out rfl
    go_wp2_with fail
    refine (fbytes_any _ ⟨[d0, d1, d2, d3, d4, d5], [s0, s1, s2, s3, s4, s5], (tg : Int), ty, l1⟩ A l1.length c w6 OK1.out (HR1.out.keep HX6.out (fun _ _ _ => id)) (by show l1.length ≤ 1000000; omega)).mono ?_
    rintro e w7 ⟨hx7, hcase⟩
    obtain ⟨A7, c7, rfl, ho7⟩ : ∃ A' c', e = .returned (.tuple #[.slice (some A') (fbytes ⟨[d0, d1, d2, d3, d4, d5], [s0, s1, s2, s3, s4, s5], (tg : Int), ty, l1⟩).length c', .nilIface]) ∧ OB w7 w6.heap.size (.slice (some A') (fbytes ⟨[d0, d1, d2, d3, d4, d5], [s0, s1, s2, s3, s4, s5], (tg : Int), ty, l1⟩).length c') (fbytes ⟨[d0, d1, d2, d3, d4, d5], [s0, s1, s2, s3, s4, s5], (tg : Int), ty, l1⟩) := by
      rcases hcase with ⟨h, _⟩ | ⟨_, h, _⟩ | ⟨_, _, A', c', h1, h2⟩
      · exact absurd h NB1.out
      · have := HC1.out; omega
      · exact ⟨A', c', h1, h2⟩
    clear hcase
    have hC := HC1.out
    obtain ⟨Cb, hCb⟩ : ∃ Cb, Cb = fbytes ⟨[d0, d1, d2, d3, d4, d5], [s0, s1, s2, s3, s4, s5], (tg : Int), ty, l1⟩ := ⟨_, rfl⟩
    rw [← hCb] at ho7 hC ⊢
    have HCB := Lib.hid hCb
    have HO7 := Lib.hid ho7
    have HX7 := Lib.hid (HX6.out.trans hx7)
    have HX67 := Lib.hid hx7
    have HB7 := Lib.hid ((hx7.block fb (row_lt HB6.out) id).trans HB6.out)
    have c14' := row_cell (k := 14) (v := .slice A l1.length c) HB7.out rfl
    have c13' := row_cell (k := 13) (v := .int .u16 (ty : Int)) HB7.out rfl
    have hCl : (Cb.length : Int) = 18 + (l1.length : Int) := by omega
    have qc := IntWalk.i64_in (18 + (l1.length : Int)) (by omega)
    have hC18 : ((Cb.length : Int) != 18 + (l1.length : Int)) = false := by simp; omega
    have hCb9 : Cb.length ≤ 2018 := by omega
    have hC16 : 16 ≤ Cb.length := by omega
    have HCL := Lib.hid hC
    clear ho7 hCb hx7 hC ck0 ck1 ck2 ck3 ck4 ck5 ck6 ck7 ck8 ck9 ck10 ck11 ck12 ck13 ck14
    go_wp2_with fail
    refine (code_any _ _ 1 v4 w7 ((HE4.out.keep HXS.out (fun j hj e => by omega)).keep HX67.out (fun _ _ => id)) (HG.out.keep HX7.out id)).mono ?_
    rintro e w8 ⟨rfl, hx8⟩
    have HX8 := Lib.hid (HX7.out.trans hx8)
    clear hx8
    go_wp2_with fail
    go_ret
    exact ⟨rfl, HX8.out⟩
  · have hnb0 : ¬ badfr ⟨[d0, d1, d2, d3, d4, d5], [s0, s1, s2, s3, s4, s5], -1, ty, l1⟩ := by
      intro h
      rcases h with h | h | ⟨_, h⟩
      · simp only at h; omega
      · simp only at h; omega
      · exact hty h
    have hB0 : (fbytes ⟨[d0, d1, d2, d3, d4, d5], [s0, s1, s2, s3, s4, s5], -1, ty, l1⟩).length = 14 + l1.length := by
      have := tags_len _ OK0.out
      rw [if_pos rfl] at this
      exact this
    obtain ⟨A4, c4, rfl, ho4⟩ : ∃ A' c', e = .returned (.tuple #[.slice (some A') (fbytes ⟨[d0, d1, d2, d3, d4, d5], [s0, s1, s2, s3, s4, s5], -1, ty, l1⟩).length c', .nilIface]) ∧ OB w4 w3.heap.size (.slice (some A') (fbytes ⟨[d0, d1, d2, d3, d4, d5], [s0, s1, s2, s3, s4, s5], -1, ty, l1⟩).length c') (fbytes ⟨[d0, d1, d2, d3, d4, d5], [s0, s1, s2, s3, s4, s5], -1, ty, l1⟩) := by
      rcases hcase with ⟨h, _⟩ | ⟨_, h, _⟩ | ⟨_, _, A', c', h1, h2⟩
      · exact absurd h hnb0
      · omega
      · exact ⟨A', c', h1, h2⟩
    have htb : ((ty : Int) == 33024) = false := by simp; omega
    have hfbs := row_lt HB3.out
    obtain ⟨B0, hB0e⟩ : ∃ B0, B0 = fbytes ⟨[d0, d1, d2, d3, d4, d5], [s0, s1, s2, s3, s4, s5], -1, ty, l1⟩ := ⟨_, rfl⟩
    rw [← hB0e] at ho4 hB0 ⊢
    obtain ⟨g4, rfl, hg41, hg42⟩ := ho4.plain
    have hB4c : B0.length ≤ c4 := by obtain ⟨_, _, _, e, h, _⟩ := ho4.rb; injection e with _ _ e3; rw [e3]; exact h
    have HO4 := Lib.hid ho4
    have HB0E := Lib.hid hB0e
    have hB14 : 14 ≤ B0.length := by omega
    have hB9 : B0.length ≤ 2014 := by omega
    have HBL := Lib.hid hB0
    have HTY := Lib.hid hty
    clear hcase ho4 hB0e hB0 hty
    have f12 := row_frozen HB4.out 12
    have c12 := row_cell (k := 12) (v := .int .i64 (-1)) HB4.out rfl
    have hb6 := row_set HB4.out 12 (.int .i64 (tg : Int))
    have hx6 : Ex (fun j => j = fb) w4 (w4.setCell ⟨fb, 12, none⟩ (.int .i64 (tg : Int))) := (Ex.refl (fun j => j = fb) w4).setCell (p := ⟨fb, 12, none⟩) (.inl rfl) _
    have HB6 : Hid ((w4.setCell ⟨fb, 12, none⟩ (.int .i64 (tg : Int))).heap[fb]? = some (.cells #[.int .u8 (d0.toNat : Int), .int .u8 (d1.toNat : Int), .int .u8 (d2.toNat : Int), .int .u8 (d3.toNat : Int), .int .u8 (d4.toNat : Int), .int .u8 (d5.toNat : Int), .int .u8 (s0.toNat : Int), .int .u8 (s1.toNat : Int), .int .u8 (s2.toNat : Int), .int .u8 (s3.toNat : Int), .int .u8 (s4.toNat : Int), .int .u8 (s5.toNat : Int), .int .i64 (tg : Int), .int .u16 (ty : Int), .slice A l1.length c] 76)) := hb6
    have HX6 := Lib.hid (HX4.out.andThen hx6 (fun i hi e => by omega))
    have HXS := Lib.hid hx6
    have qt := IntWalk.i64_in (tg : Int) (by omega)
    clear hb6 hx6
    go_upto_region 6 with fail
    clear c12 f12
    generalize w4.setCell ⟨fb, 12, none⟩ (.int .i64 (tg : Int)) = w6 at HB6 HX6 HXS ⊢
    have ck0 := row_cell (k := 0) (v := .int .u8 (d0.toNat : Int)) HB6.out rfl
    have ck1 := row_cell (k := 1) (v := .int .u8 (d1.toNat : Int)) HB6.out rfl
    have ck2 := row_cell (k := 2) (v := .int .u8 (d2.toNat : Int)) HB6.out rfl
    have ck3 := row_cell (k := 3) (v := .int .u8 (d3.toNat : Int)) HB6.out rfl
    have ck4 := row_cell (k := 4) (v := .int .u8 (d4.toNat : Int)) HB6.out rfl
    have ck5 := row_cell (k := 5) (v := .int .u8 (d5.toNat : Int)) HB6.out rfl
    have ck6 := row_cell (k := 6) (v := .int .u8 (s0.toNat : Int)) HB6.out rfl
    have ck7 := row_cell (k := 7) (v := .int .u8 (s1.toNat : Int)) HB6.out rfl
    have ck8 := row_cell (k := 8) (v := .int .u8 (s2.toNat : Int)) HB6.out rfl
    have ck9 := row_cell (k := 9) (v := .int .u8 (s3.toNat : Int)) HB6.out rfl
    have ck10 := row_cell (k := 10) (v := .int .u8 (s4.toNat : Int)) HB6.out rfl
    have ck11 := row_cell (k := 11) (v := .int .u8 (s5.toNat : Int)) HB6.out rfl
    have ck12 := row_cell (k := 12) (v := .int .i64 (tg : Int)) HB6.out rfl
    have ck13 := row_cell (k := 13) (v := .int .u16 (ty : Int)) HB6.out rfl
    have ck14 := row_cell (k := 14) (v := .slice A l1.length c) HB6.out rfl
    go_wp2_with fail
    refine (fbytes_any _ ⟨[d0, d1, d2, d3, d4, d5], [s0, s1, s2, s3, s4, s5], (tg : Int), ty, l1⟩ A l1.length c w6 OK1.out (HR1.out.keep HX6.out (fun _ _ _ => id)) (by show l1.length ≤ 1000000; omega)).mono ?_
    rintro e w7 ⟨hx7, hcase⟩
    obtain ⟨A7, c7, rfl, ho7⟩ : ∃ A' c', e = .returned (.tuple #[.slice (some A') (fbytes ⟨[d0, d1, d2, d3, d4, d5], [s0, s1, s2, s3, s4, s5], (tg : Int), ty, l1⟩).length c', .nilIface]) ∧ OB w7 w6.heap.size (.slice (some A') (fbytes ⟨[d0, d1, d2, d3, d4, d5], [s0, s1, s2, s3, s4, s5], (tg : Int), ty, l1⟩).length c') (fbytes ⟨[d0, d1, d2, d3, d4, d5], [s0, s1, s2, s3, s4, s5], (tg : Int), ty, l1⟩) := by
      rcases hcase with ⟨h, _⟩ | ⟨_, h, _⟩ | ⟨_, _, A', c', h1, h2⟩
      · exact absurd h NB1.out
      · have := HC1.out; omega
      · exact ⟨A', c', h1, h2⟩
    clear hcase
    have hC := HC1.out
    obtain ⟨Cb, hCb⟩ : ∃ Cb, Cb = fbytes ⟨[d0, d1, d2, d3, d4, d5], [s0, s1, s2, s3, s4, s5], (tg : Int), ty, l1⟩ := ⟨_, rfl⟩
    rw [← hCb] at ho7 hC ⊢
    have HCB := Lib.hid hCb
    have HO7 := Lib.hid ho7
    have HX7 := Lib.hid (HX6.out.trans hx7)
    have HX67 := Lib.hid hx7
    have HB7 := Lib.hid ((hx7.block fb (row_lt HB6.out) id).trans HB6.out)
    have c14' := row_cell (k := 14) (v := .slice A l1.length c) HB7.out rfl
    have c13' := row_cell (k := 13) (v := .int .u16 (ty : Int)) HB7.out rfl
    have hCl : (Cb.length : Int) = 18 + (l1.length : Int) := by omega
    have qc := IntWalk.i64_in (18 + (l1.length : Int)) (by omega)
    have hC18 : ((Cb.length : Int) != 18 + (l1.length : Int)) = false := by simp; omega
    have hCb9 : Cb.length ≤ 2018 := by omega
    have hC16 : 16 ≤ Cb.length := by omega
    have HCL := Lib.hid hC
    clear ho7 hCb hx7 hC ck0 ck1 ck2 ck3 ck4 ck5 ck6 ck7 ck8 ck9 ck10 ck11 ck12 ck13 ck14
    obtain ⟨g7, rfl, hg71, hg72⟩ := HO7.out.plain
    have hC7c : Cb.length ≤ c7 := by obtain ⟨_, _, _, e, h, _⟩ := HO7.out.rb; injection e with _ _ e3; rw [e3]; exact h
    have HO47 := Lib.hid ((HO4.out.keep HXS.out (fun k hk _ _ e => by obtain rfl := Option.some.inj hk; omega)).keep HX67.out (fun _ _ _ _ => id))
    go_upto_region 11 with fail
    clear c14' c13' hC18
    go_wp2_with fail
    refine (parse_any _ (some ⟨g7, 0, none⟩) Cb.length c7 Cb w7 HO7.out.rb.any (fun h => by cases h) (by omega)).mono ?_
    rintro e w8 ⟨hx8, hcase⟩
    have hps : pframe Cb = some ⟨[d0, d1, d2, d3, d4, d5], [s0, s1, s2, s3, s4, s5], (tg : Int), ty, l1⟩ := by
      have := pframe_head OK1.out NB1.out l1
      rw [HCB.out, fbytes_head]
      exact this
    obtain ⟨A8, g8, rfl, hb8⟩ : ∃ A' g, e = .returned (.tuple #[frv ⟨[d0, d1, d2, d3, d4, d5], [s0, s1, s2, s3, s4, s5], (tg : Int), ty, l1⟩ (.slice A' l1.length l1.length), .nilIface]) ∧ RB w8 (fun j => j = g) (.slice A' l1.length l1.length) l1 := by
      rcases hcase with ⟨h, _⟩ | ⟨_, h, _⟩ | ⟨_, f, A', g, o, h1, h2, _, h3, _⟩
      · omega
      · rw [hps] at h; cases h
      · rw [hps] at h1
        obtain rfl := Option.some.inj h1
        exact ⟨A', g, h2, h3⟩
    clear hcase hps
    have hz : frv ⟨[d0, d1, d2, d3, d4, d5], [s0, s1, s2, s3, s4, s5], (tg : Int), ty, l1⟩ (.slice A8 l1.length l1.length) = .agg #[.int .u8 (d0.toNat : Int), .int .u8 (d1.toNat : Int), .int .u8 (d2.toNat : Int), .int .u8 (d3.toNat : Int), .int .u8 (d4.toNat : Int), .int .u8 (d5.toNat : Int), .int .u8 (s0.toNat : Int), .int .u8 (s1.toNat : Int), .int .u8 (s2.toNat : Int), .int .u8 (s3.toNat : Int), .int .u8 (s4.toNat : Int), .int .u8 (s5.toNat : Int), .int .i64 (tg : Int), .int .u16 (ty : Int), .slice A8 l1.length l1.length] := rfl
    rw [hz]
    clear hz hb8
    have HX8 := Lib.hid (HX7.out.trans hx8)
    have HB8 := Lib.hid ((hx8.block fb (row_lt HB7.out) id).trans HB7.out)
    have HO48 := Lib.hid (HO47.out.keep hx8 (fun _ _ _ _ => id))
    have HO78 := Lib.hid (HO7.out.keep hx8 (fun _ _ _ _ => id))
    clear hx8
    go_upto_region 12 with fail
    have hx9 : Ex (fun _ => False) w8 (w8.alloc (.cells #[.int .u8 (d0.toNat : Int), .int .u8 (d1.toNat : Int), .int .u8 (d2.toNat : Int), .int .u8 (d3.toNat : Int), .int .u8 (d4.toNat : Int), .int .u8 (d5.toNat : Int), .int .u8 (s0.toNat : Int), .int .u8 (s1.toNat : Int), .int .u8 (s2.toNat : Int), .int .u8 (s3.toNat : Int), .int .u8 (s4.toNat : Int), .int .u8 (s5.toNat : Int), .int .i64 (tg : Int), .int .u16 (ty : Int), .slice A8 l1.length l1.length] 76)) := (Ex.refl _ w8).alloc _
    have hxr : (w8.alloc (.cells #[.int .u8 (d0.toNat : Int), .int .u8 (d1.toNat : Int), .int .u8 (d2.toNat : Int), .int .u8 (d3.toNat : Int), .int .u8 (d4.toNat : Int), .int .u8 (d5.toNat : Int), .int .u8 (s0.toNat : Int), .int .u8 (s1.toNat : Int), .int .u8 (s2.toNat : Int), .int .u8 (s3.toNat : Int), .int .u8 (s4.toNat : Int), .int .u8 (s5.toNat : Int), .int .i64 (tg : Int), .int .u16 (ty : Int), .slice A8 l1.length l1.length] 76)).heap[w8.heap.size]? = some (.cells #[.int .u8 (d0.toNat : Int), .int .u8 (d1.toNat : Int), .int .u8 (d2.toNat : Int), .int .u8 (d3.toNat : Int), .int .u8 (d4.toNat : Int), .int .u8 (d5.toNat : Int), .int .u8 (s0.toNat : Int), .int .u8 (s1.toNat : Int), .int .u8 (s2.toNat : Int), .int .u8 (s3.toNat : Int), .int .u8 (s4.toNat : Int), .int .u8 (s5.toNat : Int), .int .i64 (tg : Int), .int .u16 (ty : Int), .slice A8 l1.length l1.length] 76) := heap_alloc_new w8 _
    generalize w8.alloc (.cells #[.int .u8 (d0.toNat : Int), .int .u8 (d1.toNat : Int), .int .u8 (d2.toNat : Int), .int .u8 (d3.toNat : Int), .int .u8 (d4.toNat : Int), .int .u8 (d5.toNat : Int), .int .u8 (s0.toNat : Int), .int .u8 (s1.toNat : Int), .int .u8 (s2.toNat : Int), .int .u8 (s3.toNat : Int), .int .u8 (s4.toNat : Int), .int .u8 (s5.toNat : Int), .int .i64 (tg : Int), .int .u16 (ty : Int), .slice A8 l1.length l1.length] 76) = w9 at hx9 hxr ⊢
    generalize w8.heap.size = xb at hxr ⊢
    have hfr := (hx9.block fb (row_lt HB8.out) id).trans HB8.out
    have HX9 := Lib.hid (HX8.out.trans hx9)
    have cf13 := row_cell (k := 13) (v := .int .u16 (ty : Int)) hfr rfl
    have cx12 := row_cell (k := 12) (v := .int .i64 (tg : Int)) hxr rfl
    have cx13 := row_cell (k := 13) (v := .int .u16 (ty : Int)) hxr rfl
    have ob := (HO48.out.keep hx9 (fun _ _ _ _ => id)).rb.any
    have oc := (HO78.out.keep hx9 (fun _ _ _ _ => id)).rb.any
    have e1 : B0.take 12 = [d0, d1, d2, d3, d4, d5] ++ [s0, s1, s2, s3, s4, s5] := by rw [HB0E.out]; simp [fbytes]
    have e2 : Cb.take 12 = [d0, d1, d2, d3, d4, d5] ++ [s0, s1, s2, s3, s4, s5] := by rw [HCB.out]; simp [fbytes]
    have e3 : B0.drop 12 = txt (ty : Int) 2 ++ l1 := by rw [HB0E.out]; simp [fbytes]
    have e4 : Cb.drop 16 = txt (ty : Int) 2 ++ l1 := by rw [HCB.out]; simp [fbytes, txt, show ¬ ((tg : Int) = -1) by omega]
    have r1 := ob.slice 0 12 (by omega) (by omega)
    have r2 := oc.slice 0 12 (by omega) (by omega)
    have r3 := ob.slice 12 B0.length (by omega) (by omega)
    have r4 := oc.slice 16 Cb.length (by omega) (by omega)
    rw [List.drop_zero, e1] at r1
    rw [List.drop_zero, e2] at r2
    rw [List.take_length, e3] at r3
    rw [List.take_length, e4] at r4
    obtain ⟨L1, hL1⟩ : ∃ L1, L1 = [d0, d1, d2, d3, d4, d5] ++ [s0, s1, s2, s3, s4, s5] := ⟨_, rfl⟩
    obtain ⟨L2, hL2⟩ : ∃ L2, L2 = txt (ty : Int) 2 ++ l1 := ⟨_, rfl⟩
    rw [← hL1] at r1 r2
    rw [← hL2] at r3 r4
    have v1 : ∀ W, Ex (fun _ => False) w9 W → (convert 23 9 (.slice (some ⟨g4, 0, none⟩) 12 c4)).run Tryd.prog W = .ok (.string (bs L1)) W := conv_later (by simpa using r1)
    have v2 : ∀ W, Ex (fun _ => False) w9 W → (convert 23 9 (.slice (some ⟨g7, 0, none⟩) 12 c7)).run Tryd.prog W = .ok (.string (bs L1)) W := conv_later (by simpa using r2)
    have v3 : ∀ W, Ex (fun _ => False) w9 W → (convert 23 9 (.slice (some ⟨g4, 12, none⟩) (B0.length - 12) (c4 - 12))).run Tryd.prog W = .ok (.string (bs L2)) W := conv_later (by simpa using r3)
    have v4 : ∀ W, Ex (fun _ => False) w9 W → (convert 23 9 (.slice (some ⟨g7, 16, none⟩) (Cb.length - 16) (c7 - 16))).run Tryd.prog W = .ok (.string (bs L2)) W := conv_later (by simpa using r4)
    have k1 : (12 : Int) ≤ (B0.length : Int) := by omega
    have k2 : 12 ≤ c4 := by omega
    have k3 : 12 ≤ c7 := by omega
    have k4 : 16 ≤ c7 := by omega
    have k2i : (12 : Int) ≤ (c4 : Int) := by omega
    have k3i : (12 : Int) ≤ (c7 : Int) := by omega
    have k4i : (16 : Int) ≤ (c7 : Int) := by omega
    have k1i : (16 : Int) ≤ (Cb.length : Int) := by omega
    have k0i : (B0.length : Int) ≤ (c4 : Int) := by omega
    have k0j : (Cb.length : Int) ≤ (c7 : Int) := by omega
    have k5 : ¬ c4 = 12 := by omega
    have k6 : ¬ c7 = 16 := by omega
    have k7 : 12 ≤ B0.length := by omega
    have k8 : ((B0.length : Int) + 4 == (Cb.length : Int)) = true := by
      have := HBL.out
      have := HCL.out
      simp; omega
    have k9 := IntWalk.i64_in ((B0.length : Int) + 4) (by omega)
    clear hx9 hxr hfr ob oc e1 e2 e3 e4 r1 r2 r3 r4 hL1 hL2 hCl
    have hS : Ex (fun _ => False) w9 w9.drew := (Ex.refl _ w9).drew
    refine wp_region_held_drew (S := fun W => Ex (fun _ => False) w9 W) (by kernel_rfl) hS (fun _ => ?_)
    refine wpAnyH_take (i := 0) (oi := { dst := some 60, op := Go.Op.move (Go.Operand.tmp 5), type := 4, pos := "more.go:40", after := #[], guard := none }) (v := ?v1) rfl (by kernel_rfl) (by kernel_rfl) (by kernel_rfl) (fun _ _ _ h => h) (Or.inl ⟨by rfl, ?hy1⟩) (by assumption) ?rest1
    case hy1 => (intro w hSw; (try dsimp only at hSw); have ef13 := hSw.cell cf13 id; have ex12 := hSw.cell cx12 id; have ex13 := hSw.cell cx13 id; go_simp <;> with_reducible rfl)
    try simp only [Act.put, List.setIfInBounds_toArray, List.set_cons_zero, List.set_cons_succ]
    refine wpAnyH_take (i := 1) (oi := { dst := some 61, op := Go.Op.move (Go.Operand.tmp 60), type := 4, pos := "more.go:40", after := #[{ on := 0, ground := Go.Ground.data }], guard := none }) (v := ?v2) rfl (by kernel_rfl) (by kernel_rfl) (by kernel_rfl) (fun _ _ _ h => h) (Or.inl ⟨by rfl, ?hy2⟩) (by assumption) ?rest2
    case hy2 => (intro w hSw; (try dsimp only at hSw); have ef13 := hSw.cell cf13 id; have ex12 := hSw.cell cx12 id; have ex13 := hSw.cell cx13 id; go_simp <;> with_reducible rfl)
    try simp only [Act.put, List.setIfInBounds_toArray, List.set_cons_zero, List.set_cons_succ]
    refine wpAnyH_take (i := 2) (oi := { dst := some 62, op := Go.Op.move (Go.Operand.tmp 7), type := 28, pos := "more.go:40", after := #[{ on := 1, ground := Go.Ground.guard }], guard := some (1, true) }) (v := ?v3) rfl (by kernel_rfl) (by kernel_rfl) (by kernel_rfl) (fun _ _ _ h => h) (Or.inl ⟨by rfl, ?hy3⟩) (by assumption) ?rest3
    case hy3 => (intro w hSw; (try dsimp only at hSw); have ef13 := hSw.cell cf13 id; have ex12 := hSw.cell cx12 id; have ex13 := hSw.cell cx13 id; go_simp <;> with_reducible rfl)
    try simp only [Act.put, List.setIfInBounds_toArray, List.set_cons_zero, List.set_cons_succ]
    refine wpAnyH_take (i := 3) (oi := { dst := some 63, op := Go.Op.binOp Go.BinOp.eql 28 (Go.Operand.tmp 62) (Go.Operand.const Go.Value.nilIface) 28, type := 4, pos := "more.go:40", after := #[{ on := 2, ground := Go.Ground.data }, { on := 1, ground := Go.Ground.guard }], guard := some (1, true) }) (v := ?v4) rfl (by kernel_rfl) (by kernel_rfl) (by kernel_rfl) (fun _ _ _ h => h) (Or.inl ⟨by rfl, ?hy4⟩) (by assumption) ?rest4
    case hy4 => (intro w hSw; (try dsimp only at hSw); have ef13 := hSw.cell cf13 id; have ex12 := hSw.cell cx12 id; have ex13 := hSw.cell cx13 id; go_simp <;> with_reducible rfl)
    try simp only [Act.put, List.setIfInBounds_toArray, List.set_cons_zero, List.set_cons_succ]
    refine wpAnyH_take (i := 4) (oi := { dst := some 64, op := Go.Op.pick (Go.Operand.tmp 61) (Go.Operand.tmp 63) (Go.Operand.const (Go.Value.bool false)), type := 4, pos := "more.go:40", after := #[{ on := 1, ground := Go.Ground.data }, { on := 3, ground := Go.Ground.data }], guard := none }) (v := ?v5) rfl (by kernel_rfl) (by kernel_rfl) (by kernel_rfl) (fun _ _ _ h => h) (Or.inl ⟨by rfl, ?hy5⟩) (by assumption) ?rest5
    case hy5 => (intro w hSw; (try dsimp only at hSw); have ef13 := hSw.cell cf13 id; have ex12 := hSw.cell cx12 id; have ex13 := hSw.cell cx13 id; go_simp <;> with_reducible rfl)
    try simp only [Act.put, List.setIfInBounds_toArray, List.set_cons_zero, List.set_cons_succ]
    refine wpAnyH_take (i := 5) (oi := { dst := some 65, op := Go.Op.move (Go.Operand.tmp 64), type := 4, pos := "more.go:40", after := #[{ on := 4, ground := Go.Ground.data }, { on := 1, ground := Go.Ground.chain }], guard := none }) (v := ?v6) rfl (by kernel_rfl) (by kernel_rfl) (by kernel_rfl) (fun _ _ _ h => h) (Or.inl ⟨by rfl, ?hy6⟩) (by assumption) ?rest6
    case hy6 => (intro w hSw; (try dsimp only at hSw); have ef13 := hSw.cell cf13 id; have ex12 := hSw.cell cx12 id; have ex13 := hSw.cell cx13 id; go_simp <;> with_reducible rfl)
    try simp only [Act.put, List.setIfInBounds_toArray, List.set_cons_zero, List.set_cons_succ]
    refine wpAnyH_take (i := 6) (oi := { dst := some 66, op := Go.Op.move (Go.Operand.tmp 6), type := 23, pos := "more.go:40", after := #[{ on := 5, ground := Go.Ground.guard }], guard := some (5, true) }) (v := ?v7) rfl (by kernel_rfl) (by kernel_rfl) (by kernel_rfl) (fun _ _ _ h => h) (Or.inl ⟨by rfl, ?hy7⟩) (by assumption) ?rest7
    case hy7 => (intro w hSw; (try dsimp only at hSw); have ef13 := hSw.cell cf13 id; have ex12 := hSw.cell cx12 id; have ex13 := hSw.cell cx13 id; go_simp <;> with_reducible rfl)
    try simp only [Act.put, List.setIfInBounds_toArray, List.set_cons_zero, List.set_cons_succ]
    refine wpAnyH_take (i := 7) (oi := { dst := some 67, op := Go.Op.call { callee := Go.Callee.builtin Go.Builtin.len, args := #[Go.Operand.tmp 66], argTypes := #[23] }, type := 3, pos := "more.go:40", after := #[{ on := 6, ground := Go.Ground.data }, { on := 5, ground := Go.Ground.guard }], guard := some (5, true) }) (v := ?v8) rfl (by kernel_rfl) (by kernel_rfl) (by kernel_rfl) (fun _ _ _ h => h) (Or.inl ⟨by rfl, ?hy8⟩) (by assumption) ?rest8
    case hy8 => (intro w hSw; (try dsimp only at hSw); have ef13 := hSw.cell cf13 id; have ex12 := hSw.cell cx12 id; have ex13 := hSw.cell cx13 id; go_simp <;> with_reducible rfl)
    try simp only [Act.put, List.setIfInBounds_toArray, List.set_cons_zero, List.set_cons_succ]
    refine wpAnyH_take (i := 8) (oi := { dst := some 68, op := Go.Op.binOp Go.BinOp.add 3 (Go.Operand.tmp 67) (Go.Operand.const (Go.Value.int Go.IntKind.i64 4)) 3, type := 3, pos := "more.go:40", after := #[{ on := 7, ground := Go.Ground.data }, { on := 5, ground := Go.Ground.guard }], guard := some (5, true) }) (v := ?v9) rfl (by kernel_rfl) (by kernel_rfl) (by kernel_rfl) (fun _ _ _ h => h) (Or.inl ⟨by rfl, ?hy9⟩) (by assumption) ?rest9
    case hy9 => (intro w hSw; (try dsimp only at hSw); have ef13 := hSw.cell cf13 id; have ex12 := hSw.cell cx12 id; have ex13 := hSw.cell cx13 id; go_simp <;> with_reducible rfl)
    try simp only [Act.put, List.setIfInBounds_toArray, List.set_cons_zero, List.set_cons_succ]
    refine wpAnyH_take (i := 9) (oi := { dst := some 69, op := Go.Op.move (Go.Operand.tmp 8), type := 23, pos := "more.go:40", after := #[{ on := 5, ground := Go.Ground.guard }], guard := some (5, true) }) (v := ?v10) rfl (by kernel_rfl) (by kernel_rfl) (by kernel_rfl) (fun _ _ _ h => h) (Or.inl ⟨by rfl, ?hy10⟩) (by assumption) ?rest10
    case hy10 => (intro w hSw; (try dsimp only at hSw); have ef13 := hSw.cell cf13 id; have ex12 := hSw.cell cx12 id; have ex13 := hSw.cell cx13 id; go_simp <;> with_reducible rfl)
    try simp only [Act.put, List.setIfInBounds_toArray, List.set_cons_zero, List.set_cons_succ]
    refine wpAnyH_take (i := 10) (oi := { dst := some 70, op := Go.Op.call { callee := Go.Callee.builtin Go.Builtin.len, args := #[Go.Operand.tmp 69], argTypes := #[23] }, type := 3, pos := "more.go:40", after := #[{ on := 9, ground := Go.Ground.data }, { on := 5, ground := Go.Ground.guard }], guard := some (5, true) }) (v := ?v11) rfl (by kernel_rfl) (by kernel_rfl) (by kernel_rfl) (fun _ _ _ h => h) (Or.inl ⟨by rfl, ?hy11⟩) (by assumption) ?rest11
    case hy11 => (intro w hSw; (try dsimp only at hSw); have ef13 := hSw.cell cf13 id; have ex12 := hSw.cell cx12 id; have ex13 := hSw.cell cx13 id; go_simp <;> with_reducible rfl)
    try simp only [Act.put, List.setIfInBounds_toArray, List.set_cons_zero, List.set_cons_succ]
    refine wpAnyH_take (i := 11) (oi := { dst := some 71, op := Go.Op.binOp Go.BinOp.eql 3 (Go.Operand.tmp 68) (Go.Operand.tmp 70) 3, type := 4, pos := "more.go:40", after := #[{ on := 8, ground := Go.Ground.data }, { on := 10, ground := Go.Ground.data }, { on := 5, ground := Go.Ground.guard }], guard := some (5, true) }) (v := ?v12) rfl (by kernel_rfl) (by kernel_rfl) (by kernel_rfl) (fun _ _ _ h => h) (Or.inl ⟨by rfl, ?hy12⟩) (by assumption) ?rest12
    case hy12 => (intro w hSw; (try dsimp only at hSw); have ef13 := hSw.cell cf13 id; have ex12 := hSw.cell cx12 id; have ex13 := hSw.cell cx13 id; go_simp <;> with_reducible rfl)
    try simp only [Act.put, List.setIfInBounds_toArray, List.set_cons_zero, List.set_cons_succ]
    refine wpAnyH_take (i := 12) (oi := { dst := some 72, op := Go.Op.pick (Go.Operand.tmp 65) (Go.Operand.tmp 71) (Go.Operand.const (Go.Value.bool false)), type := 4, pos := "more.go:40", after := #[{ on := 5, ground := Go.Ground.data }, { on := 11, ground := Go.Ground.data }], guard := none }) (v := ?v13) rfl (by kernel_rfl) (by kernel_rfl) (by kernel_rfl) (fun _ _ _ h => h) (Or.inl ⟨by rfl, ?hy13⟩) (by assumption) ?rest13
    case hy13 => (intro w hSw; (try dsimp only at hSw); have ef13 := hSw.cell cf13 id; have ex12 := hSw.cell cx12 id; have ex13 := hSw.cell cx13 id; go_simp <;> with_reducible rfl)
    try simp only [Act.put, List.setIfInBounds_toArray, List.set_cons_zero, List.set_cons_succ]
    refine wpAnyH_take (i := 13) (oi := { dst := some 73, op := Go.Op.move (Go.Operand.tmp 72), type := 4, pos := "more.go:40", after := #[{ on := 12, ground := Go.Ground.data }, { on := 5, ground := Go.Ground.chain }], guard := none }) (v := ?v14) rfl (by kernel_rfl) (by kernel_rfl) (by kernel_rfl) (fun _ _ _ h => h) (Or.inl ⟨by rfl, ?hy14⟩) (by assumption) ?rest14
    case hy14 => (intro w hSw; (try dsimp only at hSw); have ef13 := hSw.cell cf13 id; have ex12 := hSw.cell cx12 id; have ex13 := hSw.cell cx13 id; go_simp <;> with_reducible rfl)
    try simp only [Act.put, List.setIfInBounds_toArray, List.set_cons_zero, List.set_cons_succ]
    refine wpAnyH_take (i := 14) (oi := { dst := some 74, op := Go.Op.move (Go.Operand.tmp 6), type := 23, pos := "more.go:40", after := #[{ on := 13, ground := Go.Ground.guard }], guard := some (13, true) }) (v := ?v15) rfl (by kernel_rfl) (by kernel_rfl) (by kernel_rfl) (fun _ _ _ h => h) (Or.inl ⟨by rfl, ?hy15⟩) (by assumption) ?rest15
    case hy15 => (intro w hSw; (try dsimp only at hSw); have ef13 := hSw.cell cf13 id; have ex12 := hSw.cell cx12 id; have ex13 := hSw.cell cx13 id; go_simp <;> with_reducible rfl)
    try simp only [Act.put, List.setIfInBounds_toArray, List.set_cons_zero, List.set_cons_succ]
    refine wpAnyH_take (i := 15) (oi := { dst := some 75, op := Go.Op.slice 23 (Go.Operand.tmp 74) none (some (Go.Operand.const (Go.Value.int Go.IntKind.i64 12))) none, type := 23, pos := "more.go:40", after := #[{ on := 14, ground := Go.Ground.data }, { on := 13, ground := Go.Ground.guard }], guard := some (13, true) }) (v := ?v16) rfl (by kernel_rfl) (by kernel_rfl) (by kernel_rfl) (fun _ _ _ h => h) (Or.inl ⟨by rfl, ?hy16⟩) (by assumption) ?rest16
    case hy16 => (intro w hSw; (try dsimp only at hSw); have ef13 := hSw.cell cf13 id; have ex12 := hSw.cell cx12 id; have ex13 := hSw.cell cx13 id; go_simp <;> with_reducible rfl)
    try simp only [Act.put, List.setIfInBounds_toArray, List.set_cons_zero, List.set_cons_succ]
    refine wpAnyH_take (i := 16) (oi := { dst := some 76, op := Go.Op.convert 23 9 (Go.Operand.tmp 75), type := 9, pos := "more.go:40", after := #[{ on := 15, ground := Go.Ground.data }, { on := 13, ground := Go.Ground.guard }], guard := some (13, true) }) (v := ?v17) rfl (by kernel_rfl) (by kernel_rfl) (by kernel_rfl) (fun _ _ _ h => h) (Or.inl ⟨by rfl, ?hy17⟩) (by assumption) ?rest17
    case hy17 => (intro w hSw; (try dsimp only at hSw); have ef13 := hSw.cell cf13 id; have ex12 := hSw.cell cx12 id; have ex13 := hSw.cell cx13 id; go_simp <;> with_reducible rfl)
    try simp only [Act.put, List.setIfInBounds_toArray, List.set_cons_zero, List.set_cons_succ]
    refine wpAnyH_take (i := 17) (oi := { dst := some 77, op := Go.Op.move (Go.Operand.tmp 8), type := 23, pos := "more.go:40", after := #[{ on := 13, ground := Go.Ground.guard }], guard := some (13, true) }) (v := ?v18) rfl (by kernel_rfl) (by kernel_rfl) (by kernel_rfl) (fun _ _ _ h => h) (Or.inl ⟨by rfl, ?hy18⟩) (by assumption) ?rest18
    case hy18 => (intro w hSw; (try dsimp only at hSw); have ef13 := hSw.cell cf13 id; have ex12 := hSw.cell cx12 id; have ex13 := hSw.cell cx13 id; go_simp <;> with_reducible rfl)
    try simp only [Act.put, List.setIfInBounds_toArray, List.set_cons_zero, List.set_cons_succ]
    refine wpAnyH_take (i := 18) (oi := { dst := some 78, op := Go.Op.slice 23 (Go.Operand.tmp 77) none (some (Go.Operand.const (Go.Value.int Go.IntKind.i64 12))) none, type := 23, pos := "more.go:40", after := #[{ on := 17, ground := Go.Ground.data }, { on := 13, ground := Go.Ground.guard }], guard := some (13, true) }) (v := ?v19) rfl (by kernel_rfl) (by kernel_rfl) (by kernel_rfl) (fun _ _ _ h => h) (Or.inl ⟨by rfl, ?hy19⟩) (by assumption) ?rest19
    case hy19 => (intro w hSw; (try dsimp only at hSw); have ef13 := hSw.cell cf13 id; have ex12 := hSw.cell cx12 id; have ex13 := hSw.cell cx13 id; go_simp <;> with_reducible rfl)
    try simp only [Act.put, List.setIfInBounds_toArray, List.set_cons_zero, List.set_cons_succ]
    refine wpAnyH_take (i := 19) (oi := { dst := some 79, op := Go.Op.convert 23 9 (Go.Operand.tmp 78), type := 9, pos := "more.go:40", after := #[{ on := 18, ground := Go.Ground.data }, { on := 13, ground := Go.Ground.guard }], guard := some (13, true) }) (v := ?v20) rfl (by kernel_rfl) (by kernel_rfl) (by kernel_rfl) (fun _ _ _ h => h) (Or.inl ⟨by rfl, ?hy20⟩) (by assumption) ?rest20
    case hy20 => (intro w hSw; (try dsimp only at hSw); have ef13 := hSw.cell cf13 id; have ex12 := hSw.cell cx12 id; have ex13 := hSw.cell cx13 id; go_simp <;> with_reducible rfl)
    try simp only [Act.put, List.setIfInBounds_toArray, List.set_cons_zero, List.set_cons_succ]
    refine wpAnyH_take (i := 20) (oi := { dst := some 80, op := Go.Op.binOp Go.BinOp.eql 9 (Go.Operand.tmp 76) (Go.Operand.tmp 79) 9, type := 4, pos := "more.go:40", after := #[{ on := 16, ground := Go.Ground.data }, { on := 19, ground := Go.Ground.data }, { on := 13, ground := Go.Ground.guard }], guard := some (13, true) }) (v := ?v21) rfl (by kernel_rfl) (by kernel_rfl) (by kernel_rfl) (fun _ _ _ h => h) (Or.inl ⟨by rfl, ?hy21⟩) (by assumption) ?rest21
    case hy21 => (intro w hSw; (try dsimp only at hSw); have ef13 := hSw.cell cf13 id; have ex12 := hSw.cell cx12 id; have ex13 := hSw.cell cx13 id; go_simp <;> with_reducible rfl)
    try simp only [Act.put, List.setIfInBounds_toArray, List.set_cons_zero, List.set_cons_succ]
    refine wpAnyH_take (i := 21) (oi := { dst := some 81, op := Go.Op.pick (Go.Operand.tmp 73) (Go.Operand.tmp 80) (Go.Operand.const (Go.Value.bool false)), type := 4, pos := "more.go:40", after := #[{ on := 13, ground := Go.Ground.data }, { on := 20, ground := Go.Ground.data }], guard := none }) (v := ?v22) rfl (by kernel_rfl) (by kernel_rfl) (by kernel_rfl) (fun _ _ _ h => h) (Or.inl ⟨by rfl, ?hy22⟩) (by assumption) ?rest22
    case hy22 => (intro w hSw; (try dsimp only at hSw); have ef13 := hSw.cell cf13 id; have ex12 := hSw.cell cx12 id; have ex13 := hSw.cell cx13 id; go_simp <;> with_reducible rfl)
    try simp only [Act.put, List.setIfInBounds_toArray, List.set_cons_zero, List.set_cons_succ]
    refine wpAnyH_take (i := 22) (oi := { dst := some 82, op := Go.Op.move (Go.Operand.tmp 81), type := 4, pos := "more.go:40", after := #[{ on := 21, ground := Go.Ground.data }, { on := 13, ground := Go.Ground.chain }], guard := none }) (v := ?v23) rfl (by kernel_rfl) (by kernel_rfl) (by kernel_rfl) (fun _ _ _ h => h) (Or.inl ⟨by rfl, ?hy23⟩) (by assumption) ?rest23
    case hy23 => (intro w hSw; (try dsimp only at hSw); have ef13 := hSw.cell cf13 id; have ex12 := hSw.cell cx12 id; have ex13 := hSw.cell cx13 id; go_simp <;> with_reducible rfl)
    try simp only [Act.put, List.setIfInBounds_toArray, List.set_cons_zero, List.set_cons_succ]
    refine wpAnyH_take (i := 23) (oi := { dst := some 83, op := Go.Op.move (Go.Operand.tmp 6), type := 23, pos := "more.go:40", after := #[{ on := 22, ground := Go.Ground.guard }], guard := some (22, true) }) (v := ?v24) rfl (by kernel_rfl) (by kernel_rfl) (by kernel_rfl) (fun _ _ _ h => h) (Or.inl ⟨by rfl, ?hy24⟩) (by assumption) ?rest24
    case hy24 => (intro w hSw; (try dsimp only at hSw); have ef13 := hSw.cell cf13 id; have ex12 := hSw.cell cx12 id; have ex13 := hSw.cell cx13 id; go_simp <;> with_reducible rfl)
    try simp only [Act.put, List.setIfInBounds_toArray, List.set_cons_zero, List.set_cons_succ]
    refine wpAnyH_take (i := 24) (oi := { dst := some 84, op := Go.Op.slice 23 (Go.Operand.tmp 83) (some (Go.Operand.const (Go.Value.int Go.IntKind.i64 12))) none none, type := 23, pos := "more.go:40", after := #[{ on := 23, ground := Go.Ground.data }, { on := 22, ground := Go.Ground.guard }], guard := some (22, true) }) (v := ?v25) rfl (by kernel_rfl) (by kernel_rfl) (by kernel_rfl) (fun _ _ _ h => h) (Or.inl ⟨by rfl, ?hy25⟩) (by assumption) ?rest25
    case hy25 => (intro w hSw; (try dsimp only at hSw); have ef13 := hSw.cell cf13 id; have ex12 := hSw.cell cx12 id; have ex13 := hSw.cell cx13 id; go_simp <;> with_reducible rfl)
    try simp only [Act.put, List.setIfInBounds_toArray, List.set_cons_zero, List.set_cons_succ]
    refine wpAnyH_take (i := 25) (oi := { dst := some 85, op := Go.Op.convert 23 9 (Go.Operand.tmp 84), type := 9, pos := "more.go:40", after := #[{ on := 24, ground := Go.Ground.data }, { on := 22, ground := Go.Ground.guard }], guard := some (22, true) }) (v := ?v26) rfl (by kernel_rfl) (by kernel_rfl) (by kernel_rfl) (fun _ _ _ h => h) (Or.inl ⟨by rfl, ?hy26⟩) (by assumption) ?rest26
    case hy26 => (intro w hSw; (try dsimp only at hSw); have ef13 := hSw.cell cf13 id; have ex12 := hSw.cell cx12 id; have ex13 := hSw.cell cx13 id; go_simp <;> with_reducible rfl)
    try simp only [Act.put, List.setIfInBounds_toArray, List.set_cons_zero, List.set_cons_succ]
    refine wpAnyH_take (i := 26) (oi := { dst := some 86, op := Go.Op.move (Go.Operand.tmp 8), type := 23, pos := "more.go:40", after := #[{ on := 22, ground := Go.Ground.guard }], guard := some (22, true) }) (v := ?v27) rfl (by kernel_rfl) (by kernel_rfl) (by kernel_rfl) (fun _ _ _ h => h) (Or.inl ⟨by rfl, ?hy27⟩) (by assumption) ?rest27
    case hy27 => (intro w hSw; (try dsimp only at hSw); have ef13 := hSw.cell cf13 id; have ex12 := hSw.cell cx12 id; have ex13 := hSw.cell cx13 id; go_simp <;> with_reducible rfl)
    try simp only [Act.put, List.setIfInBounds_toArray, List.set_cons_zero, List.set_cons_succ]
    refine wpAnyH_take (i := 27) (oi := { dst := some 87, op := Go.Op.slice 23 (Go.Operand.tmp 86) (some (Go.Operand.const (Go.Value.int Go.IntKind.i64 16))) none none, type := 23, pos := "more.go:40", after := #[{ on := 26, ground := Go.Ground.data }, { on := 22, ground := Go.Ground.guard }], guard := some (22, true) }) (v := ?v28) rfl (by kernel_rfl) (by kernel_rfl) (by kernel_rfl) (fun _ _ _ h => h) (Or.inl ⟨by rfl, ?hy28⟩) (by assumption) ?rest28
    case hy28 => (intro w hSw; (try dsimp only at hSw); have ef13 := hSw.cell cf13 id; have ex12 := hSw.cell cx12 id; have ex13 := hSw.cell cx13 id; go_simp <;> with_reducible rfl)
    try simp only [Act.put, List.setIfInBounds_toArray, List.set_cons_zero, List.set_cons_succ]
    refine wpAnyH_take (i := 28) (oi := { dst := some 88, op := Go.Op.convert 23 9 (Go.Operand.tmp 87), type := 9, pos := "more.go:40", after := #[{ on := 27, ground := Go.Ground.data }, { on := 22, ground := Go.Ground.guard }], guard := some (22, true) }) (v := ?v29) rfl (by kernel_rfl) (by kernel_rfl) (by kernel_rfl) (fun _ _ _ h => h) (Or.inl ⟨by rfl, ?hy29⟩) (by assumption) ?rest29
    case hy29 => (intro w hSw; (try dsimp only at hSw); have ef13 := hSw.cell cf13 id; have ex12 := hSw.cell cx12 id; have ex13 := hSw.cell cx13 id; go_simp <;> with_reducible rfl)
    try simp only [Act.put, List.setIfInBounds_toArray, List.set_cons_zero, List.set_cons_succ]
    refine wpAnyH_take (i := 29) (oi := { dst := some 89, op := Go.Op.binOp Go.BinOp.eql 9 (Go.Operand.tmp 85) (Go.Operand.tmp 88) 9, type := 4, pos := "more.go:40", after := #[{ on := 25, ground := Go.Ground.data }, { on := 28, ground := Go.Ground.data }, { on := 22, ground := Go.Ground.guard }], guard := some (22, true) }) (v := ?v30) rfl (by kernel_rfl) (by kernel_rfl) (by kernel_rfl) (fun _ _ _ h => h) (Or.inl ⟨by rfl, ?hy30⟩) (by assumption) ?rest30
    case hy30 => (intro w hSw; (try dsimp only at hSw); have ef13 := hSw.cell cf13 id; have ex12 := hSw.cell cx12 id; have ex13 := hSw.cell cx13 id; go_simp <;> with_reducible rfl)
    try simp only [Act.put, List.setIfInBounds_toArray, List.set_cons_zero, List.set_cons_succ]
    refine wpAnyH_take (i := 30) (oi := { dst := some 90, op := Go.Op.pick (Go.Operand.tmp 82) (Go.Operand.tmp 89) (Go.Operand.const (Go.Value.bool false)), type := 4, pos := "more.go:40", after := #[{ on := 22, ground := Go.Ground.data }, { on := 29, ground := Go.Ground.data }], guard := none }) (v := ?v31) rfl (by kernel_rfl) (by kernel_rfl) (by kernel_rfl) (fun _ _ _ h => h) (Or.inl ⟨by rfl, ?hy31⟩) (by assumption) ?rest31
    case hy31 => (intro w hSw; (try dsimp only at hSw); have ef13 := hSw.cell cf13 id; have ex12 := hSw.cell cx12 id; have ex13 := hSw.cell cx13 id; go_simp <;> with_reducible rfl)
    try simp only [Act.put, List.setIfInBounds_toArray, List.set_cons_zero, List.set_cons_succ]
    refine wpAnyH_take (i := 31) (oi := { dst := some 91, op := Go.Op.move (Go.Operand.tmp 90), type := 4, pos := "more.go:40", after := #[{ on := 30, ground := Go.Ground.data }, { on := 22, ground := Go.Ground.chain }], guard := none }) (v := ?v32) rfl (by kernel_rfl) (by kernel_rfl) (by kernel_rfl) (fun _ _ _ h => h) (Or.inl ⟨by rfl, ?hy32⟩) (by assumption) ?rest32
    case hy32 => (intro w hSw; (try dsimp only at hSw); have ef13 := hSw.cell cf13 id; have ex12 := hSw.cell cx12 id; have ex13 := hSw.cell cx13 id; go_simp <;> with_reducible rfl)
    try simp only [Act.put, List.setIfInBounds_toArray, List.set_cons_zero, List.set_cons_succ]
    refine wpAnyH_take (i := 32) (oi := { dst := some 92, op := Go.Op.move (Go.Operand.tmp 11), type := 28, pos := "more.go:40", after := #[{ on := 31, ground := Go.Ground.guard }], guard := some (31, true) }) (v := ?v33) rfl (by kernel_rfl) (by kernel_rfl) (by kernel_rfl) (fun _ _ _ h => h) (Or.inl ⟨by rfl, ?hy33⟩) (by assumption) ?rest33
    case hy33 => (intro w hSw; (try dsimp only at hSw); have ef13 := hSw.cell cf13 id; have ex12 := hSw.cell cx12 id; have ex13 := hSw.cell cx13 id; go_simp <;> with_reducible rfl)
    try simp only [Act.put, List.setIfInBounds_toArray, List.set_cons_zero, List.set_cons_succ]
    refine wpAnyH_take (i := 33) (oi := { dst := some 93, op := Go.Op.binOp Go.BinOp.eql 28 (Go.Operand.tmp 92) (Go.Operand.const Go.Value.nilIface) 28, type := 4, pos := "more.go:40", after := #[{ on := 32, ground := Go.Ground.data }, { on := 31, ground := Go.Ground.guard }], guard := some (31, true) }) (v := ?v34) rfl (by kernel_rfl) (by kernel_rfl) (by kernel_rfl) (fun _ _ _ h => h) (Or.inl ⟨by rfl, ?hy34⟩) (by assumption) ?rest34
    case hy34 => (intro w hSw; (try dsimp only at hSw); have ef13 := hSw.cell cf13 id; have ex12 := hSw.cell cx12 id; have ex13 := hSw.cell cx13 id; go_simp <;> with_reducible rfl)
    try simp only [Act.put, List.setIfInBounds_toArray, List.set_cons_zero, List.set_cons_succ]
    refine wpAnyH_take (i := 34) (oi := { dst := some 94, op := Go.Op.pick (Go.Operand.tmp 91) (Go.Operand.tmp 93) (Go.Operand.const (Go.Value.bool false)), type := 4, pos := "more.go:40", after := #[{ on := 31, ground := Go.Ground.data }, { on := 33, ground := Go.Ground.data }], guard := none }) (v := ?v35) rfl (by kernel_rfl) (by kernel_rfl) (by kernel_rfl) (fun _ _ _ h => h) (Or.inl ⟨by rfl, ?hy35⟩) (by assumption) ?rest35
    case hy35 => (intro w hSw; (try dsimp only at hSw); have ef13 := hSw.cell cf13 id; have ex12 := hSw.cell cx12 id; have ex13 := hSw.cell cx13 id; go_simp <;> with_reducible rfl)
    try simp only [Act.put, List.setIfInBounds_toArray, List.set_cons_zero, List.set_cons_succ]
    refine wpAnyH_take (i := 35) (oi := { dst := some 95, op := Go.Op.move (Go.Operand.tmp 94), type := 4, pos := "more.go:40", after := #[{ on := 34, ground := Go.Ground.data }, { on := 31, ground := Go.Ground.chain }], guard := none }) (v := ?v36) rfl (by kernel_rfl) (by kernel_rfl) (by kernel_rfl) (fun _ _ _ h => h) (Or.inl ⟨by rfl, ?hy36⟩) (by assumption) ?rest36
    case hy36 => (intro w hSw; (try dsimp only at hSw); have ef13 := hSw.cell cf13 id; have ex12 := hSw.cell cx12 id; have ex13 := hSw.cell cx13 id; go_simp <;> with_reducible rfl)
    try simp only [Act.put, List.setIfInBounds_toArray, List.set_cons_zero, List.set_cons_succ]
    refine wpAnyH_take (i := 36) (oi := { dst := some 96, op := Go.Op.fieldAddr 76 (Go.Operand.tmp 10) 2, type := 0, pos := "more.go:40", after := #[{ on := 35, ground := Go.Ground.guard }], guard := some (35, true) }) (v := ?v37) rfl (by kernel_rfl) (by kernel_rfl) (by kernel_rfl) (fun _ _ _ h => h) (Or.inl ⟨by rfl, ?hy37⟩) (by assumption) ?rest37
    case hy37 => (intro w hSw; (try dsimp only at hSw); have ef13 := hSw.cell cf13 id; have ex12 := hSw.cell cx12 id; have ex13 := hSw.cell cx13 id; go_simp <;> with_reducible rfl)
    try simp only [Act.put, List.setIfInBounds_toArray, List.set_cons_zero, List.set_cons_succ]
    refine wpAnyH_take (i := 37) (oi := { dst := some 97, op := Go.Op.load 3 (Go.Operand.tmp 96), type := 3, pos := "more.go:40", after := #[{ on := 36, ground := Go.Ground.data }, { on := 35, ground := Go.Ground.guard }], guard := some (35, true) }) (v := ?v38) rfl (by kernel_rfl) (by kernel_rfl) (by kernel_rfl) (fun _ _ _ h => h) (Or.inl ⟨by rfl, ?hy38⟩) (by assumption) ?rest38
    case hy38 => (intro w hSw; (try dsimp only at hSw); have ef13 := hSw.cell cf13 id; have ex12 := hSw.cell cx12 id; have ex13 := hSw.cell cx13 id; go_simp <;> with_reducible rfl)
    try simp only [Act.put, List.setIfInBounds_toArray, List.set_cons_zero, List.set_cons_succ]
    refine wpAnyH_take (i := 38) (oi := { dst := some 98, op := Go.Op.move (Go.Operand.tmp 1), type := 31, pos := "more.go:40", after := #[{ on := 35, ground := Go.Ground.guard }], guard := some (35, true) }) (v := ?v39) rfl (by kernel_rfl) (by kernel_rfl) (by kernel_rfl) (fun _ _ _ h => h) (Or.inl ⟨by rfl, ?hy39⟩) (by assumption) ?rest39
    case hy39 => (intro w hSw; (try dsimp only at hSw); have ef13 := hSw.cell cf13 id; have ex12 := hSw.cell cx12 id; have ex13 := hSw.cell cx13 id; go_simp <;> with_reducible rfl)
    try simp only [Act.put, List.setIfInBounds_toArray, List.set_cons_zero, List.set_cons_succ]
    refine wpAnyH_take (i := 39) (oi := { dst := some 99, op := Go.Op.convert 31 3 (Go.Operand.tmp 98), type := 3, pos := "more.go:40", after := #[{ on := 38, ground := Go.Ground.data }, { on := 35, ground := Go.Ground.guard }], guard := some (35, true) }) (v := ?v40) rfl (by kernel_rfl) (by kernel_rfl) (by kernel_rfl) (fun _ _ _ h => h) (Or.inl ⟨by rfl, ?hy40⟩) (by assumption) ?rest40
    case hy40 => (intro w hSw; (try dsimp only at hSw); have ef13 := hSw.cell cf13 id; have ex12 := hSw.cell cx12 id; have ex13 := hSw.cell cx13 id; go_simp <;> with_reducible rfl)
    try simp only [Act.put, List.setIfInBounds_toArray, List.set_cons_zero, List.set_cons_succ]
    refine wpAnyH_take (i := 40) (oi := { dst := some 100, op := Go.Op.binOp Go.BinOp.eql 3 (Go.Operand.tmp 97) (Go.Operand.tmp 99) 3, type := 4, pos := "more.go:40", after := #[{ on := 37, ground := Go.Ground.data }, { on := 39, ground := Go.Ground.data }, { on := 35, ground := Go.Ground.guard }], guard := some (35, true) }) (v := ?v41) rfl (by kernel_rfl) (by kernel_rfl) (by kernel_rfl) (fun _ _ _ h => h) (Or.inl ⟨by rfl, ?hy41⟩) (by assumption) ?rest41
    case hy41 => (intro w hSw; (try dsimp only at hSw); have ef13 := hSw.cell cf13 id; have ex12 := hSw.cell cx12 id; have ex13 := hSw.cell cx13 id; go_simp <;> with_reducible rfl)
    try simp only [Act.put, List.setIfInBounds_toArray, List.set_cons_zero, List.set_cons_succ]
    refine wpAnyH_take (i := 41) (oi := { dst := some 101, op := Go.Op.pick (Go.Operand.tmp 95) (Go.Operand.tmp 100) (Go.Operand.const (Go.Value.bool false)), type := 4, pos := "more.go:40", after := #[{ on := 35, ground := Go.Ground.data }, { on := 40, ground := Go.Ground.data }], guard := none }) (v := ?v42) rfl (by kernel_rfl) (by kernel_rfl) (by kernel_rfl) (fun _ _ _ h => h) (Or.inl ⟨by rfl, ?hy42⟩) (by assumption) ?rest42
    case hy42 => (intro w hSw; (try dsimp only at hSw); have ef13 := hSw.cell cf13 id; have ex12 := hSw.cell cx12 id; have ex13 := hSw.cell cx13 id; go_simp <;> with_reducible rfl)
    try simp only [Act.put, List.setIfInBounds_toArray, List.set_cons_zero, List.set_cons_succ]
    refine wpAnyH_take (i := 42) (oi := { dst := some 102, op := Go.Op.move (Go.Operand.tmp 101), type := 4, pos := "more.go:40", after := #[{ on := 41, ground := Go.Ground.data }, { on := 35, ground := Go.Ground.chain }], guard := none }) (v := ?v43) rfl (by kernel_rfl) (by kernel_rfl) (by kernel_rfl) (fun _ _ _ h => h) (Or.inl ⟨by rfl, ?hy43⟩) (by assumption) ?rest43
    case hy43 => (intro w hSw; (try dsimp only at hSw); have ef13 := hSw.cell cf13 id; have ex12 := hSw.cell cx12 id; have ex13 := hSw.cell cx13 id; go_simp <;> with_reducible rfl)
    try simp only [Act.put, List.setIfInBounds_toArray, List.set_cons_zero, List.set_cons_succ]
    refine wpAnyH_take (i := 43) (oi := { dst := some 103, op := Go.Op.fieldAddr 76 (Go.Operand.tmp 10) 3, type := 0, pos := "more.go:40", after := #[{ on := 42, ground := Go.Ground.guard }], guard := some (42, true) }) (v := ?v44) rfl (by kernel_rfl) (by kernel_rfl) (by kernel_rfl) (fun _ _ _ h => h) (Or.inl ⟨by rfl, ?hy44⟩) (by assumption) ?rest44
    case hy44 => (intro w hSw; (try dsimp only at hSw); have ef13 := hSw.cell cf13 id; have ex12 := hSw.cell cx12 id; have ex13 := hSw.cell cx13 id; go_simp <;> with_reducible rfl)
    try simp only [Act.put, List.setIfInBounds_toArray, List.set_cons_zero, List.set_cons_succ]
    refine wpAnyH_take (i := 44) (oi := { dst := some 104, op := Go.Op.load 31 (Go.Operand.tmp 103), type := 31, pos := "more.go:40", after := #[{ on := 43, ground := Go.Ground.data }, { on := 42, ground := Go.Ground.guard }], guard := some (42, true) }) (v := ?v45) rfl (by kernel_rfl) (by kernel_rfl) (by kernel_rfl) (fun _ _ _ h => h) (Or.inl ⟨by rfl, ?hy45⟩) (by assumption) ?rest45
    case hy45 => (intro w hSw; (try dsimp only at hSw); have ef13 := hSw.cell cf13 id; have ex12 := hSw.cell cx12 id; have ex13 := hSw.cell cx13 id; go_simp <;> with_reducible rfl)
    try simp only [Act.put, List.setIfInBounds_toArray, List.set_cons_zero, List.set_cons_succ]
    refine wpAnyH_take (i := 45) (oi := { dst := some 105, op := Go.Op.fieldAddr 76 (Go.Operand.tmp 2) 3, type := 0, pos := "more.go:40", after := #[{ on := 42, ground := Go.Ground.guard }], guard := some (42, true) }) (v := ?v46) rfl (by kernel_rfl) (by kernel_rfl) (by kernel_rfl) (fun _ _ _ h => h) (Or.inl ⟨by rfl, ?hy46⟩) (by assumption) ?rest46
    case hy46 => (intro w hSw; (try dsimp only at hSw); have ef13 := hSw.cell cf13 id; have ex12 := hSw.cell cx12 id; have ex13 := hSw.cell cx13 id; go_simp <;> with_reducible rfl)
    try simp only [Act.put, List.setIfInBounds_toArray, List.set_cons_zero, List.set_cons_succ]
    refine wpAnyH_take (i := 46) (oi := { dst := some 106, op := Go.Op.load 31 (Go.Operand.tmp 105), type := 31, pos := "more.go:40", after := #[{ on := 45, ground := Go.Ground.data }, { on := 42, ground := Go.Ground.guard }], guard := some (42, true) }) (v := ?v47) rfl (by kernel_rfl) (by kernel_rfl) (by kernel_rfl) (fun _ _ _ h => h) (Or.inl ⟨by rfl, ?hy47⟩) (by assumption) ?rest47
    case hy47 => (intro w hSw; (try dsimp only at hSw); have ef13 := hSw.cell cf13 id; have ex12 := hSw.cell cx12 id; have ex13 := hSw.cell cx13 id; go_simp <;> with_reducible rfl)
    try simp only [Act.put, List.setIfInBounds_toArray, List.set_cons_zero, List.set_cons_succ]
    refine wpAnyH_take (i := 47) (oi := { dst := some 107, op := Go.Op.binOp Go.BinOp.eql 31 (Go.Operand.tmp 104) (Go.Operand.tmp 106) 31, type := 4, pos := "more.go:40", after := #[{ on := 44, ground := Go.Ground.data }, { on := 46, ground := Go.Ground.data }, { on := 42, ground := Go.Ground.guard }], guard := some (42, true) }) (v := ?v48) rfl (by kernel_rfl) (by kernel_rfl) (by kernel_rfl) (fun _ _ _ h => h) (Or.inl ⟨by rfl, ?hy48⟩) (by assumption) ?rest48
    case hy48 => (intro w hSw; (try dsimp only at hSw); have ef13 := hSw.cell cf13 id; have ex12 := hSw.cell cx12 id; have ex13 := hSw.cell cx13 id; go_simp <;> with_reducible rfl)
    try simp only [Act.put, List.setIfInBounds_toArray, List.set_cons_zero, List.set_cons_succ]
    refine wpAnyH_take (i := 48) (oi := { dst := some 108, op := Go.Op.pick (Go.Operand.tmp 102) (Go.Operand.tmp 107) (Go.Operand.const (Go.Value.bool false)), type := 4, pos := "more.go:40", after := #[{ on := 42, ground := Go.Ground.data }, { on := 47, ground := Go.Ground.data }], guard := none }) (v := ?v49) rfl (by kernel_rfl) (by kernel_rfl) (by kernel_rfl) (fun _ _ _ h => h) (Or.inl ⟨by rfl, ?hy49⟩) (by assumption) ?rest49
    case hy49 => (intro w hSw; (try dsimp only at hSw); have ef13 := hSw.cell cf13 id; have ex12 := hSw.cell cx12 id; have ex13 := hSw.cell cx13 id; go_simp <;> with_reducible rfl)
    try simp only [Act.put, List.setIfInBounds_toArray, List.set_cons_zero, List.set_cons_succ]
    refine wpAnyH_take (i := 49) (oi := { dst := some 4, op := Go.Op.assign (Go.Operand.tmp 108), type := 4, pos := "more.go:40", after := #[{ on := 48, ground := Go.Ground.data }, { on := 42, ground := Go.Ground.chain }, { on := 0, ground := Go.Ground.phase }, { on := 1, ground := Go.Ground.phase }, { on := 2, ground := Go.Ground.phase }, { on := 3, ground := Go.Ground.phase }, { on := 4, ground := Go.Ground.phase }, { on := 5, ground := Go.Ground.phase }, { on := 6, ground := Go.Ground.phase }, { on := 7, ground := Go.Ground.phase }, { on := 8, ground := Go.Ground.phase }, { on := 9, ground := Go.Ground.phase }, { on := 10, ground := Go.Ground.phase }, { on := 11, ground := Go.Ground.phase }, { on := 12, ground := Go.Ground.phase }, { on := 13, ground := Go.Ground.phase }, { on := 14, ground := Go.Ground.phase }, { on := 15, ground := Go.Ground.phase }, { on := 16, ground := Go.Ground.phase }, { on := 17, ground := Go.Ground.phase }, { on := 18, ground := Go.Ground.phase }, { on := 19, ground := Go.Ground.phase }, { on := 20, ground := Go.Ground.phase }, { on := 21, ground := Go.Ground.phase }, { on := 22, ground := Go.Ground.phase }, { on := 23, ground := Go.Ground.phase }, { on := 24, ground := Go.Ground.phase }, { on := 25, ground := Go.Ground.phase }, { on := 26, ground := Go.Ground.phase }, { on := 27, ground := Go.Ground.phase }, { on := 28, ground := Go.Ground.phase }, { on := 29, ground := Go.Ground.phase }, { on := 30, ground := Go.Ground.phase }, { on := 31, ground := Go.Ground.phase }, { on := 32, ground := Go.Ground.phase }, { on := 33, ground := Go.Ground.phase }, { on := 34, ground := Go.Ground.phase }, { on := 35, ground := Go.Ground.phase }, { on := 36, ground := Go.Ground.phase }, { on := 37, ground := Go.Ground.phase }, { on := 38, ground := Go.Ground.phase }, { on := 39, ground := Go.Ground.phase }, { on := 40, ground := Go.Ground.phase }, { on := 41, ground := Go.Ground.phase }, { on := 42, ground := Go.Ground.phase }, { on := 43, ground := Go.Ground.phase }, { on := 44, ground := Go.Ground.phase }, { on := 45, ground := Go.Ground.phase }, { on := 46, ground := Go.Ground.phase }, { on := 47, ground := Go.Ground.phase }, { on := 48, ground := Go.Ground.phase }], guard := none }) (v := ?v50) rfl (by kernel_rfl) (by kernel_rfl) (by kernel_rfl) (fun _ _ _ h => h) (Or.inl ⟨by rfl, ?hy50⟩) (by assumption) ?rest50
    case hy50 => (intro w hSw; (try dsimp only at hSw); have ef13 := hSw.cell cf13 id; have ex12 := hSw.cell cx12 id; have ex13 := hSw.cell cx13 id; go_simp <;> with_reducible rfl)
    try simp only [Act.put, List.setIfInBounds_toArray, List.set_cons_zero, List.set_cons_succ]
    refine wpAnyH_done (by kernel_rfl) ?_ _
    go_wp2
    go_ret
    exact ⟨rfl, HX9.out.trans hS⟩
theorem tags_int (f : Fr) (A : Option Addr) (c : Nat) (tg : Int) (w : World) (ok : f.ok) (hr : RB w (fun _ => True) (.slice A f.b.length c) f.b) (h0 : 0 ≤ tg) (htg : tg < 65536) (hg : ET w) (hal : AL w) :
    Calls Tryd.prog 13 #[frv f (.slice A f.b.length c), .int .u16 tg] w fun e w' => e = .returned (.bool true) ∧ Ex (fun _ => False) w w' := by
  obtain ⟨n, rfl⟩ := Int.eq_ofNat_of_zero_le h0
  exact tags_any f A c n w ok hr (by omega) hg hal
end Go.Proofs.YtkgieciamophkaaDoor
