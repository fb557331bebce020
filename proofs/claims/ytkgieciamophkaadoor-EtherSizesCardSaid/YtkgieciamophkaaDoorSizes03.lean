/-
  The walk of EtherSizes. By an AI agent.
-/
import Derived.Test.YtkgieciamophkaaDoorCuts03
import Derived.OwnWalk
namespace Go.Proofs.YtkgieciamophkaaDoor
open Go.RowKit

set_option maxRecDepth 100000 in
set_option maxHeartbeats 8000000 in
theorem sizes_any (f : Fr) (A : Option Addr) (c : Nat) (more : Int) (w : World) (ok : f.ok) (hg : ET w) (hal : AL w) :
    Calls Tryd.prog 11 #[frv f (.slice A f.b.length c), .int .i64 more] w fun e w' => e = .returned (.bool true) ∧ Ex (fun _ => False) w w' := by
  have HG := Lib.hid hg
  have HAL := Lib.hid hal
  clear hg hal
  obtain ⟨i0, hi, hz0, hz1, hz2⟩ := info_parts Tryd.info5
  obtain ⟨fd, fs, vl, ty, b⟩ := f
  obtain ⟨h1, h2, h3, h4, h5⟩ := ok
  simp only at h1 h2 h3 h4 h5
  obtain ⟨d0, d1, d2, d3, d4, d5, rfl⟩ := six_is h1
  obtain ⟨s0, s1, s2, s3, s4, s5, rfl⟩ := six_is h2
  clear h1 h2
  obtain ⟨a, ha, ha1⟩ := and_ffff more
  obtain ⟨m1, hm1, hm1a, hm1b⟩ : ∃ m1 : Int, (if 65535 < vl then (65535 : Int) else vl) = m1 ∧ m1 ≤ 65535 ∧ -9223372036854775808 ≤ m1 := ⟨_, rfl, by split <;> omega, by split <;> omega⟩
  obtain ⟨v, hv, hv1, hv2⟩ : ∃ v : Int, (if m1 < -1 then (-1 : Int) else m1) = v ∧ -1 ≤ v ∧ v ≤ 65535 := ⟨_, rfl, by split <;> omega, by split <;> omega⟩
  show Calls Tryd.prog 11 #[.agg #[.int .u8 (d0.toNat : Int), .int .u8 (d1.toNat : Int), .int .u8 (d2.toNat : Int), .int .u8 (d3.toNat : Int), .int .u8 (d4.toNat : Int), .int .u8 (d5.toNat : Int), .int .u8 (s0.toNat : Int), .int .u8 (s1.toNat : Int), .int .u8 (s2.toNat : Int), .int .u8 (s3.toNat : Int), .int .u8 (s4.toNat : Int), .int .u8 (s5.toNat : Int), .int .i64 vl, .int .u16 (ty : Int), .slice A b.length c], .int .i64 more] w _
  go_enter Tryd.func11, Tryd.ntmps11
  go_upto_region 1 with fail
  have hx0 : Ex (fun _ => False) w (w.alloc (.cells #[.int .u8 (d0.toNat : Int), .int .u8 (d1.toNat : Int), .int .u8 (d2.toNat : Int), .int .u8 (d3.toNat : Int), .int .u8 (d4.toNat : Int), .int .u8 (d5.toNat : Int), .int .u8 (s0.toNat : Int), .int .u8 (s1.toNat : Int), .int .u8 (s2.toNat : Int), .int .u8 (s3.toNat : Int), .int .u8 (s4.toNat : Int), .int .u8 (s5.toNat : Int), .int .i64 vl, .int .u16 (ty : Int), .slice A b.length c] 76)) := (Ex.refl _ w).alloc _
  have hb0 : (w.alloc (.cells #[.int .u8 (d0.toNat : Int), .int .u8 (d1.toNat : Int), .int .u8 (d2.toNat : Int), .int .u8 (d3.toNat : Int), .int .u8 (d4.toNat : Int), .int .u8 (d5.toNat : Int), .int .u8 (s0.toNat : Int), .int .u8 (s1.toNat : Int), .int .u8 (s2.toNat : Int), .int .u8 (s3.toNat : Int), .int .u8 (s4.toNat : Int), .int .u8 (s5.toNat : Int), .int .i64 vl, .int .u16 (ty : Int), .slice A b.length c] 76)).heap[w.heap.size]? = some (.cells #[.int .u8 (d0.toNat : Int), .int .u8 (d1.toNat : Int), .int .u8 (d2.toNat : Int), .int .u8 (d3.toNat : Int), .int .u8 (d4.toNat : Int), .int .u8 (d5.toNat : Int), .int .u8 (s0.toNat : Int), .int .u8 (s1.toNat : Int), .int .u8 (s2.toNat : Int), .int .u8 (s3.toNat : Int), .int .u8 (s4.toNat : Int), .int .u8 (s5.toNat : Int), .int .i64 vl, .int .u16 (ty : Int), .slice A b.length c] 76) := heap_alloc_new w _
  generalize w.alloc (.cells #[.int .u8 (d0.toNat : Int), .int .u8 (d1.toNat : Int), .int .u8 (d2.toNat : Int), .int .u8 (d3.toNat : Int), .int .u8 (d4.toNat : Int), .int .u8 (d5.toNat : Int), .int .u8 (s0.toNat : Int), .int .u8 (s1.toNat : Int), .int .u8 (s2.toNat : Int), .int .u8 (s3.toNat : Int), .int .u8 (s4.toNat : Int), .int .u8 (s5.toNat : Int), .int .i64 vl, .int .u16 (ty : Int), .slice A b.length c] 76) = w1 at hx0 hb0 ⊢
  obtain ⟨fb, hfb⟩ : ∃ fb, fb = w.heap.size := ⟨_, rfl⟩
  rw [← hfb] at hb0
  try simp only [← hfb]
  have hfb1 : w.heap.size ≤ fb := by omega
  clear hfb
  have HB0 := Lib.hid hb0
  have HX0 := Lib.hid hx0
  clear hb0 hx0
  go_wp2_with fail
  refine (shown3_any w1 (HG.out.keep HX0.out id) (HAL.out.keep HX0.out id)).mono ?_
  rintro e w2 ⟨rfl, hx2⟩
  have hb2 := (hx2.block fb (row_lt HB0.out) id).trans HB0.out
  have HX2 := Lib.hid (HX0.out.trans hx2)
  have c12 := row_cell (k := 12) (v := .int .i64 vl) hb2 rfl
  have f12 := row_frozen hb2 12
  have HB2 := Lib.hid hb2
  clear hb2 hx2 HX0 HB0
  have hb3 := row_set HB2.out 12 (.int .i64 v)
  have hx3 : Ex (fun j => j = fb) w2 (w2.setCell ⟨fb, 12, none⟩ (.int .i64 v)) := (Ex.refl (fun j => j = fb) w2).setCell (p := ⟨fb, 12, none⟩) (.inl rfl) _
  have HB3 : Hid ((w2.setCell ⟨fb, 12, none⟩ (.int .i64 v)).heap[fb]? = some (.cells #[.int .u8 (d0.toNat : Int), .int .u8 (d1.toNat : Int), .int .u8 (d2.toNat : Int), .int .u8 (d3.toNat : Int), .int .u8 (d4.toNat : Int), .int .u8 (d5.toNat : Int), .int .u8 (s0.toNat : Int), .int .u8 (s1.toNat : Int), .int .u8 (s2.toNat : Int), .int .u8 (s3.toNat : Int), .int .u8 (s4.toNat : Int), .int .u8 (s5.toNat : Int), .int .i64 v, .int .u16 (ty : Int), .slice A b.length c] 76)) := hb3
  have HX3 := Lib.hid (HX2.out.andThen hx3 (fun i hi e => by omega))
  clear hb3 hx3 HX2 HB2
  go_upto_region 3 with fail
  clear c12 f12 hm1 hv
  generalize w2.setCell ⟨fb, 12, none⟩ (.int .i64 v) = w3 at HB3 HX3 ⊢
  have c12 := row_cell (k := 12) (v := .int .i64 v) HB3.out rfl
  obtain ⟨mr, hmr, hmr1⟩ : ∃ mr : Nat, (a : Int) % 100 = (mr : Int) ∧ mr < 100 := ⟨a % 100, by simp, by omega⟩
  have hmt : (a : Int).tmod 100 = (mr : Int) := by rw [Int.tmod_eq_emod_of_nonneg (by omega)]; exact hmr
  by_cases hv0 : 0 ≤ v
  · have hsub : (8986 : Int) - 4 = 8982 := by decide
    have q1 := IntWalk.i64_in (8982 : Int) (by omega)
    have q2 := IntWalk.i64_in ((8982 : Int) + (mr : Int)) (by omega)
    have OKF : Hid (Fr.ok ⟨[d0, d1, d2, d3, d4, d5], [s0, s1, s2, s3, s4, s5], v, ty, List.replicate (8982 + mr) 0⟩) := Lib.hid ⟨rfl, rfl, by show -9223372036854775808 ≤ v; omega, by show v ≤ 9223372036854775807; omega, h5⟩
    have HLF : Hid ((fbytes ⟨[d0, d1, d2, d3, d4, d5], [s0, s1, s2, s3, s4, s5], v, ty, List.replicate (8982 + mr) 0⟩).length = 9000 + mr) := by
      show (fbytes ⟨[d0, d1, d2, d3, d4, d5], [s0, s1, s2, s3, s4, s5], v, ty, List.replicate (8982 + mr) 0⟩).length = 9000 + mr
      rw [fbytes_head, List.length_append, fhead_len OKF.out]
      simp only [List.length_replicate]
      rw [if_neg (by omega)]; omega
    go_upto_region 8 with (at_make; refine wpList_make_full _ rfl (.tmp 29) (.tmp 29) 23 rfl w3.heap.size 5 i0 (.int .u8 0) 1 Tryd.underlying23 hi hz0 hz1 .i64 .i64 ((8982 : Int) + (mr : Int)) ((8982 : Int) + (mr : Int)) (8982 + mr) rfl rfl (by omega) (by omega) (by rw [hz2]; omega) (by simp only [maxLen]; omega) (Nat.le_refl _) ?_; intro w4 hown4 hg4; have hx4 : Ex (fun _ => False) w3 w4 := (Ex.refl _ w3).grown hg4 (fun k h => by cases h); have hb4 := (hx4.block fb (row_lt HB3.out) id).trans HB3.out; have c14 := row_cell (k := 14) (v := .slice A b.length c) hb4 rfl; have f14 := row_frozen hb4 14)
    clear c12 c14 f14 hmr hmt ha q1 q2
    obtain ⟨zb, hzb⟩ : ∃ zb, zb = w3.heap.size := ⟨_, rfl⟩
    rw [← hzb] at hown4
    try simp only [← hzb]
    have hzb1 : w.heap.size ≤ zb := by have := HX3.out.size; omega
    have hzf : fb < zb := by have := row_lt HB3.out; omega
    clear hzb
    have hob : OB w4 zb (.slice (some ⟨zb, 0, none⟩) (8982 + mr) (8982 + mr)) (List.replicate (8982 + mr) 0) := by
      refine ⟨by simp; omega, ?_⟩
      rw [List.length_replicate]
      have e : (madeCells (Value.int .u8 0).cells ((8982 + mr) * 1)).toList = (List.replicate (8982 + mr) (0 : UInt8)).map u8v := by
        rw [show (Value.int .u8 0).cells = #[Value.int .u8 0] from rfl, Nat.mul_one, toList_madeCells_one, List.map_replicate]
        rfl
      rw [← e]
      exact hown4
    have hb5 := row_set hb4 14 (.slice (some ⟨zb, 0, none⟩) (8982 + mr) (8982 + mr))
    have hx5 : Ex (fun j => j = fb) w4 (w4.setCell ⟨fb, 14, none⟩ (.slice (some ⟨zb, 0, none⟩) (8982 + mr) (8982 + mr))) := (Ex.refl (fun j => j = fb) w4).setCell (p := ⟨fb, 14, none⟩) (.inl rfl) _
    have HB5 : Hid ((w4.setCell ⟨fb, 14, none⟩ (.slice (some ⟨zb, 0, none⟩) (8982 + mr) (8982 + mr))).heap[fb]? = some (.cells #[.int .u8 (d0.toNat : Int), .int .u8 (d1.toNat : Int), .int .u8 (d2.toNat : Int), .int .u8 (d3.toNat : Int), .int .u8 (d4.toNat : Int), .int .u8 (d5.toNat : Int), .int .u8 (s0.toNat : Int), .int .u8 (s1.toNat : Int), .int .u8 (s2.toNat : Int), .int .u8 (s3.toNat : Int), .int .u8 (s4.toNat : Int), .int .u8 (s5.toNat : Int), .int .i64 v, .int .u16 (ty : Int), .slice (some ⟨zb, 0, none⟩) (8982 + mr) (8982 + mr)] 76)) := hb5
    have HO5 := Lib.hid (hob.keep hx5 (fun k hk _ _ e => by obtain rfl := Option.some.inj hk; omega))
    have HX5 := Lib.hid ((HX3.out.trans hx4).andThen hx5 (fun i hi e => by omega))
    clear hown4 hg4 hx4 hb4 hob hb5 hx5 HB3
    generalize w4.setCell ⟨fb, 14, none⟩ (.slice (some ⟨zb, 0, none⟩) (8982 + mr) (8982 + mr)) = w5 at HB5 HO5 HX5 ⊢
    have ck0 := row_cell (k := 0) (v := .int .u8 (d0.toNat : Int)) HB5.out rfl
    have ck1 := row_cell (k := 1) (v := .int .u8 (d1.toNat : Int)) HB5.out rfl
    have ck2 := row_cell (k := 2) (v := .int .u8 (d2.toNat : Int)) HB5.out rfl
    have ck3 := row_cell (k := 3) (v := .int .u8 (d3.toNat : Int)) HB5.out rfl
    have ck4 := row_cell (k := 4) (v := .int .u8 (d4.toNat : Int)) HB5.out rfl
    have ck5 := row_cell (k := 5) (v := .int .u8 (d5.toNat : Int)) HB5.out rfl
    have ck6 := row_cell (k := 6) (v := .int .u8 (s0.toNat : Int)) HB5.out rfl
    have ck7 := row_cell (k := 7) (v := .int .u8 (s1.toNat : Int)) HB5.out rfl
    have ck8 := row_cell (k := 8) (v := .int .u8 (s2.toNat : Int)) HB5.out rfl
    have ck9 := row_cell (k := 9) (v := .int .u8 (s3.toNat : Int)) HB5.out rfl
    have ck10 := row_cell (k := 10) (v := .int .u8 (s4.toNat : Int)) HB5.out rfl
    have ck11 := row_cell (k := 11) (v := .int .u8 (s5.toNat : Int)) HB5.out rfl
    have ck12 := row_cell (k := 12) (v := .int .i64 v) HB5.out rfl
    have ck13 := row_cell (k := 13) (v := .int .u16 (ty : Int)) HB5.out rfl
    have ck14 := row_cell (k := 14) (v := .slice (some ⟨zb, 0, none⟩) (8982 + mr) (8982 + mr)) HB5.out rfl
    obtain ⟨Z, hZ⟩ : ∃ Z, Z = List.replicate (8982 + mr) (0 : UInt8) := ⟨_, rfl⟩
    have hZl : Z.length = (8982 + mr) := by rw [hZ, List.length_replicate]
    rw [← hZ] at HO5 OKF HLF
    have HZL := Lib.hid hZl
    have hZ1 : Z.length ≤ 9100 := by omega
    clear hZ hZl
    have hrb : RB w5 (fun _ => True) (.slice (some ⟨zb, 0, none⟩) (8982 + mr) (8982 + mr)) Z := HO5.out.rb.any
    go_wp2_with fail
    refine (fbytes_any _ (⟨[d0, d1, d2, d3, d4, d5], [s0, s1, s2, s3, s4, s5], v, ty, Z⟩ : Fr) (some ⟨zb, 0, none⟩) (8982 + mr) (8982 + mr) w5 OKF.out hrb (by show Z.length ≤ 1000000; omega)).mono ?_
    rintro e w6 ⟨hx6, hcase⟩
    have hw5 := row_lt HB5.out
    have HX6 := Lib.hid (HX5.out.trans hx6)
    have HB6 := Lib.hid ((hx6.block fb (row_lt HB5.out) id).trans HB5.out)
    have c12 := row_cell (k := 12) (v := .int .i64 v) HB6.out rfl
    have c13 := row_cell (k := 13) (v := .int .u16 (ty : Int)) HB6.out rfl
    have hs6 := hx6.size
    clear hx6 hrb ck0 ck1 ck2 ck3 ck4 ck5 ck6 ck7 ck8 ck9 ck10 ck11 ck12 ck13 ck14
    have hvb : (v == -1) = false := by simp; omega
    have HNB : Hid (¬ badfr (⟨[d0, d1, d2, d3, d4, d5], [s0, s1, s2, s3, s4, s5], v, ty, Z⟩ : Fr)) := by
      intro h
      rcases h with h | h | ⟨h, _⟩ <;> simp only at h <;> omega
    obtain ⟨M, hM⟩ : ∃ M, M = fbytes (⟨[d0, d1, d2, d3, d4, d5], [s0, s1, s2, s3, s4, s5], v, ty, Z⟩ : Fr) := ⟨_, rfl⟩
    have hMl := HLF.out
    rw [← hM] at hMl hcase
    have HM := Lib.hid hM
    have HML := Lib.hid hMl
    clear hM
    by_cases hmp : 0 < mr
    · have hmpi : (0 : Int) < (mr : Int) := by omega
      obtain ⟨v6, rfl, he6⟩ : ∃ v, e = .returned (.tuple #[.slice none 0 0, v]) ∧ EC w6 (fun j => w5.heap.size ≤ j) [lay3] v 7 := by
        rcases hcase with ⟨h, _⟩ | ⟨_, _, v, h1, h2⟩ | ⟨_, h, _⟩
        · exact absurd h HNB.out
        · exact ⟨v, h1, h2⟩
        · omega
      have HE6 := Lib.hid he6
      clear hcase he6 hMl
      go_wp2_with fail
      refine (code_any _ _ 7 v6 w6 HE6.out (HG.out.keep HX6.out id)).mono ?_
      rintro e w7 ⟨rfl, hx7⟩
      have HX7 := Lib.hid (HX6.out.trans hx7)
      clear hx7
      go_wp2_with fail
      go_ret
      exact ⟨rfl, HX7.out⟩
    · have hmz : ¬ (0 : Int) < (mr : Int) := by omega
      obtain ⟨A6, c6, rfl, ho6⟩ : ∃ A' c', e = .returned (.tuple #[.slice (some A') M.length c', .nilIface]) ∧ OB w6 w5.heap.size (.slice (some A') M.length c') M := by
        rcases hcase with ⟨h, _⟩ | ⟨_, h, _⟩ | ⟨_, _, A', c', h1, h2⟩
        · exact absurd h HNB.out
        · omega
        · exact ⟨A', c', h1, h2⟩
      have hM9 : M.length ≤ 9000 := by omega
      have hMb : ((M.length : Int) == 9000) = true := by simp; omega
      have hZb : ((Z.length : Int) == 8982) = true := by have := HZL.out; simp; omega
      have HO6 := Lib.hid ho6
      clear hcase ho6 hMl
      go_wp2_with fail
      refine (parse_any _ (some A6) M.length c6 M w6 HO6.out.rb.any (fun h => by cases h) (by omega)).mono ?_
      rintro e w7 ⟨hx7, hcase⟩
      have hps : pframe M = some (⟨[d0, d1, d2, d3, d4, d5], [s0, s1, s2, s3, s4, s5], v, ty, Z⟩ : Fr) := by
        have := pframe_head OKF.out HNB.out Z
        rw [HM.out, fbytes_head]
        exact this
      obtain ⟨A8, g8, rfl, hb8⟩ : ∃ A' g, e = .returned (.tuple #[frv (⟨[d0, d1, d2, d3, d4, d5], [s0, s1, s2, s3, s4, s5], v, ty, Z⟩ : Fr) (.slice A' Z.length Z.length), .nilIface]) ∧ RB w7 (fun j => j = g) (.slice A' Z.length Z.length) Z := by
        rcases hcase with ⟨h, _⟩ | ⟨_, h, _⟩ | ⟨_, f, A', g, o, h1, h2, _, h3, _⟩
        · omega
        · rw [hps] at h; cases h
        · rw [hps] at h1
          obtain rfl := Option.some.inj h1
          exact ⟨A', g, h2, h3⟩
      clear hcase hps hb8
      have hz : frv (⟨[d0, d1, d2, d3, d4, d5], [s0, s1, s2, s3, s4, s5], v, ty, Z⟩ : Fr) (.slice A8 Z.length Z.length) = .agg #[.int .u8 (d0.toNat : Int), .int .u8 (d1.toNat : Int), .int .u8 (d2.toNat : Int), .int .u8 (d3.toNat : Int), .int .u8 (d4.toNat : Int), .int .u8 (d5.toNat : Int), .int .u8 (s0.toNat : Int), .int .u8 (s1.toNat : Int), .int .u8 (s2.toNat : Int), .int .u8 (s3.toNat : Int), .int .u8 (s4.toNat : Int), .int .u8 (s5.toNat : Int), .int .i64 v, .int .u16 (ty : Int), .slice A8 Z.length Z.length] := rfl
      rw [hz]
      clear hz
      have HX7 := Lib.hid (HX6.out.trans hx7)
      have HO7 := Lib.hid (HO6.out.keep hx7 (fun _ _ _ _ => id))
      have hs56 := HX6.out.size
      have hs7 := hx7.size
      clear hx7 c12 c13
      go_upto_region 14 with fail
      have hx8 : Ex (fun _ => False) w7 (w7.alloc (.cells #[.int .u8 (d0.toNat : Int), .int .u8 (d1.toNat : Int), .int .u8 (d2.toNat : Int), .int .u8 (d3.toNat : Int), .int .u8 (d4.toNat : Int), .int .u8 (d5.toNat : Int), .int .u8 (s0.toNat : Int), .int .u8 (s1.toNat : Int), .int .u8 (s2.toNat : Int), .int .u8 (s3.toNat : Int), .int .u8 (s4.toNat : Int), .int .u8 (s5.toNat : Int), .int .i64 v, .int .u16 (ty : Int), .slice A8 Z.length Z.length] 76)) := (Ex.refl _ w7).alloc _
      have hxr : (w7.alloc (.cells #[.int .u8 (d0.toNat : Int), .int .u8 (d1.toNat : Int), .int .u8 (d2.toNat : Int), .int .u8 (d3.toNat : Int), .int .u8 (d4.toNat : Int), .int .u8 (d5.toNat : Int), .int .u8 (s0.toNat : Int), .int .u8 (s1.toNat : Int), .int .u8 (s2.toNat : Int), .int .u8 (s3.toNat : Int), .int .u8 (s4.toNat : Int), .int .u8 (s5.toNat : Int), .int .i64 v, .int .u16 (ty : Int), .slice A8 Z.length Z.length] 76)).heap[w7.heap.size]? = some (.cells #[.int .u8 (d0.toNat : Int), .int .u8 (d1.toNat : Int), .int .u8 (d2.toNat : Int), .int .u8 (d3.toNat : Int), .int .u8 (d4.toNat : Int), .int .u8 (d5.toNat : Int), .int .u8 (s0.toNat : Int), .int .u8 (s1.toNat : Int), .int .u8 (s2.toNat : Int), .int .u8 (s3.toNat : Int), .int .u8 (s4.toNat : Int), .int .u8 (s5.toNat : Int), .int .i64 v, .int .u16 (ty : Int), .slice A8 Z.length Z.length] 76) := heap_alloc_new w7 _
      generalize w7.alloc (.cells #[.int .u8 (d0.toNat : Int), .int .u8 (d1.toNat : Int), .int .u8 (d2.toNat : Int), .int .u8 (d3.toNat : Int), .int .u8 (d4.toNat : Int), .int .u8 (d5.toNat : Int), .int .u8 (s0.toNat : Int), .int .u8 (s1.toNat : Int), .int .u8 (s2.toNat : Int), .int .u8 (s3.toNat : Int), .int .u8 (s4.toNat : Int), .int .u8 (s5.toNat : Int), .int .i64 v, .int .u16 (ty : Int), .slice A8 Z.length Z.length] 76) = w8 at hx8 hxr ⊢
      obtain ⟨xb, hxb⟩ : ∃ xb, xb = w7.heap.size := ⟨_, rfl⟩
      rw [← hxb] at hxr
      try simp only [← hxb]
      have hxb7 : w7.heap.size ≤ xb := by omega
      have hs8 := hx8.size
      clear hxb
      have HX8 := Lib.hid (HX7.out.trans hx8)
      have HO8 := Lib.hid (HO7.out.keep hx8 (fun _ _ _ _ => id))
      have HXR := Lib.hid hxr
      have hxw := row_lt hxr
      clear hx8 hxr
      have hbw : w5.heap.size ≤ w8.heap.size := by omega
      go_wp2_with (at_builtin; refine wpList_append_ob i0 23 Tryd.underlying23 hi hz0 hz1 hz2 rfl (.tmp 75) (.tmp 76) rfl w5.heap.size (.slice (some A6) M.length c6) M rfl (fun k => k = w8.heap.size) (.slice (some ⟨w8.heap.size, 0, none⟩) 1 1) [0] rfl (HO8.out.alloc _) (RB.made w8 [0] _ _ (by rfl) (by simp) _ _ rfl (Nat.le_refl _) rfl) (by simp; omega) (by simp; omega) ?_; intro A9 c9 w9 ho9 hg9 hn9 hb9)
      have hML := HML.out
      have hown6 : ∀ k, (Value.slice (some A6) M.length c6).ownBlock = some k → w.heap.size ≤ k ∧ k < w6.heap.size := fun k hk => by
        have h1 := HO6.out.lt k hk
        have h2 := HX5.out.size
        omega
      have hx9 : Ex (fun j => (Value.slice (some A6) M.length c6).ownBlock = some j) w8 w9 := ((Ex.refl (fun j => (Value.slice (some A6) M.length c6).ownBlock = some j) w8).alloc _).grown hg9 (fun k hk => .inl hk)
      have HX9 := Lib.hid (HX8.out.andThen hx9 (fun i hi e => by have := (hown6 i e).1; omega))
      have HXR9 := Lib.hid ((hx9.block xb hxw (fun e => by have := (hown6 xb e).2; omega)).trans HXR.out)
      cases A9 with
      | none => exact absurd (hn9.1 rfl).1 (by simp)
      | some a9 =>
        have HR9 := Lib.hid ho9.rb.any
        have HML2 := Lib.hid hML
        clear ho9 hg9 hn9 hb9 hx9 hown6 hML
        refine (parse_any _ (some a9) (M.length + 1) c9 (M ++ [0]) w9 HR9.out (fun h => by cases h) (by simp; omega)).mono ?_
        rintro e w10 ⟨hx10, hcase⟩
        have hl9 : 9000 < (M ++ [(0 : UInt8)]).length := by have := HML2.out; simp; omega
        obtain ⟨v10, rfl, he10⟩ : ∃ v, e = .returned (.tuple #[zfr, v]) ∧ EC w10 (fun j => w9.heap.size ≤ j) [lay3] v 7 := by
          rcases hcase with ⟨_, v, h1, h2⟩ | ⟨h, _⟩ | ⟨h, _⟩
          · exact ⟨v, h1, h2⟩
          · omega
          · omega
        clear hcase hl9
        have hz : zfr = .agg #[.int .u8 0, .int .u8 0, .int .u8 0, .int .u8 0, .int .u8 0, .int .u8 0, .int .u8 0, .int .u8 0, .int .u8 0, .int .u8 0, .int .u8 0, .int .u8 0, .int .i64 0, .int .u16 0, .slice none 0 0] := rfl
        rw [hz]
        clear hz
        have HX10 := Lib.hid (HX9.out.trans hx10)
        have HXR10 := Lib.hid ((hx10.block xb (row_lt HXR9.out) id).trans HXR9.out)
        have HE10 := Lib.hid he10
        clear hx10 he10
        go_upto_region 15 with fail
        have hx11 : Ex (fun _ => False) w10 (w10.alloc (.cells #[.int .u8 0, .int .u8 0, .int .u8 0, .int .u8 0, .int .u8 0, .int .u8 0, .int .u8 0, .int .u8 0, .int .u8 0, .int .u8 0, .int .u8 0, .int .u8 0, .int .i64 0, .int .u16 0, .slice none 0 0] 76)) := (Ex.refl _ w10).alloc _
        generalize w10.alloc (.cells #[.int .u8 0, .int .u8 0, .int .u8 0, .int .u8 0, .int .u8 0, .int .u8 0, .int .u8 0, .int .u8 0, .int .u8 0, .int .u8 0, .int .u8 0, .int .u8 0, .int .i64 0, .int .u16 0, .slice none 0 0] 76) = w11 at hx11 ⊢
        have HX11 := Lib.hid (HX10.out.trans hx11)
        have cx14 := row_cell (k := 14) (v := .slice A8 Z.length Z.length) ((hx11.block xb (row_lt HXR10.out) id).trans HXR10.out) rfl
        have HE11 := Lib.hid (HE10.out.keep hx11 (fun _ _ => id))
        clear hx11
        go_wp2_with fail
        refine (code_any _ _ 7 v10 w11 HE11.out (HG.out.keep HX11.out id)).mono ?_
        rintro e w12 ⟨rfl, hx12⟩
        have HX12 := Lib.hid (HX11.out.trans hx12)
        clear hx12
        go_wp2_with fail
        go_ret
        exact ⟨rfl, HX12.out⟩
  · have hv9 : v = -1 := by omega
    have HV9 := Lib.hid hv9
    clear hv9
    have hv8 : ¬ 0 ≤ v := hv0
    have q1 := IntWalk.i64_in (8986 : Int) (by omega)
    have q2 := IntWalk.i64_in ((8986 : Int) + (mr : Int)) (by omega)
    have OKF : Hid (Fr.ok ⟨[d0, d1, d2, d3, d4, d5], [s0, s1, s2, s3, s4, s5], v, ty, List.replicate (8986 + mr) 0⟩) := Lib.hid ⟨rfl, rfl, by show -9223372036854775808 ≤ v; omega, by show v ≤ 9223372036854775807; omega, h5⟩
    have HLF : Hid ((fbytes ⟨[d0, d1, d2, d3, d4, d5], [s0, s1, s2, s3, s4, s5], v, ty, List.replicate (8986 + mr) 0⟩).length = 9000 + mr) := by
      show (fbytes ⟨[d0, d1, d2, d3, d4, d5], [s0, s1, s2, s3, s4, s5], v, ty, List.replicate (8986 + mr) 0⟩).length = 9000 + mr
      rw [fbytes_head, List.length_append, fhead_len OKF.out]
      simp only [List.length_replicate]
      rw [if_pos HV9.out]; omega
    go_upto_region 8 with (at_make; refine wpList_make_full _ rfl (.tmp 29) (.tmp 29) 23 rfl w3.heap.size 5 i0 (.int .u8 0) 1 Tryd.underlying23 hi hz0 hz1 .i64 .i64 ((8986 : Int) + (mr : Int)) ((8986 : Int) + (mr : Int)) (8986 + mr) rfl rfl (by omega) (by omega) (by rw [hz2]; omega) (by simp only [maxLen]; omega) (Nat.le_refl _) ?_; intro w4 hown4 hg4; have hx4 : Ex (fun _ => False) w3 w4 := (Ex.refl _ w3).grown hg4 (fun k h => by cases h); have hb4 := (hx4.block fb (row_lt HB3.out) id).trans HB3.out; have c14 := row_cell (k := 14) (v := .slice A b.length c) hb4 rfl; have f14 := row_frozen hb4 14)
    clear c12 c14 f14 hmr hmt ha q1 q2
    obtain ⟨zb, hzb⟩ : ∃ zb, zb = w3.heap.size := ⟨_, rfl⟩
    rw [← hzb] at hown4
    try simp only [← hzb]
    have hzb1 : w.heap.size ≤ zb := by have := HX3.out.size; omega
    have hzf : fb < zb := by have := row_lt HB3.out; omega
    clear hzb
    have hob : OB w4 zb (.slice (some ⟨zb, 0, none⟩) (8986 + mr) (8986 + mr)) (List.replicate (8986 + mr) 0) := by
      refine ⟨by simp; omega, ?_⟩
      rw [List.length_replicate]
      have e : (madeCells (Value.int .u8 0).cells ((8986 + mr) * 1)).toList = (List.replicate (8986 + mr) (0 : UInt8)).map u8v := by
        rw [show (Value.int .u8 0).cells = #[Value.int .u8 0] from rfl, Nat.mul_one, toList_madeCells_one, List.map_replicate]
        rfl
      rw [← e]
      exact hown4
    have hb5 := row_set hb4 14 (.slice (some ⟨zb, 0, none⟩) (8986 + mr) (8986 + mr))
    have hx5 : Ex (fun j => j = fb) w4 (w4.setCell ⟨fb, 14, none⟩ (.slice (some ⟨zb, 0, none⟩) (8986 + mr) (8986 + mr))) := (Ex.refl (fun j => j = fb) w4).setCell (p := ⟨fb, 14, none⟩) (.inl rfl) _
    have HB5 : Hid ((w4.setCell ⟨fb, 14, none⟩ (.slice (some ⟨zb, 0, none⟩) (8986 + mr) (8986 + mr))).heap[fb]? = some (.cells #[.int .u8 (d0.toNat : Int), .int .u8 (d1.toNat : Int), .int .u8 (d2.toNat : Int), .int .u8 (d3.toNat : Int), .int .u8 (d4.toNat : Int), .int .u8 (d5.toNat : Int), .int .u8 (s0.toNat : Int), .int .u8 (s1.toNat : Int), .int .u8 (s2.toNat : Int), .int .u8 (s3.toNat : Int), .int .u8 (s4.toNat : Int), .int .u8 (s5.toNat : Int), .int .i64 v, .int .u16 (ty : Int), .slice (some ⟨zb, 0, none⟩) (8986 + mr) (8986 + mr)] 76)) := hb5
    have HO5 := Lib.hid (hob.keep hx5 (fun k hk _ _ e => by obtain rfl := Option.some.inj hk; omega))
    have HX5 := Lib.hid ((HX3.out.trans hx4).andThen hx5 (fun i hi e => by omega))
    clear hown4 hg4 hx4 hb4 hob hb5 hx5 HB3
    generalize w4.setCell ⟨fb, 14, none⟩ (.slice (some ⟨zb, 0, none⟩) (8986 + mr) (8986 + mr)) = w5 at HB5 HO5 HX5 ⊢
    have ck0 := row_cell (k := 0) (v := .int .u8 (d0.toNat : Int)) HB5.out rfl
    have ck1 := row_cell (k := 1) (v := .int .u8 (d1.toNat : Int)) HB5.out rfl
    have ck2 := row_cell (k := 2) (v := .int .u8 (d2.toNat : Int)) HB5.out rfl
    have ck3 := row_cell (k := 3) (v := .int .u8 (d3.toNat : Int)) HB5.out rfl
    have ck4 := row_cell (k := 4) (v := .int .u8 (d4.toNat : Int)) HB5.out rfl
    have ck5 := row_cell (k := 5) (v := .int .u8 (d5.toNat : Int)) HB5.out rfl
    have ck6 := row_cell (k := 6) (v := .int .u8 (s0.toNat : Int)) HB5.out rfl
    have ck7 := row_cell (k := 7) (v := .int .u8 (s1.toNat : Int)) HB5.out rfl
    have ck8 := row_cell (k := 8) (v := .int .u8 (s2.toNat : Int)) HB5.out rfl
    have ck9 := row_cell (k := 9) (v := .int .u8 (s3.toNat : Int)) HB5.out rfl
    have ck10 := row_cell (k := 10) (v := .int .u8 (s4.toNat : Int)) HB5.out rfl
    have ck11 := row_cell (k := 11) (v := .int .u8 (s5.toNat : Int)) HB5.out rfl
    have ck12 := row_cell (k := 12) (v := .int .i64 v) HB5.out rfl
    have ck13 := row_cell (k := 13) (v := .int .u16 (ty : Int)) HB5.out rfl
    have ck14 := row_cell (k := 14) (v := .slice (some ⟨zb, 0, none⟩) (8986 + mr) (8986 + mr)) HB5.out rfl
    obtain ⟨Z, hZ⟩ : ∃ Z, Z = List.replicate (8986 + mr) (0 : UInt8) := ⟨_, rfl⟩
    have hZl : Z.length = (8986 + mr) := by rw [hZ, List.length_replicate]
    rw [← hZ] at HO5 OKF HLF
    have HZL := Lib.hid hZl
    have hZ1 : Z.length ≤ 9100 := by omega
    clear hZ hZl
    have hrb : RB w5 (fun _ => True) (.slice (some ⟨zb, 0, none⟩) (8986 + mr) (8986 + mr)) Z := HO5.out.rb.any
    go_wp2_with fail
    refine (fbytes_any _ (⟨[d0, d1, d2, d3, d4, d5], [s0, s1, s2, s3, s4, s5], v, ty, Z⟩ : Fr) (some ⟨zb, 0, none⟩) (8986 + mr) (8986 + mr) w5 OKF.out hrb (by show Z.length ≤ 1000000; omega)).mono ?_
    rintro e w6 ⟨hx6, hcase⟩
    have hw5 := row_lt HB5.out
    have HX6 := Lib.hid (HX5.out.trans hx6)
    have HB6 := Lib.hid ((hx6.block fb (row_lt HB5.out) id).trans HB5.out)
    have c12 := row_cell (k := 12) (v := .int .i64 v) HB6.out rfl
    have c13 := row_cell (k := 13) (v := .int .u16 (ty : Int)) HB6.out rfl
    have hs6 := hx6.size
    clear hx6 hrb ck0 ck1 ck2 ck3 ck4 ck5 ck6 ck7 ck8 ck9 ck10 ck11 ck12 ck13 ck14
    have hvb : (v == -1) = true := by simp [HV9.out]
    by_cases hty : ty = 33024
    · obtain ⟨v6, rfl, he6⟩ : ∃ v, e = .returned (.tuple #[.slice none 0 0, v]) ∧ EC w6 (fun j => w5.heap.size ≤ j) [lay3] v 1 := by
        rcases hcase with ⟨_, v, h1, h2⟩ | ⟨h, _⟩ | ⟨h, _⟩
        · exact ⟨v, h1, h2⟩
        · exact absurd (.inr (.inr ⟨HV9.out, hty⟩)) h
        · exact absurd (.inr (.inr ⟨HV9.out, hty⟩)) h
      have htb : ((ty : Int) == 33024) = true := by simp [hty]
      have HE6 := Lib.hid he6
      clear hcase he6 hty
      go_wp2_with fail
      refine (code_any _ _ 1 v6 w6 HE6.out (HG.out.keep HX6.out id)).mono ?_
      rintro e w7 ⟨rfl, hx7⟩
      have HX7 := Lib.hid (HX6.out.trans hx7)
      clear hx7
      go_wp2_with fail
      go_ret
      exact ⟨rfl, HX7.out⟩
    have htb : ((ty : Int) == 33024) = false := by simp; omega
    have HNB : Hid (¬ badfr (⟨[d0, d1, d2, d3, d4, d5], [s0, s1, s2, s3, s4, s5], v, ty, Z⟩ : Fr)) := by
      intro h
      rcases h with h | h | ⟨_, h⟩
      · simp only at h; omega
      · simp only at h; omega
      · exact hty h
    clear hty
    obtain ⟨M, hM⟩ : ∃ M, M = fbytes (⟨[d0, d1, d2, d3, d4, d5], [s0, s1, s2, s3, s4, s5], v, ty, Z⟩ : Fr) := ⟨_, rfl⟩
    have hMl := HLF.out
    rw [← hM] at hMl hcase
    have HM := Lib.hid hM
    have HML := Lib.hid hMl
    clear hM
    by_cases hmp : 0 < mr
    · have hmpi : (0 : Int) < (mr : Int) := by omega
      obtain ⟨v6, rfl, he6⟩ : ∃ v, e = .returned (.tuple #[.slice none 0 0, v]) ∧ EC w6 (fun j => w5.heap.size ≤ j) [lay3] v 7 := by
        rcases hcase with ⟨h, _⟩ | ⟨_, _, v, h1, h2⟩ | ⟨_, h, _⟩
        · exact absurd h HNB.out
        · exact ⟨v, h1, h2⟩
        · omega
      have HE6 := Lib.hid he6
      clear hcase he6 hMl
      go_wp2_with fail
      refine (code_any _ _ 7 v6 w6 HE6.out (HG.out.keep HX6.out id)).mono ?_
      rintro e w7 ⟨rfl, hx7⟩
      have HX7 := Lib.hid (HX6.out.trans hx7)
      clear hx7
      go_wp2_with fail
      go_ret
      exact ⟨rfl, HX7.out⟩
    · have hmz : ¬ (0 : Int) < (mr : Int) := by omega
      obtain ⟨A6, c6, rfl, ho6⟩ : ∃ A' c', e = .returned (.tuple #[.slice (some A') M.length c', .nilIface]) ∧ OB w6 w5.heap.size (.slice (some A') M.length c') M := by
        rcases hcase with ⟨h, _⟩ | ⟨_, h, _⟩ | ⟨_, _, A', c', h1, h2⟩
        · exact absurd h HNB.out
        · omega
        · exact ⟨A', c', h1, h2⟩
      have hM9 : M.length ≤ 9000 := by omega
      have hMb : ((M.length : Int) == 9000) = true := by simp; omega
      have hZb : ((Z.length : Int) == 8986) = true := by have := HZL.out; simp; omega
      have HO6 := Lib.hid ho6
      clear hcase ho6 hMl
      go_wp2_with fail
      refine (parse_any _ (some A6) M.length c6 M w6 HO6.out.rb.any (fun h => by cases h) (by omega)).mono ?_
      rintro e w7 ⟨hx7, hcase⟩
      have hps : pframe M = some (⟨[d0, d1, d2, d3, d4, d5], [s0, s1, s2, s3, s4, s5], v, ty, Z⟩ : Fr) := by
        have := pframe_head OKF.out HNB.out Z
        rw [HM.out, fbytes_head]
        exact this
      obtain ⟨A8, g8, rfl, hb8⟩ : ∃ A' g, e = .returned (.tuple #[frv (⟨[d0, d1, d2, d3, d4, d5], [s0, s1, s2, s3, s4, s5], v, ty, Z⟩ : Fr) (.slice A' Z.length Z.length), .nilIface]) ∧ RB w7 (fun j => j = g) (.slice A' Z.length Z.length) Z := by
        rcases hcase with ⟨h, _⟩ | ⟨_, h, _⟩ | ⟨_, f, A', g, o, h1, h2, _, h3, _⟩
        · omega
        · rw [hps] at h; cases h
        · rw [hps] at h1
          obtain rfl := Option.some.inj h1
          exact ⟨A', g, h2, h3⟩
      clear hcase hps hb8
      have hz : frv (⟨[d0, d1, d2, d3, d4, d5], [s0, s1, s2, s3, s4, s5], v, ty, Z⟩ : Fr) (.slice A8 Z.length Z.length) = .agg #[.int .u8 (d0.toNat : Int), .int .u8 (d1.toNat : Int), .int .u8 (d2.toNat : Int), .int .u8 (d3.toNat : Int), .int .u8 (d4.toNat : Int), .int .u8 (d5.toNat : Int), .int .u8 (s0.toNat : Int), .int .u8 (s1.toNat : Int), .int .u8 (s2.toNat : Int), .int .u8 (s3.toNat : Int), .int .u8 (s4.toNat : Int), .int .u8 (s5.toNat : Int), .int .i64 v, .int .u16 (ty : Int), .slice A8 Z.length Z.length] := rfl
      rw [hz]
      clear hz
      have HX7 := Lib.hid (HX6.out.trans hx7)
      have HO7 := Lib.hid (HO6.out.keep hx7 (fun _ _ _ _ => id))
      have hs56 := HX6.out.size
      have hs7 := hx7.size
      clear hx7 c12 c13
      go_upto_region 14 with fail
      have hx8 : Ex (fun _ => False) w7 (w7.alloc (.cells #[.int .u8 (d0.toNat : Int), .int .u8 (d1.toNat : Int), .int .u8 (d2.toNat : Int), .int .u8 (d3.toNat : Int), .int .u8 (d4.toNat : Int), .int .u8 (d5.toNat : Int), .int .u8 (s0.toNat : Int), .int .u8 (s1.toNat : Int), .int .u8 (s2.toNat : Int), .int .u8 (s3.toNat : Int), .int .u8 (s4.toNat : Int), .int .u8 (s5.toNat : Int), .int .i64 v, .int .u16 (ty : Int), .slice A8 Z.length Z.length] 76)) := (Ex.refl _ w7).alloc _
      have hxr : (w7.alloc (.cells #[.int .u8 (d0.toNat : Int), .int .u8 (d1.toNat : Int), .int .u8 (d2.toNat : Int), .int .u8 (d3.toNat : Int), .int .u8 (d4.toNat : Int), .int .u8 (d5.toNat : Int), .int .u8 (s0.toNat : Int), .int .u8 (s1.toNat : Int), .int .u8 (s2.toNat : Int), .int .u8 (s3.toNat : Int), .int .u8 (s4.toNat : Int), .int .u8 (s5.toNat : Int), .int .i64 v, .int .u16 (ty : Int), .slice A8 Z.length Z.length] 76)).heap[w7.heap.size]? = some (.cells #[.int .u8 (d0.toNat : Int), .int .u8 (d1.toNat : Int), .int .u8 (d2.toNat : Int), .int .u8 (d3.toNat : Int), .int .u8 (d4.toNat : Int), .int .u8 (d5.toNat : Int), .int .u8 (s0.toNat : Int), .int .u8 (s1.toNat : Int), .int .u8 (s2.toNat : Int), .int .u8 (s3.toNat : Int), .int .u8 (s4.toNat : Int), .int .u8 (s5.toNat : Int), .int .i64 v, .int .u16 (ty : Int), .slice A8 Z.length Z.length] 76) := heap_alloc_new w7 _
      generalize w7.alloc (.cells #[.int .u8 (d0.toNat : Int), .int .u8 (d1.toNat : Int), .int .u8 (d2.toNat : Int), .int .u8 (d3.toNat : Int), .int .u8 (d4.toNat : Int), .int .u8 (d5.toNat : Int), .int .u8 (s0.toNat : Int), .int .u8 (s1.toNat : Int), .int .u8 (s2.toNat : Int), .int .u8 (s3.toNat : Int), .int .u8 (s4.toNat : Int), .int .u8 (s5.toNat : Int), .int .i64 v, .int .u16 (ty : Int), .slice A8 Z.length Z.length] 76) = w8 at hx8 hxr ⊢
      obtain ⟨xb, hxb⟩ : ∃ xb, xb = w7.heap.size := ⟨_, rfl⟩
      rw [← hxb] at hxr
      try simp only [← hxb]
      have hxb7 : w7.heap.size ≤ xb := by omega
      have hs8 := hx8.size
      clear hxb
      have HX8 := Lib.hid (HX7.out.trans hx8)
      have HO8 := Lib.hid (HO7.out.keep hx8 (fun _ _ _ _ => id))
      have HXR := Lib.hid hxr
      have hxw := row_lt hxr
      clear hx8 hxr
      have hbw : w5.heap.size ≤ w8.heap.size := by omega
      go_wp2_with (at_builtin; refine wpList_append_ob i0 23 Tryd.underlying23 hi hz0 hz1 hz2 rfl (.tmp 75) (.tmp 76) rfl w5.heap.size (.slice (some A6) M.length c6) M rfl (fun k => k = w8.heap.size) (.slice (some ⟨w8.heap.size, 0, none⟩) 1 1) [0] rfl (HO8.out.alloc _) (RB.made w8 [0] _ _ (by rfl) (by simp) _ _ rfl (Nat.le_refl _) rfl) (by simp; omega) (by simp; omega) ?_; intro A9 c9 w9 ho9 hg9 hn9 hb9)
      have hML := HML.out
      have hown6 : ∀ k, (Value.slice (some A6) M.length c6).ownBlock = some k → w.heap.size ≤ k ∧ k < w6.heap.size := fun k hk => by
        have h1 := HO6.out.lt k hk
        have h2 := HX5.out.size
        omega
      have hx9 : Ex (fun j => (Value.slice (some A6) M.length c6).ownBlock = some j) w8 w9 := ((Ex.refl (fun j => (Value.slice (some A6) M.length c6).ownBlock = some j) w8).alloc _).grown hg9 (fun k hk => .inl hk)
      have HX9 := Lib.hid (HX8.out.andThen hx9 (fun i hi e => by have := (hown6 i e).1; omega))
      have HXR9 := Lib.hid ((hx9.block xb hxw (fun e => by have := (hown6 xb e).2; omega)).trans HXR.out)
      cases A9 with
      | none => exact absurd (hn9.1 rfl).1 (by simp)
      | some a9 =>
        have HR9 := Lib.hid ho9.rb.any
        have HML2 := Lib.hid hML
        clear ho9 hg9 hn9 hb9 hx9 hown6 hML
        refine (parse_any _ (some a9) (M.length + 1) c9 (M ++ [0]) w9 HR9.out (fun h => by cases h) (by simp; omega)).mono ?_
        rintro e w10 ⟨hx10, hcase⟩
        have hl9 : 9000 < (M ++ [(0 : UInt8)]).length := by have := HML2.out; simp; omega
        obtain ⟨v10, rfl, he10⟩ : ∃ v, e = .returned (.tuple #[zfr, v]) ∧ EC w10 (fun j => w9.heap.size ≤ j) [lay3] v 7 := by
          rcases hcase with ⟨_, v, h1, h2⟩ | ⟨h, _⟩ | ⟨h, _⟩
          · exact ⟨v, h1, h2⟩
          · omega
          · omega
        clear hcase hl9
        have hz : zfr = .agg #[.int .u8 0, .int .u8 0, .int .u8 0, .int .u8 0, .int .u8 0, .int .u8 0, .int .u8 0, .int .u8 0, .int .u8 0, .int .u8 0, .int .u8 0, .int .u8 0, .int .i64 0, .int .u16 0, .slice none 0 0] := rfl
        rw [hz]
        clear hz
        have HX10 := Lib.hid (HX9.out.trans hx10)
        have HXR10 := Lib.hid ((hx10.block xb (row_lt HXR9.out) id).trans HXR9.out)
        have HE10 := Lib.hid he10
        clear hx10 he10
        go_upto_region 15 with fail
        have hx11 : Ex (fun _ => False) w10 (w10.alloc (.cells #[.int .u8 0, .int .u8 0, .int .u8 0, .int .u8 0, .int .u8 0, .int .u8 0, .int .u8 0, .int .u8 0, .int .u8 0, .int .u8 0, .int .u8 0, .int .u8 0, .int .i64 0, .int .u16 0, .slice none 0 0] 76)) := (Ex.refl _ w10).alloc _
        generalize w10.alloc (.cells #[.int .u8 0, .int .u8 0, .int .u8 0, .int .u8 0, .int .u8 0, .int .u8 0, .int .u8 0, .int .u8 0, .int .u8 0, .int .u8 0, .int .u8 0, .int .u8 0, .int .i64 0, .int .u16 0, .slice none 0 0] 76) = w11 at hx11 ⊢
        have HX11 := Lib.hid (HX10.out.trans hx11)
        have cx14 := row_cell (k := 14) (v := .slice A8 Z.length Z.length) ((hx11.block xb (row_lt HXR10.out) id).trans HXR10.out) rfl
        have HE11 := Lib.hid (HE10.out.keep hx11 (fun _ _ => id))
        clear hx11
        go_wp2_with fail
        refine (code_any _ _ 7 v10 w11 HE11.out (HG.out.keep HX11.out id)).mono ?_
        rintro e w12 ⟨rfl, hx12⟩
        have HX12 := Lib.hid (HX11.out.trans hx12)
        clear hx12
        go_wp2_with fail
        go_ret
        exact ⟨rfl, HX12.out⟩
end Go.Proofs.YtkgieciamophkaaDoor
