/-
  shown of law 03. By an AI agent.
-/
import Derived.Test.YtkgieciamophkaaDoorOf03
import Derived.Test.YtkgieciamophkaaDoorLaidAll
namespace Go.Proofs.YtkgieciamophkaaDoor
open Go.RowKit

def sh3 : List UInt8 := [255, 255, 255, 255, 255, 255, 2, 2, 2, 2, 2, 2, 129, 0, 0, 5, 8, 6, 9]
def sf3 : Fr := ⟨[255, 255, 255, 255, 255, 255], [2, 2, 2, 2, 2, 2], 5, 2054, [9]⟩
theorem sh3_parse : pframe sh3 = some sf3 := by simp [sh3, pframe, ptag, nb, sf3]
theorem sh3_cut : pframe (sh3.take 17) = none := by simp [sh3, pframe, ptag, nb]
theorem sf3_bytes : fbytes sf3 = sh3 := by decide +kernel
theorem sf3_ok : sf3.ok := ⟨rfl, rfl, by decide, by decide, by decide⟩
theorem sf3_good : ¬ badfr sf3 := by
  intro h
  rcases h with h | h | ⟨h, _⟩
  · exact absurd h (by decide)
  · exact absurd h (by decide)
  · exact absurd h (by decide)
theorem mac_all (w : World) : (binOp .eql 74 (.agg #[.int .u8 255, .int .u8 255, .int .u8 255, .int .u8 255, .int .u8 255, .int .u8 255]) (.agg #[.int .u8 255, .int .u8 255, .int .u8 255, .int .u8 255, .int .u8 255, .int .u8 255])).run Tryd.prog w = .ok (.bool true) w := by kernel_rfl

set_option maxRecDepth 100000 in
set_option maxHeartbeats 4000000 in
theorem shown3_any (w : World) (hg : ET w) (hal : AL w) : Calls Tryd.prog 33 #[] w fun e w' => e = .returned (.bool true) ∧ Ex (fun _ => False) w w' := by
  have HG := Lib.hid hg
  have HAL := Lib.hid hal
  clear hg hal
  go_enter Tryd.func33, Tryd.ntmps33
  go_wp2_with fail
  have hb1 := RB.made w sh3 #[.int .u8 255, .int .u8 255, .int .u8 255, .int .u8 255, .int .u8 255, .int .u8 255, .int .u8 2, .int .u8 2, .int .u8 2, .int .u8 2, .int .u8 2, .int .u8 2, .int .u8 129, .int .u8 0, .int .u8 0, .int .u8 5, .int .u8 8, .int .u8 6, .int .u8 9] 5 rfl (by decide) 19 19 rfl (Nat.le_refl _) rfl
  have hx1 : Ex (fun _ => False) w (w.alloc (.cells #[.int .u8 255, .int .u8 255, .int .u8 255, .int .u8 255, .int .u8 255, .int .u8 255, .int .u8 2, .int .u8 2, .int .u8 2, .int .u8 2, .int .u8 2, .int .u8 2, .int .u8 129, .int .u8 0, .int .u8 0, .int .u8 5, .int .u8 8, .int .u8 6, .int .u8 9] 5)) := (Ex.refl _ w).alloc _
  generalize w.alloc (.cells #[.int .u8 255, .int .u8 255, .int .u8 255, .int .u8 255, .int .u8 255, .int .u8 255, .int .u8 2, .int .u8 2, .int .u8 2, .int .u8 2, .int .u8 2, .int .u8 2, .int .u8 129, .int .u8 0, .int .u8 0, .int .u8 5, .int .u8 8, .int .u8 6, .int .u8 9] 5) = w1 at hb1 hx1 ⊢
  generalize w.heap.size = b0 at hb1 ⊢
  refine (parse_any _ _ 19 19 sh3 w1 hb1 (fun h => by cases h) (by decide)).mono ?_
  rintro e w2 ⟨hx2, hcase⟩
  obtain ⟨A2, g2, rfl, hb2⟩ : ∃ A' g, e = .returned (.tuple #[frv sf3 (.slice A' 1 1), .nilIface]) ∧ RB w2 (fun j => j = g) (.slice A' 1 1) [9] := by
    rcases hcase with ⟨h, _⟩ | ⟨_, h, _⟩ | ⟨_, f, A', g, o, h1, h2, _, h3, _⟩
    · exact absurd h (by decide)
    · rw [sh3_parse] at h; cases h
    · rw [sh3_parse] at h1
      obtain rfl := Option.some.inj h1
      exact ⟨A', g, h2, h3⟩
  clear hcase
  have hfv : frv sf3 (.slice A2 1 1) = .agg #[.int .u8 255, .int .u8 255, .int .u8 255, .int .u8 255, .int .u8 255, .int .u8 255, .int .u8 2, .int .u8 2, .int .u8 2, .int .u8 2, .int .u8 2, .int .u8 2, .int .i64 5, .int .u16 2054, .slice A2 1 1] := rfl
  rw [hfv]
  clear hfv
  have HX2 := Lib.hid (hx1.trans hx2)
  have HB1 := Lib.hid (hb1.keep hx2 (fun _ _ _ => id))
  have HB2 := Lib.hid hb2
  have hs1 := hx1.size
  have hs2 := hx2.size
  clear hx1 hx2 hb1 hb2
  go_upto_region 3 with fail
  have hx3 : Ex (fun _ => False) w2 (w2.alloc (.cells #[.int .u8 255, .int .u8 255, .int .u8 255, .int .u8 255, .int .u8 255, .int .u8 255, .int .u8 2, .int .u8 2, .int .u8 2, .int .u8 2, .int .u8 2, .int .u8 2, .int .i64 5, .int .u16 2054, .slice A2 1 1] 76)) := (Ex.refl _ w2).alloc _
  have hf3 : (w2.alloc (.cells #[.int .u8 255, .int .u8 255, .int .u8 255, .int .u8 255, .int .u8 255, .int .u8 255, .int .u8 2, .int .u8 2, .int .u8 2, .int .u8 2, .int .u8 2, .int .u8 2, .int .i64 5, .int .u16 2054, .slice A2 1 1] 76)).heap[w2.heap.size]? = some (.cells #[.int .u8 255, .int .u8 255, .int .u8 255, .int .u8 255, .int .u8 255, .int .u8 255, .int .u8 2, .int .u8 2, .int .u8 2, .int .u8 2, .int .u8 2, .int .u8 2, .int .i64 5, .int .u16 2054, .slice A2 1 1] 76) := heap_alloc_new w2 _
  generalize w2.alloc (.cells #[.int .u8 255, .int .u8 255, .int .u8 255, .int .u8 255, .int .u8 255, .int .u8 255, .int .u8 2, .int .u8 2, .int .u8 2, .int .u8 2, .int .u8 2, .int .u8 2, .int .i64 5, .int .u16 2054, .slice A2 1 1] 76) = w3 at hx3 hf3 ⊢
  generalize hfb : w2.heap.size = fb at hf3 ⊢
  clear hfb
  have c0 := row_cell (k := 0) (v := .int .u8 255) hf3 rfl
  have c1 := row_cell (k := 1) (v := .int .u8 255) hf3 rfl
  have c2 := row_cell (k := 2) (v := .int .u8 255) hf3 rfl
  have c3 := row_cell (k := 3) (v := .int .u8 255) hf3 rfl
  have c4 := row_cell (k := 4) (v := .int .u8 255) hf3 rfl
  have c5 := row_cell (k := 5) (v := .int .u8 255) hf3 rfl
  have c6 := row_cell (k := 6) (v := .int .u8 2) hf3 rfl
  have c7 := row_cell (k := 7) (v := .int .u8 2) hf3 rfl
  have c8 := row_cell (k := 8) (v := .int .u8 2) hf3 rfl
  have c9 := row_cell (k := 9) (v := .int .u8 2) hf3 rfl
  have c10 := row_cell (k := 10) (v := .int .u8 2) hf3 rfl
  have c11 := row_cell (k := 11) (v := .int .u8 2) hf3 rfl
  have c12 := row_cell (k := 12) (v := .int .i64 5) hf3 rfl
  have c13 := row_cell (k := 13) (v := .int .u16 2054) hf3 rfl
  have c14 := row_cell (k := 14) (v := .slice A2 1 1) hf3 rfl
  have HX3 := Lib.hid (HX2.out.trans hx3)
  have HB13 := Lib.hid (HB1.out.keep hx3 (fun _ _ _ => id))
  have HB23 := Lib.hid (HB2.out.keep hx3 (fun _ _ _ => id))
  have HF3 := Lib.hid hf3
  clear hx3 hf3 HX2 HB1 HB2
  go_wp2_with fail
  refine (fbytes_any _ sf3 A2 1 1 w3 sf3_ok HB23.out (by decide)).mono ?_
  rintro e w4 ⟨hx4, hcase⟩
  obtain ⟨A4, cc4, rfl, ho4⟩ : ∃ A' c', e = .returned (.tuple #[.slice (some A') 19 c', .nilIface]) ∧ OB w4 w3.heap.size (.slice (some A') 19 c') sh3 := by
    rcases hcase with ⟨h, _⟩ | ⟨_, h, _⟩ | ⟨_, _, A', c', h1, h2⟩
    · exact absurd h sf3_good
    · rw [sf3_bytes] at h; exact absurd h (by decide)
    · rw [sf3_bytes] at h1 h2
      exact ⟨A', c', h1, h2⟩
  clear hcase
  have HX4 := Lib.hid (HX3.out.trans hx4)
  have HB14 := Lib.hid (HB13.out.keep hx4 (fun _ _ _ => id))
  have HB24 := Lib.hid (HB23.out.keep hx4 (fun _ _ _ => id))
  have HF4 := Lib.hid ((hx4.block fb (row_lt HF3.out) id).trans HF3.out)
  have HO4 := Lib.hid ho4
  clear hx4 ho4 HX3 HB13 HB23 HF3 c0 c1 c2 c3 c4 c5 c6 c7 c8 c9 c10 c11 c12 c13 c14
  go_wp2_with fail
  refine (parse_any _ (some ⟨b0, 0, none⟩) 17 19 (sh3.take 17) w4 (HB14.out.take 17) (fun h => by cases h) (by decide)).mono ?_
  rintro e w5 ⟨hx5, hcase⟩
  obtain ⟨v5, rfl, he5⟩ : ∃ v, e = .returned (.tuple #[zfr, v]) ∧ EC w5 (fun j => w4.heap.size ≤ j) [lay3, lay1] v 2 := by
    rcases hcase with ⟨h, _⟩ | ⟨_, _, v, h1, h2⟩ | ⟨_, f, A', g, o, h1, _⟩
    · exact absurd h (by decide)
    · exact ⟨v, h1, h2⟩
    · rw [sh3_cut] at h1; cases h1
  clear hcase
  have hz : zfr = .agg #[.int .u8 0, .int .u8 0, .int .u8 0, .int .u8 0, .int .u8 0, .int .u8 0, .int .u8 0, .int .u8 0, .int .u8 0, .int .u8 0, .int .u8 0, .int .u8 0, .int .i64 0, .int .u16 0, .slice none 0 0] := rfl
  rw [hz]
  clear hz
  have HX5 := Lib.hid (HX4.out.trans hx5)
  have HB15 := Lib.hid (HB14.out.keep hx5 (fun _ _ _ => id))
  have HB25 := Lib.hid (HB24.out.keep hx5 (fun _ _ _ => id))
  have HF5 := Lib.hid ((hx5.block fb (row_lt HF4.out) id).trans HF4.out)
  have HO5 := Lib.hid (HO4.out.keep hx5 (fun _ _ _ _ => id))
  have HE5 := Lib.hid he5
  clear hx5 he5 HX4 HB14 HB24 HF4 HO4
  go_upto_region 5 with fail
  have hx6 : Ex (fun _ => False) w5 (w5.alloc (.cells #[.int .u8 0, .int .u8 0, .int .u8 0, .int .u8 0, .int .u8 0, .int .u8 0, .int .u8 0, .int .u8 0, .int .u8 0, .int .u8 0, .int .u8 0, .int .u8 0, .int .i64 0, .int .u16 0, .slice none 0 0] 76)) := (Ex.refl _ w5).alloc _
  generalize w5.alloc (.cells #[.int .u8 0, .int .u8 0, .int .u8 0, .int .u8 0, .int .u8 0, .int .u8 0, .int .u8 0, .int .u8 0, .int .u8 0, .int .u8 0, .int .u8 0, .int .u8 0, .int .i64 0, .int .u16 0, .slice none 0 0] 76) = w6 at hx6 ⊢
  have HX6 := Lib.hid (HX5.out.trans hx6)
  have HB16 := Lib.hid (HB15.out.keep hx6 (fun _ _ _ => id))
  have HB26 := Lib.hid (HB25.out.keep hx6 (fun _ _ _ => id))
  have HF6 := Lib.hid ((hx6.block fb (row_lt HF5.out) id).trans HF5.out)
  have HO6 := Lib.hid (HO5.out.keep hx6 (fun _ _ _ _ => id))
  have HE6 := Lib.hid (HE5.out.keep hx6 (fun _ _ => id))
  clear hx6 HX5 HB15 HB25 HF5 HO5 HE5
  go_wp2_with fail
  refine (bytes_bad1 0 0 0 0 0 0 0 0 0 0 0 0 (-2) 0 none 0 0 w6 (by decide)).mono ?_
  rintro e w7 ⟨hx7, v7, rfl, he7⟩
  have HX7 := Lib.hid (HX6.out.trans hx7)
  have HB17 := Lib.hid (HB16.out.keep hx7 (fun _ _ _ => id))
  have HB27 := Lib.hid (HB26.out.keep hx7 (fun _ _ _ => id))
  have hf7 := (hx7.block fb (row_lt HF6.out) id).trans HF6.out
  have HF7 := Lib.hid hf7
  have HO7 := Lib.hid (HO6.out.keep hx7 (fun _ _ _ _ => id))
  have HE57 := Lib.hid (HE6.out.keep hx7 (fun _ _ => id))
  have HE77 := Lib.hid he7
  have HG7 := Lib.hid (HG.out.keep HX7.out id)
  have HAL7 := Lib.hid (HAL.out.keep HX7.out id)
  have c0 := row_cell (k := 0) (v := .int .u8 255) hf7 rfl
  have c1 := row_cell (k := 1) (v := .int .u8 255) hf7 rfl
  have c2 := row_cell (k := 2) (v := .int .u8 255) hf7 rfl
  have c3 := row_cell (k := 3) (v := .int .u8 255) hf7 rfl
  have c4 := row_cell (k := 4) (v := .int .u8 255) hf7 rfl
  have c5 := row_cell (k := 5) (v := .int .u8 255) hf7 rfl
  have c6 := row_cell (k := 6) (v := .int .u8 2) hf7 rfl
  have c7 := row_cell (k := 7) (v := .int .u8 2) hf7 rfl
  have c8 := row_cell (k := 8) (v := .int .u8 2) hf7 rfl
  have c9 := row_cell (k := 9) (v := .int .u8 2) hf7 rfl
  have c10 := row_cell (k := 10) (v := .int .u8 2) hf7 rfl
  have c11 := row_cell (k := 11) (v := .int .u8 2) hf7 rfl
  have c12 := row_cell (k := 12) (v := .int .i64 5) hf7 rfl
  have c13 := row_cell (k := 13) (v := .int .u16 2054) hf7 rfl
  have c14 := row_cell (k := 14) (v := .slice A2 1 1) hf7 rfl
  have a0 := HAL7.out 0 (by decide)
  have a1 := HAL7.out 1 (by decide)
  have a2 := HAL7.out 2 (by decide)
  have a3 := HAL7.out 3 (by decide)
  have a4 := HAL7.out 4 (by decide)
  have a5 := HAL7.out 5 (by decide)
  have q0 := mac_all
  have hc1 := HB27.out.str (Pr := Tryd.prog) 23 9 5 Tryd.underlying23 Tryd.underlying5 Tryd.underlying9
  have hc2 := HO7.out.rb.str (Pr := Tryd.prog) 23 9 5 Tryd.underlying23 Tryd.underlying5 Tryd.underlying9
  have hc3 := HB17.out.str (Pr := Tryd.prog) 23 9 5 Tryd.underlying23 Tryd.underlying5 Tryd.underlying9
  have hb9 : bs [9] = ⟨#[9]⟩ := rfl
  rw [hb9] at hc1
  clear hb9 hf7 hx7 he7 HX6 HB16 HB26 HF6 HO6 HE6
  go_wp2_with fail
  refine (code_any _ _ 2 v5 w7 HE57.out HG7.out).mono ?_
  rintro e w8 ⟨rfl, hx8⟩
  have HX8 := Lib.hid (HX7.out.trans hx8)
  have HF8 := Lib.hid ((hx8.block fb (row_lt HF7.out) id).trans HF7.out)
  have HE78 := Lib.hid (HE77.out.keep hx8 (fun _ _ => id))
  clear hx8 HX7 HF7 HE77 HE57 hc1 hc2 hc3 q0 a0 a1 a2 a3 a4 a5 c0 c1 c2 c3 c4 c5 c6 c7 c8 c9 c10 c11 c12 c13 c14 HB17 HB27 HO7 HAL7
  go_wp2_with fail
  refine (told3_any _ _ 1 v7 w8 HE78.out (by decide) (by decide)).mono ?_
  rintro e w9 ⟨rfl, hx9⟩
  have HX9 := Lib.hid (HX8.out.trans hx9)
  have hf9 := (hx9.block fb (row_lt HF8.out) id).trans HF8.out
  have HF9 := Lib.hid hf9
  have ht : bs (etx [lay3] 1) = ⟨#[101, 116, 104, 101, 114, 58, 32, 101, 114, 114, 111, 114, 32, 49]⟩ := by decide
  rw [ht]
  have c0 := row_cell (k := 0) (v := .int .u8 255) hf9 rfl
  have c1 := row_cell (k := 1) (v := .int .u8 255) hf9 rfl
  have c2 := row_cell (k := 2) (v := .int .u8 255) hf9 rfl
  have c3 := row_cell (k := 3) (v := .int .u8 255) hf9 rfl
  have c4 := row_cell (k := 4) (v := .int .u8 255) hf9 rfl
  have c5 := row_cell (k := 5) (v := .int .u8 255) hf9 rfl
  clear hx9 HX8 HF8 HE78 ht hf9
  go_wp2_with fail
  refine (group_any 255 255 255 255 255 255 w9).mono ?_
  rintro e w10 ⟨rfl, hx10⟩
  have hgt : decide ((255 : UInt8).toNat % 2 = 1) = true := by decide
  rw [hgt]
  have HX10 := Lib.hid (HX9.out.trans hx10)
  have hf10 := (hx10.block fb (row_lt HF9.out) id).trans HF9.out
  clear c0 c1 c2 c3 c4 c5
  have c6 := row_cell (k := 6) (v := .int .u8 2) hf10 rfl
  have c7 := row_cell (k := 7) (v := .int .u8 2) hf10 rfl
  have c8 := row_cell (k := 8) (v := .int .u8 2) hf10 rfl
  have c9 := row_cell (k := 9) (v := .int .u8 2) hf10 rfl
  have c10 := row_cell (k := 10) (v := .int .u8 2) hf10 rfl
  have c11 := row_cell (k := 11) (v := .int .u8 2) hf10 rfl
  clear hx10 HX9 HF9 hf10 hgt
  go_wp2_with fail
  refine (group_any 2 2 2 2 2 2 w10).mono ?_
  rintro e w11 ⟨rfl, hx11⟩
  have hgt : decide ((2 : UInt8).toNat % 2 = 1) = false := by decide
  rw [hgt]
  have HX11 := Lib.hid (HX10.out.trans hx11)
  clear hx11 HX10 hgt
  go_wp2_with fail
  go_ret
  exact ⟨rfl, HX11.out⟩
end Go.Proofs.YtkgieciamophkaaDoor
