/-
  shown of law 06. By an AI agent.
-/
import Derived.Test.YtfcfpkhcpijkfaaDoorOf06
import Derived.Test.YtfcfpkhcpijkfaaDoorCode
import Derived.Test.YtfcfpkhcpijkfaaDoorShown05
import Derived.Lib.SlBytesConst
namespace Go.Proofs.YtfcfpkhcpijkfaaDoor
open Go.RowKit

def dA6 : Dg := ⟨1, 2, true, []⟩
def dB6 : Dg := ⟨1, 2, false, [97, 98]⟩
theorem dA6_ok : dA6.ok := by refine ⟨?_, ?_⟩ <;> decide
theorem dB6_ok : dB6.ok := by refine ⟨?_, ?_⟩ <;> decide
theorem dA6_is : db dA6 5 6 = [0, 1, 0, 2, 0, 8, 0, 0] := by decide +kernel
theorem dB6_is : db dB6 5 6 = [0, 1, 0, 2, 0, 10, 158, 106, 97, 98] := by decide +kernel
theorem dA6_err : uerr ([0, 1, 0, 2, 0, 8, 0, 0] ++ [7]) 9 9 = none := by decide +kernel
theorem dB6_err : uerr [0, 1, 0, 2, 0, 10, 158, 106, 97, 98] 5 6 = none := by decide +kernel
theorem dB6_bad : uerr [0, 1, 0, 2, 0, 10, 158, 106, 97, 98] 5 7 = some ([lay6], 4) := by decide +kernel
theorem dB6_cut : uerr ([0, 1, 0, 2, 0, 10, 158, 106, 97] : List UInt8) 5 6 = some ([lay6], 2) := by decide +kernel
set_option maxRecDepth 100000 in
set_option maxHeartbeats 8000000 in
theorem shown6_any (w : World) (hg : ET w) : Calls Tryd.prog 15 #[] w fun e w' => e = .returned (.bool true) ∧ Ex (fun _ => False) w w' := by
  obtain ⟨i0, hi, hz0, hz1, hz2⟩ := info_parts Tryd.info5
  have HG := Lib.hid hg
  clear hg
  have HCV := Lib.hid (fun (w : World) (C : Array Value) (n c : Nat) => Lib.run_convert_bytes_const (P := Tryd.prog) w 22 5 C n c Tryd.underlying22 Tryd.underlying5)
  go_enter Tryd.func15, Tryd.ntmps15
  go_upto_region 2 with fail
  have hx : Ex (fun _ => False) w (w.alloc (.cells #[.int .u16 1, .int .u16 2, .bool true, .slice none 0 0] 25)) := (Ex.refl _ w).alloc _
  have hb : (w.alloc (.cells #[.int .u16 1, .int .u16 2, .bool true, .slice none 0 0] 25)).heap[w.heap.size]? = some (.cells #[.int .u16 1, .int .u16 2, .bool true, .slice none 0 0] 25) := heap_alloc_new w _
  obtain ⟨b1, hb1⟩ : ∃ b1, b1 = w.heap.size := ⟨_, rfl⟩
  have hb_b1 : w.heap.size ≤ b1 := by omega
  rw [← hb1] at hb
  try simp only [← hb1]
  generalize w.alloc (.cells #[.int .u16 1, .int .u16 2, .bool true, .slice none 0 0] 25) = w1 at hx hb ⊢
  clear hb1
  have HX_w1 := Lib.hid hx
  clear hx
  have B_b1 := Lib.hid hb
  clear hb
  have hlb10 := row_lt B_b1.out
  have cb10 := row_cell (k := 0) (v := .int .u16 1) B_b1.out rfl
  have cb11 := row_cell (k := 1) (v := .int .u16 2) B_b1.out rfl
  have cb12 := row_cell (k := 2) (v := .bool true) B_b1.out rfl
  have cb13 := row_cell (k := 3) (v := .slice none 0 0) B_b1.out rfl
  go_wp2_with fail
  refine (dBytes_ok (fun _ => False) dA6 5 6 none 0 w1 dA6_ok (by decide) (by decide) (RB.nil _ _) (by decide)).mono ?_
  rintro e w2 ⟨A2, c2, rfl, ho, hx⟩
  rw [dA6_is] at ho
  have e8 : 8 + dA6.b.length = 8 := rfl
  rw [e8]
  clear e8
  have ho' : OB w2 w1.heap.size (.slice (some A2) 8 c2) [0, 1, 0, 2, 0, 8, 0, 0] := ho
  clear ho cb10 cb11 cb12 cb13
  have HX_w2 := Lib.hid hx
  clear hx
  have HO2 := Lib.hid ho'
  clear ho'
  go_wp2_with (first | (at_builtin; refine wpList_append_ob i0 22 Tryd.underlying22 hi hz0 hz1 hz2 rfl (.tmp 21) (.tmp 22) rfl w2.heap.size (.slice (some ⟨w2.heap.size, 0, none⟩) 0 0) [] rfl _ (.slice (some A2) 8 c2) [0, 1, 0, 2, 0, 8, 0, 0] rfl (OB.lit w2 w2.heap.size [] (Nat.le_refl _) (by simp)) (HO2.out.rb.alloc _) (by simp) (by simp) ?_; intro A3 c3 w3 ho3 hg3 hn3 hb3; have hx3 : Ex (fun _ => False) w2 w3 := ((Ex.refl _ w2).alloc _).grown hg3 (fun k hk => .inr (by obtain rfl := Option.some.inj hk; exact Nat.le_refl _)); have HO3 : Hid (OB w3 w2.heap.size (.slice A3 8 c3) [0, 1, 0, 2, 0, 8, 0, 0]) := ho3; have HZ3 := Lib.hid hx3.size; clear ho3 hg3 hn3 hb3) | (at_builtin; refine wpList_append_ob i0 22 Tryd.underlying22 hi hz0 hz1 hz2 rfl (.tmp 23) (.tmp 24) rfl w2.heap.size (.slice A3 8 c3) [0, 1, 0, 2, 0, 8, 0, 0] rfl (fun k => k = w3.heap.size) (.slice (some ⟨w3.heap.size, 0, none⟩) 1 1) [7] rfl (HO3.out.alloc _) (RB.made w3 [7] _ _ ?q1 ?q2 1 1 rfl (Nat.le_refl _) rfl) (by simp) (by have := HZ3.out; simp; omega) ?_; (case q1 => rfl); (case q2 => decide); intro A4 c4 w4 ho4 hg4 hn4 hb4; have hx4 := (hx3.alloc (.cells #[.int .u8 7] 5)).grown hg4 (fun k hk => .inr (HO3.out.lt k hk).1); have HO4 : Hid (OB w4 w2.heap.size (.slice A4 9 c4) ([0, 1, 0, 2, 0, 8, 0, 0] ++ [7])) := ho4; have HN4 := Lib.hid hn4; clear ho4 hg4 hn4 hb4))
  have hA4 : A4 = none → c4 = 0 := fun h => absurd (HN4.out.1 h).2 (by simp)
  have hx := hx4
  clear HN4 HO3 HZ3 hx3 hx4
  have HX_w4 := Lib.hid hx
  clear hx
  refine (uparse_yes _ A4 9 c4 ([0, 1, 0, 2, 0, 8, 0, 0] ++ [7]) 9 9 w4 HO4.out.rb hA4 (by decide) (by decide) (by decide) dA6_err).mono ?_
  rintro e w5 ⟨A5, rfl, hb5, hx⟩
  have hv : dgv (pd ([0, 1, 0, 2, 0, 8, 0, 0] ++ [7])) (.slice A5 (pd ([0, 1, 0, 2, 0, 8, 0, 0] ++ [7])).b.length (pd ([0, 1, 0, 2, 0, 8, 0, 0] ++ [7])).b.length) = .agg #[.int .u16 1, .int .u16 2, .bool true, .slice A5 0 0] := rfl
  rw [hv]
  clear hv hb5 hA4 HO4 hi hz0 hz1 hz2
  have HX_w5 := Lib.hid hx
  clear hx
  go_upto_region 4 with fail
  have hx : Ex (fun _ => False) w5 (w5.alloc (.cells #[.int .u16 1, .int .u16 2, .bool true, .slice A5 0 0] 25)) := (Ex.refl _ w5).alloc _
  have hb : (w5.alloc (.cells #[.int .u16 1, .int .u16 2, .bool true, .slice A5 0 0] 25)).heap[w5.heap.size]? = some (.cells #[.int .u16 1, .int .u16 2, .bool true, .slice A5 0 0] 25) := heap_alloc_new w5 _
  obtain ⟨b4, hb4⟩ : ∃ b4, b4 = w5.heap.size := ⟨_, rfl⟩
  have hb_b4 : w5.heap.size ≤ b4 := by omega
  rw [← hb4] at hb
  try simp only [← hb4]
  generalize w5.alloc (.cells #[.int .u16 1, .int .u16 2, .bool true, .slice A5 0 0] 25) = w6 at hx hb ⊢
  clear hb4
  have HX_w6 := Lib.hid hx
  clear hx
  have B_b4 := Lib.hid hb
  clear hb
  have hb1l := row_lt ((((HX_w2.out.trans HX_w4.out).trans HX_w5.out).block b1 (row_lt B_b1.out) id).trans B_b1.out)
  have ne_b4_b1 : b4 ≠ b1 := by omega
  replace B_b1 := Lib.hid (((((HX_w2.out.trans HX_w4.out).trans HX_w5.out).trans HX_w6.out).block b1 (row_lt B_b1.out) id).trans B_b1.out)
  have cb12 := row_cell (k := 2) (v := .bool true) B_b1.out rfl
  have fb12 := row_frozen B_b1.out 2
  go_upto_region 5 with fail

  have hb : (w6.setCell ⟨b1, 2, none⟩ (.bool false)).heap[b1]? = some (.cells #[.int .u16 1, .int .u16 2, .bool false, .slice none 0 0] 25) := (row_set B_b1.out 2 (.bool false))
  have hx : Ex (fun j => j = b1) w6 (w6.setCell ⟨b1, 2, none⟩ (.bool false)) := ((Ex.refl (fun j => j = b1) w6).setCell (p := ⟨b1, 2, none⟩) (.inl rfl) (.bool false))
  clear cb12 fb12
  generalize (w6.setCell ⟨b1, 2, none⟩ (.bool false)) = w7 at hx hb ⊢
  clear B_b1
  have HX_w7 := Lib.hid hx
  clear hx
  have B_b1 := Lib.hid hb
  clear hb
  have cb13 := row_cell (k := 3) (v := .slice none 0 0) B_b1.out rfl
  have fb13 := row_frozen B_b1.out 3
  have hcv0 := HCV.out
  have hlb1 := row_lt B_b1.out
  have hcx : Ex (fun _ => False) w7 (w7.alloc (.cells #[.int .u8 97, .int .u8 98] 5 (2, 3))) := (Ex.refl _ w7).alloc _
  have qb3 := hcx.cell cb13 id
  have qf3 : (w7.alloc (.cells #[.int .u8 97, .int .u8 98] 5 (2, 3))).frozen? ⟨b1, 3, none⟩ = false := (hcx.frozen (p := ⟨b1, 3, none⟩) hlb1 id).trans fb13
  go_upto_region 6 with fail
  clear hcv0 qb3 qf3 hcx cb13 fb13
  obtain ⟨gb, hgb⟩ : ∃ gb, gb = w7.heap.size := ⟨_, rfl⟩
  have hb : (w7.setCell ⟨b1, 3, none⟩ (.slice (some ⟨gb, 0, none⟩) 2 2)).heap[b1]? = some (.cells #[.int .u16 1, .int .u16 2, .bool false, .slice (some ⟨gb, 0, none⟩) 2 2] 25) := row_set B_b1.out 3 (.slice (some ⟨gb, 0, none⟩) 2 2)
  have hx : Ex (fun j => j = b1) w7 (w7.setCell ⟨b1, 3, none⟩ (.slice (some ⟨gb, 0, none⟩) 2 2)) := (Ex.refl (fun j => j = b1) w7).setCell (p := ⟨b1, 3, none⟩) (.inl rfl) _
  have hsz : (w7.setCell ⟨b1, 3, none⟩ (.slice (some ⟨gb, 0, none⟩) 2 2)).heap.size = gb := by rw [hgb]; simp [World.setCell]
  rw [← hgb]
  generalize w7.setCell ⟨b1, 3, none⟩ (.slice (some ⟨gb, 0, none⟩) 2 2) = w8 at hx hb hsz ⊢
  have hne1 : b1 ≠ gb := by omega
  have hb_gb : w8.heap.size ≤ gb := by omega
  clear B_b1 hgb
  have HX_w8 := Lib.hid hx
  clear hx
  have B_b1 := Lib.hid hb
  clear hb
  have hbab : RB (w8.alloc (.cells #[.int .u8 97, .int .u8 98] 5 (2, 3))) (fun k => k = w8.heap.size) (.slice (some ⟨gb, 0, none⟩) 2 2) [97, 98] := RB.madeF w8 [97, 98] #[.int .u8 97, .int .u8 98] 5 (2, 3) rfl (by decide) 2 2 rfl (Nat.le_refl _) hsz.symm
  rw [hsz] at hbab
  have hx : Ex (fun _ => False) w8 (w8.alloc (.cells #[.int .u8 97, .int .u8 98] 5 (2, 3))) := (Ex.refl _ w8).alloc _
  generalize w8.alloc (.cells #[.int .u8 97, .int .u8 98] 5 (2, 3)) = w9 at hx hbab ⊢
  clear hsz
  have HX_w9 := Lib.hid hx
  clear hx
  have HAB := Lib.hid hbab
  clear hbab
  replace B_b1 := Lib.hid ((HX_w9.out.block b1 (row_lt B_b1.out) id).trans B_b1.out)
  have cb10 := row_cell (k := 0) (v := .int .u16 1) B_b1.out rfl
  have cb11 := row_cell (k := 1) (v := .int .u16 2) B_b1.out rfl
  have cb12 := row_cell (k := 2) (v := .bool false) B_b1.out rfl
  have cb13 := row_cell (k := 3) (v := .slice (some ⟨gb, 0, none⟩) 2 2) B_b1.out rfl
  go_wp2_with fail
  refine (dBytes_ok _ dB6 5 6 (some ⟨gb, 0, none⟩) 2 w9 dB6_ok (by decide) (by decide) HAB.out (by decide)).mono ?_
  rintro e wa ⟨A9, c9, rfl, ho, hx⟩
  rw [dB6_is] at ho
  have e8 : 8 + dB6.b.length = 10 := rfl
  rw [e8]
  clear e8
  have ho' : OB wa w9.heap.size (.slice (some A9) 10 c9) [0, 1, 0, 2, 0, 10, 158, 106, 97, 98] := ho
  obtain ⟨g9, rfl, hb_g9, hg9⟩ := ho'.plain
  have hc9 : 10 ≤ c9 := by obtain ⟨_, _, _, e, h, _⟩ := ho'.rb; injection e with _ _ e3; rw [e3]; exact h
  clear ho cb10 cb11 cb12 cb13
  have HX_wa := Lib.hid hx
  clear hx
  have HO9 := Lib.hid ho'
  clear ho'
  go_wp2_with fail
  refine (uparse_yes _ (some ⟨g9, 0, none⟩) 10 c9 [0, 1, 0, 2, 0, 10, 158, 106, 97, 98] 5 6 wa HO9.out.rb (fun h => by cases h) (by decide) (by decide) (by decide) dB6_err).mono ?_
  rintro e wb ⟨Ab, rfl, hbb, hx⟩
  have hv : dgv (pd [0, 1, 0, 2, 0, 10, 158, 106, 97, 98]) (.slice Ab (pd [0, 1, 0, 2, 0, 10, 158, 106, 97, 98]).b.length (pd [0, 1, 0, 2, 0, 10, 158, 106, 97, 98]).b.length) = .agg #[.int .u16 1, .int .u16 2, .bool false, .slice Ab 2 2] := rfl
  rw [hv]
  clear hv hbb
  go_upto_region 8 with fail
  have HX_wb := Lib.hid hx
  clear hx
  have hx : Ex (fun _ => False) wb (wb.alloc (.cells #[.int .u16 1, .int .u16 2, .bool false, .slice Ab 2 2] 25)) := (Ex.refl _ wb).alloc _
  have hb : (wb.alloc (.cells #[.int .u16 1, .int .u16 2, .bool false, .slice Ab 2 2] 25)).heap[wb.heap.size]? = some (.cells #[.int .u16 1, .int .u16 2, .bool false, .slice Ab 2 2] 25) := heap_alloc_new wb _
  obtain ⟨b8, hb8⟩ : ∃ b8, b8 = wb.heap.size := ⟨_, rfl⟩
  have hb_b8 : wb.heap.size ≤ b8 := by omega
  rw [← hb8] at hb
  try simp only [← hb8]
  generalize wb.alloc (.cells #[.int .u16 1, .int .u16 2, .bool false, .slice Ab 2 2] 25) = wc at hx hb ⊢
  clear hb8
  have HX_wc := Lib.hid hx
  clear hx
  have B_b8 := Lib.hid hb
  clear hb
  go_wp2_with fail
  refine (uparse_no _ (some ⟨g9, 0, none⟩) 10 c9 [0, 1, 0, 2, 0, 10, 158, 106, 97, 98] 5 7 wc (OB.keep HO9.out (HX_wb.out.trans HX_wc.out) (fun _ _ _ _ => id)).rb (fun h => by cases h) (by decide) (by decide) (by decide) [lay6] 4 dB6_bad).mono ?_
  rintro e wd ⟨vd, rfl, he, hx⟩
  obtain ⟨td, yd, rfl⟩ := he.shape
  have hv : dgv zdg (.slice none 0 0) = .agg #[.int .u16 0, .int .u16 0, .bool false, .slice none 0 0] := rfl
  rw [hv]
  clear hv
  have HX_wd := Lib.hid hx
  clear hx
  have HEd := Lib.hid he
  clear he
  go_upto_region 9 with fail
  have hx : Ex (fun _ => False) wd (wd.alloc (.cells #[.int .u16 0, .int .u16 0, .bool false, .slice none 0 0] 25)) := (Ex.refl _ wd).alloc _
  have hb : (wd.alloc (.cells #[.int .u16 0, .int .u16 0, .bool false, .slice none 0 0] 25)).heap[wd.heap.size]? = some (.cells #[.int .u16 0, .int .u16 0, .bool false, .slice none 0 0] 25) := heap_alloc_new wd _
  obtain ⟨b10, hb10⟩ : ∃ b10, b10 = wd.heap.size := ⟨_, rfl⟩
  have hb_b10 : wd.heap.size ≤ b10 := by omega
  rw [← hb10] at hb
  try simp only [← hb10]
  generalize wd.alloc (.cells #[.int .u16 0, .int .u16 0, .bool false, .slice none 0 0] 25) = we at hx hb ⊢
  clear hb10
  have HX_we := Lib.hid hx
  clear hx
  have B_b10 := Lib.hid hb
  clear hb
  have hc9i : (9 : Int) ≤ (c9 : Int) := by omega
  have hc9n : 9 ≤ c9 := by omega
  go_wp2_with fail
  refine (uparse_no _ (some ⟨g9, 0, none⟩) 9 c9 ([0, 1, 0, 2, 0, 10, 158, 106, 97] : List UInt8) 5 6 we ((OB.keep HO9.out (((HX_wb.out.trans HX_wc.out).trans HX_wd.out).trans HX_we.out) (fun _ _ _ _ => id)).rb.take 9) (fun h => by cases h) (by decide) (by decide) (by decide) [lay6] 2 dB6_cut).mono ?_
  rintro e wf ⟨vf, rfl, he, hx⟩
  obtain ⟨tf, yf, rfl⟩ := he.shape
  have hv : dgv zdg (.slice none 0 0) = .agg #[.int .u16 0, .int .u16 0, .bool false, .slice none 0 0] := rfl
  rw [hv]
  clear hv
  have HX_wf := Lib.hid hx
  clear hx
  have HEf := Lib.hid he
  clear he
  go_upto_region 10 with fail
  have hx : Ex (fun _ => False) wf (wf.alloc (.cells #[.int .u16 0, .int .u16 0, .bool false, .slice none 0 0] 25)) := (Ex.refl _ wf).alloc _
  have hb : (wf.alloc (.cells #[.int .u16 0, .int .u16 0, .bool false, .slice none 0 0] 25)).heap[wf.heap.size]? = some (.cells #[.int .u16 0, .int .u16 0, .bool false, .slice none 0 0] 25) := heap_alloc_new wf _
  obtain ⟨b12, hb12⟩ : ∃ b12, b12 = wf.heap.size := ⟨_, rfl⟩
  have hb_b12 : wf.heap.size ≤ b12 := by omega
  rw [← hb12] at hb
  try simp only [← hb12]
  generalize wf.alloc (.cells #[.int .u16 0, .int .u16 0, .bool false, .slice none 0 0] 25) = wg at hx hb ⊢
  clear hb12
  have HX_wg := Lib.hid hx
  clear hx
  have B_b12 := Lib.hid hb
  clear hb
  replace HO2 := Lib.hid (OB.keep (OB.keepB (OB.keepB (OB.keep HO2.out ((HX_w4.out.trans HX_w5.out).trans HX_w6.out) (fun _ _ _ _ => id)) HX_w7.out (by omega)) HX_w8.out (by omega)) (((((((HX_w9.out.trans HX_wa.out).trans HX_wb.out).trans HX_wc.out).trans HX_wd.out).trans HX_we.out).trans HX_wf.out).trans HX_wg.out) (fun _ _ _ _ => id))
  replace B_b4 := Lib.hid (((((((((HX_w9.out.trans HX_wa.out).trans HX_wb.out).trans HX_wc.out).trans HX_wd.out).trans HX_we.out).trans HX_wf.out).trans HX_wg.out).block b4 (row_lt ((HX_w8.out.block b4 (row_lt ((HX_w7.out.block b4 (row_lt B_b4.out) ne_b4_b1).trans B_b4.out)) ne_b4_b1).trans ((HX_w7.out.block b4 (row_lt B_b4.out) ne_b4_b1).trans B_b4.out))) id).trans ((HX_w8.out.block b4 (row_lt ((HX_w7.out.block b4 (row_lt B_b4.out) ne_b4_b1).trans B_b4.out)) ne_b4_b1).trans ((HX_w7.out.block b4 (row_lt B_b4.out) ne_b4_b1).trans B_b4.out)))
  have cb40 := row_cell (k := 0) (v := .int .u16 1) B_b4.out rfl
  have cb42 := row_cell (k := 2) (v := .bool true) B_b4.out rfl
  have cb43 := row_cell (k := 3) (v := .slice A5 0 0) B_b4.out rfl
  have hcv := HO2.out.rb.str (Pr := Tryd.prog) 22 9 5 Tryd.underlying22 Tryd.underlying5 Tryd.underlying9
  have hb4 : bs [0, 1, 0, 2, 0, 8, 0, 0] = ⟨#[0, 1, 0, 2, 0, 8, 0, 0]⟩ := rfl
  rw [hb4] at hcv
  clear hb4
  go_wp2_with fail
  refine (code_any _ _ 4 _ wg (EC.keep ((HX_we.out.trans HX_wf.out).trans HX_wg.out) (fun _ _ => id) HEd.out) (HG.out.keep ((((((((((((((HX_w1.out.trans HX_w2.out).trans HX_w4.out).trans HX_w5.out).trans HX_w6.out).andThen HX_w7.out (fun i hi e => by have := hb_b1; omega)).andThen HX_w8.out (fun i hi e => by have := hb_b1; omega)).trans HX_w9.out).trans HX_wa.out).trans HX_wb.out).trans HX_wc.out).trans HX_wd.out).trans HX_we.out).trans HX_wf.out).trans HX_wg.out) id)).mono ?_
  rintro e wh ⟨rfl, hx⟩
  clear hcv cb40 cb42 cb43
  have HX_wh := Lib.hid hx
  clear hx
  go_wp2_with fail
  refine (told6_any _ _ 2 _ wh (EC.keep (HX_wg.out.trans HX_wh.out) (fun _ _ => id) HEf.out) (by decide) (by decide)).mono ?_
  rintro e wi ⟨rfl, hx⟩
  have ht : bs (etx [lay6] 2) = ⟨#[117, 100, 112, 58, 32, 101, 114, 114, 111, 114, 32, 50]⟩ := by decide
  rw [ht]
  clear ht
  have HX_wi := Lib.hid hx
  clear hx
  go_wp2_with fail
  go_ret
  exact ⟨rfl, ((((((((((((((((HX_w1.out.trans HX_w2.out).trans HX_w4.out).trans HX_w5.out).trans HX_w6.out).andThen HX_w7.out (fun i hi e => by have := hb_b1; omega)).andThen HX_w8.out (fun i hi e => by have := hb_b1; omega)).trans HX_w9.out).trans HX_wa.out).trans HX_wb.out).trans HX_wc.out).trans HX_wd.out).trans HX_we.out).trans HX_wf.out).trans HX_wg.out).trans HX_wh.out).trans HX_wi.out)⟩
end Go.Proofs.YtfcfpkhcpijkfaaDoor
