/-
  shown of law 07. By an AI agent.
-/
import Derived.Test.YtbmjkcocnmfpaaaDoorMsP
import Derived.Test.YtbmjkcocnmfpaaaDoorMsE
import Derived.Test.YtbmjkcocnmfpaaaDoorOf07
import Derived.Lib.SlBytesConst
namespace Go.Proofs.YtbmjkcocnmfpaaaDoor
open Go.RowKit

def sm7 : Ms := ⟨8, 0, 1, []⟩
theorem sm7_is : mb sm7 = [8, 0, 247, 254, 0, 0, 0, 1] := by decide +kernel
theorem sm7_ok : sm7.ok := by refine ⟨?_, ?_, ?_⟩ <;> decide
theorem sm7_su : su [8, 0, 247, 254, 0, 0, 0, 1] = 0 := by decide +kernel
theorem sm7_pm : pm [8, 0, 247, 254, 0, 0, 0, 1] = sm7 := rfl
def sp7 : Pk := ⟨0, 0, false, false, 0, 0, 17, 0, 0, List.replicate 20 0⟩
theorem sp7_ok : sp7.ok := by refine ⟨?_, ?_, ?_, ?_, ?_, ?_, ?_⟩ <;> decide
theorem sp7_right : sp7.right = 0 := by decide +kernel
theorem sp7_quiet : quiet sp7 = false := by decide +kernel
theorem perr_nil : perr ([] : List UInt8) = some ([lay5, lay1], 2) := if_pos (by decide)
set_option maxRecDepth 100000 in
set_option maxHeartbeats 8000000 in
theorem shown7_any (w : World) : Calls Tryd.prog 5 #[] w fun e w' => e = .returned (.bool true) ∧ Ex (fun _ => False) w w' := by
  obtain ⟨i0, hi, hz0, hz1, hz2⟩ := info_parts Tryd.info5
  have HI := Lib.hid (And.intro hi (And.intro hz0 (And.intro hz1 hz2)))
  clear hi hz0 hz1 hz2
  go_enter Tryd.func5, Tryd.ntmps5
  go_upto_region 2 with fail
  have hx : Ex (fun _ => False) w (w.alloc (.cells #[.int .u8 8, .int .u8 0, .int .u32 1, .slice none 0 0] 25)) := (Ex.refl _ w).alloc _
  have hb : (w.alloc (.cells #[.int .u8 8, .int .u8 0, .int .u32 1, .slice none 0 0] 25)).heap[w.heap.size]? = some (.cells #[.int .u8 8, .int .u8 0, .int .u32 1, .slice none 0 0] 25) := heap_alloc_new w _
  obtain ⟨b1, hb1⟩ : ∃ b1, b1 = w.heap.size := ⟨_, rfl⟩
  have hb_b1 : w.heap.size ≤ b1 := by omega
  rw [← hb1] at hb
  try simp only [← hb1]
  generalize w.alloc (.cells #[.int .u8 8, .int .u8 0, .int .u32 1, .slice none 0 0] 25) = w1 at hx hb ⊢
  clear hb1
  have HX_w1 := Lib.hid hx
  clear hx
  have B_b1 := Lib.hid hb
  clear hb
  have cb10 := row_cell (k := 0) (v := .int .u8 8) B_b1.out rfl
  have cb11 := row_cell (k := 1) (v := .int .u8 0) B_b1.out rfl
  have cb12 := row_cell (k := 2) (v := .int .u32 1) B_b1.out rfl
  have cb13 := row_cell (k := 3) (v := .slice none 0 0) B_b1.out rfl
  go_wp2_with fail
  refine (mBytes_any (fun _ => False) sm7 none 0 w1 sm7_ok (RB.nil _ _) (by decide)).mono ?_
  rintro e w2 ⟨A2, c2, rfl, ho, hx⟩
  rw [sm7_is] at ho
  clear cb10 cb11 cb12 cb13
  have HX_w2 := Lib.hid hx
  clear hx
  have HO2 := Lib.hid ho
  clear ho
  go_wp2_with fail
  refine (mparse_yes _ (some A2) 8 c2 [8, 0, 247, 254, 0, 0, 0, 1] w2 HO2.out.rb (fun h => by cases h) (by decide) (by decide) sm7_su).mono ?_
  rintro e w3 ⟨A3, g3, rfl, _, hb3, hx⟩
  rw [sm7_pm] at hb3 ⊢
  have hv : msv sm7 (.slice A3 sm7.b.length sm7.b.length) = .agg #[.int .u8 8, .int .u8 0, .int .u32 1, .slice A3 0 0] := rfl
  rw [hv]
  clear hv hb3
  go_upto_region 4 with fail
  have HX_w3 := Lib.hid hx
  clear hx
  have hx : Ex (fun _ => False) w3 (w3.alloc (.cells #[.int .u8 8, .int .u8 0, .int .u32 1, .slice A3 0 0] 25)) := (Ex.refl _ w3).alloc _
  have hb : (w3.alloc (.cells #[.int .u8 8, .int .u8 0, .int .u32 1, .slice A3 0 0] 25)).heap[w3.heap.size]? = some (.cells #[.int .u8 8, .int .u8 0, .int .u32 1, .slice A3 0 0] 25) := heap_alloc_new w3 _
  obtain ⟨b3, hb3⟩ : ∃ b3, b3 = w3.heap.size := ⟨_, rfl⟩
  have hb_b3 : w3.heap.size ≤ b3 := by omega
  rw [← hb3] at hb
  try simp only [← hb3]
  generalize w3.alloc (.cells #[.int .u8 8, .int .u8 0, .int .u32 1, .slice A3 0 0] 25) = w4 at hx hb ⊢
  clear hb3
  have HX_w4 := Lib.hid hx
  clear hx
  have B_b3 := Lib.hid hb
  clear hb
  obtain ⟨hi, hz0, hz1, hz2⟩ := HI.out
  go_wp2_with (at_make; refine wpList_make_full _ rfl (.const (.int .i64 20)) (.const (.int .i64 20)) 23 rfl w4.heap.size 5 i0 (.int .u8 0) 1 Tryd.underlying23 hi hz0 hz1 .i64 .i64 (20 : Int) (20 : Int) 20 rfl rfl (by omega) (by omega) (by rw [hz2]; omega) (by simp only [maxLen]; omega) (Nat.le_refl _) ?_; intro w5 hown5 hg5)
  clear hi hz0 hz1 hz2
  have hob : OB w5 w4.heap.size (.slice (some ⟨w4.heap.size, 0, none⟩) 20 20) (List.replicate 20 0) := by
    refine ⟨by simp, ?_⟩
    rw [List.length_replicate]
    have e : (madeCells (Value.int .u8 0).cells (20 * 1)).toList = (List.replicate 20 (0 : UInt8)).map u8v := by
      rw [show (Value.int .u8 0).cells = #[Value.int .u8 0] from rfl, Nat.mul_one, toList_madeCells_one, List.map_replicate]
      rfl
    rw [← e]
    exact hown5
  have hx : Ex (fun _ => False) w4 w5 := (Ex.refl _ w4).grown hg5 (fun k h => by cases h)
  clear hown5 hg5
  have HX_w5 := Lib.hid hx
  clear hx
  have HO5 := Lib.hid hob
  clear hob
  refine (pbytes_yes _ sp7 (some ⟨w4.heap.size, 0, none⟩) 20 w5 sp7_ok HO5.out.rb (by decide) sp7_right).mono ?_
  rintro e w6 ⟨g6, c6, rfl, ho, hb_g6, hg6, hx⟩
  obtain ⟨hpe, hpp⟩ := pb_back sp7_ok sp7_right []
  rw [List.append_nil] at hpe hpp
  have hpl := pb_len sp7
  have hpl : (pb sp7).length = 40 := hpl
  obtain ⟨M, hM⟩ : ∃ M, M = pb sp7 := ⟨_, rfl⟩
  rw [← hM] at ho hpe hpp hpl ⊢
  have hq : quiet (ppk M) = false := by rw [hpp]; exact sp7_quiet
  have hem : ems M 3 4 1400 = ⟨3, 4, 1400, M.take 28⟩ := by unfold ems; rw [hpp]; rfl
  have hml : (M.take 28).length = 28 := by rw [List.length_take]; omega
  have HPE := Lib.hid hpe
  have HQ := Lib.hid hq
  have HEM := Lib.hid hem
  have HML := Lib.hid hml
  have HPL := Lib.hid hpl
  rw [hpl] at ho ⊢
  clear hM hpe hpp hq hem hml hpl
  have HX_w6 := Lib.hid hx
  clear hx
  have HO6 := Lib.hid ho
  clear ho
  have hc6 : 40 ≤ c6 := by obtain ⟨_, _, _, e, h, _⟩ := HO6.out.rb; injection e with _ _ e3; rw [e3]; rw [HPL.out] at h; exact h
  have hrb := HO6.out.rb
  go_wp2_with fail
  refine (merror_yes _ (some ⟨g6, 0, none⟩) 40 c6 M 3 4 1400 w6 hrb (fun h => by cases h) (by rw [HPL.out]; decide) HPE.out HQ.out).mono ?_
  rintro e w7 ⟨A7, c7, rfl, ho, hx⟩
  rw [HEM.out] at ho ⊢
  simp only [HML.out] at ho ⊢
  have hv : msv ⟨3, 4, 1400, M.take 28⟩ (.slice A7 28 c7) = .agg #[.int .u8 3, .int .u8 4, .int .u32 1400, .slice A7 28 c7] := rfl
  rw [hv]
  clear hv hrb
  have HX_w7 := Lib.hid hx
  clear hx
  have HO7 := Lib.hid ho
  clear ho
  go_upto_region 6 with fail
  have hx : Ex (fun _ => False) w7 (w7.alloc (.cells #[.int .u8 3, .int .u8 4, .int .u32 1400, .slice A7 28 c7] 25)) := (Ex.refl _ w7).alloc _
  have hb : (w7.alloc (.cells #[.int .u8 3, .int .u8 4, .int .u32 1400, .slice A7 28 c7] 25)).heap[w7.heap.size]? = some (.cells #[.int .u8 3, .int .u8 4, .int .u32 1400, .slice A7 28 c7] 25) := heap_alloc_new w7 _
  obtain ⟨b7, hb7⟩ : ∃ b7, b7 = w7.heap.size := ⟨_, rfl⟩
  have hb_b7 : w7.heap.size ≤ b7 := by omega
  rw [← hb7] at hb
  try simp only [← hb7]
  generalize w7.alloc (.cells #[.int .u8 3, .int .u8 4, .int .u32 1400, .slice A7 28 c7] 25) = w8 at hx hb ⊢
  clear hb7
  have HX_w8 := Lib.hid hx
  clear hx
  have B_b7 := Lib.hid hb
  clear hb
  have cb70 := row_cell (k := 0) (v := .int .u8 3) B_b7.out rfl
  have cb71 := row_cell (k := 1) (v := .int .u8 4) B_b7.out rfl
  have cb72 := row_cell (k := 2) (v := .int .u32 1400) B_b7.out rfl
  have cb73 := row_cell (k := 3) (v := .slice A7 28 c7) B_b7.out rfl
  go_wp2_with fail
  refine (mtu_any ⟨3, 4, 1400, []⟩ (by refine ⟨?_, ?_, ?_⟩ <;> decide) (.slice A7 28 c7) w8 ⟨_, _, _, rfl⟩).mono ?_
  rintro e w9 ⟨rfl, hx⟩
  have hv : (.tuple #[.int .i64 (⟨3, 4, 1400, []⟩ : Ms).mtu.1, .bool (⟨3, 4, 1400, []⟩ : Ms).mtu.2] : Value) = .tuple #[.int .i64 1400, .bool true] := rfl
  rw [hv]
  clear hv cb70 cb71 cb72 cb73
  have HX_w9 := Lib.hid hx
  clear hx
  go_wp2_with fail
  refine (merror_bad (fun _ => False) none 0 0 [] 3 4 0 w9 (RB.nil _ _) (fun _ => rfl) (by decide) [lay5, lay1] 2 perr_nil).mono ?_
  rintro e w10 ⟨v10, rfl, he, hx⟩
  obtain ⟨t10, y10, rfl⟩ := he.shape
  have hv : msv zms (.slice none 0 0) = .agg #[.int .u8 0, .int .u8 0, .int .u32 0, .slice none 0 0] := rfl
  rw [hv]
  clear hv
  have HX_w10 := Lib.hid hx
  clear hx
  have HE10 := Lib.hid he
  clear he
  go_upto_region 8 with fail
  have hx : Ex (fun _ => False) w10 (w10.alloc (.cells #[.int .u8 0, .int .u8 0, .int .u32 0, .slice none 0 0] 25)) := (Ex.refl _ w10).alloc _
  have hb : (w10.alloc (.cells #[.int .u8 0, .int .u8 0, .int .u32 0, .slice none 0 0] 25)).heap[w10.heap.size]? = some (.cells #[.int .u8 0, .int .u8 0, .int .u32 0, .slice none 0 0] 25) := heap_alloc_new w10 _
  obtain ⟨b11, hb11⟩ : ∃ b11, b11 = w10.heap.size := ⟨_, rfl⟩
  have hb_b11 : w10.heap.size ≤ b11 := by omega
  rw [← hb11] at hb
  try simp only [← hb11]
  generalize w10.alloc (.cells #[.int .u8 0, .int .u8 0, .int .u32 0, .slice none 0 0] 25) = w11 at hx hb ⊢
  clear hb11
  have HX_w11 := Lib.hid hx
  clear hx
  have B_b11 := Lib.hid hb
  clear hb
  replace HO2 := Lib.hid (OB.keep HO2.out ((((((((HX_w3.out.trans HX_w4.out).trans HX_w5.out).trans HX_w6.out).trans HX_w7.out).trans HX_w8.out).trans HX_w9.out).trans HX_w10.out).trans HX_w11.out) (fun _ _ _ _ => id))
  replace HO6 := Lib.hid (OB.keep HO6.out ((((HX_w7.out.trans HX_w8.out).trans HX_w9.out).trans HX_w10.out).trans HX_w11.out) (fun _ _ _ _ => id))
  replace HO7 := Lib.hid (OB.keep HO7.out (((HX_w8.out.trans HX_w9.out).trans HX_w10.out).trans HX_w11.out) (fun _ _ _ _ => id))
  replace HE10 := Lib.hid (EC.keep HX_w11.out (fun _ _ => id) HE10.out)
  replace B_b3 := Lib.hid ((((((((HX_w5.out.trans HX_w6.out).trans HX_w7.out).trans HX_w8.out).trans HX_w9.out).trans HX_w10.out).trans HX_w11.out).block b3 (row_lt B_b3.out) id).trans B_b3.out)
  have cb30 := row_cell (k := 0) (v := .int .u8 8) B_b3.out rfl
  have cb32 := row_cell (k := 2) (v := .int .u32 1) B_b3.out rfl
  have cb73 := row_cell (k := 3) (v := .slice A7 28 c7) ((((HX_w9.out.trans HX_w10.out).trans HX_w11.out).block b7 (row_lt B_b7.out) id).trans B_b7.out) rfl
  have hc28 : (28 : Int) ≤ (c6 : Int) := by omega
  have hs8 : bs [8, 0, 247, 254, 0, 0, 0, 1] = ⟨#[8, 0, 247, 254, 0, 0, 0, 1]⟩ := rfl
  have HS8 := Lib.hid hs8
  clear hs8
  have hsM : ((bs (M.take 28)).toList == (bs (M.take 28)).toList) = true := by simp
  have ht : bs (etx [lay7, lay5, lay1] 2) = ⟨#[105, 99, 109, 112, 58, 32, 105, 112, 118, 52, 58, 32, 111, 99, 116, 101, 116, 115, 58, 32, 101, 114, 114, 111, 114, 32, 50]⟩ := by decide
  have HT := Lib.hid ht
  have hrt := HO6.out.rb.take 28
  rw [HML.out] at hrt
  have HRT := Lib.hid hrt
  clear ht hrt
  have hS0 : Ex (fun _ => False) w11 w11.drew := (Ex.refl _ w11).drew
  refine wp_region_held_drew (S := fun W => Ex (fun _ => False) w11 W) (by kernel_rfl) hS0 (fun _ => ?_)
  refine wpAnyH_take (i := 0) (oi := { dst := some 41, op := Go.Op.move (Go.Operand.tmp 2), type := 23, pos := "law.go:28", after := #[], guard := none }) (v := ?v1) rfl (by kernel_rfl) (by kernel_rfl) (by kernel_rfl) (fun _ _ _ h => h) (Or.inl ⟨by rfl, ?hy1⟩) (by assumption) ?rest1
  case hy1 => (intro w hSw; (try dsimp only at hSw); have ecb30 := hSw.cell cb30 id; have ecb32 := hSw.cell cb32 id; have ecb73 := hSw.cell cb73 id; go_simp <;> with_reducible rfl)
  try simp only [Act.put, List.setIfInBounds_toArray, List.set_cons_zero, List.set_cons_succ]
  refine wpAnyH_take (i := 1) (oi := { dst := some 42, op := Go.Op.convert 23 9 (Go.Operand.tmp 41), type := 9, pos := "law.go:28", after := #[{ on := 0, ground := Go.Ground.data }], guard := none }) (v := ?v2) rfl (by kernel_rfl) (by kernel_rfl) (by kernel_rfl) (fun _ _ _ h => h) (Or.inl ⟨by rfl, ?hy2⟩) (by assumption) ?rest2
  case hy2 => (intro w hSw; (try dsimp only at hSw); have ecb30 := hSw.cell cb30 id; have ecb32 := hSw.cell cb32 id; have ecb73 := hSw.cell cb73 id; have eq := (OB.keep HO2.out hSw (fun _ _ _ _ => id)).rb.str (Pr := Tryd.prog) 23 9 5 Tryd.underlying23 Tryd.underlying5 Tryd.underlying9; rw [HS8.out] at eq; go_simp <;> with_reducible rfl)
  try simp only [Act.put, List.setIfInBounds_toArray, List.set_cons_zero, List.set_cons_succ]
  refine wpAnyH_take (i := 2) (oi := { dst := some 43, op := Go.Op.binOp Go.BinOp.eql 9 (Go.Operand.tmp 42) (Go.Operand.const (Go.Value.string { data := #[8, 0, 247, 254, 0, 0, 0, 1] })) 9, type := 4, pos := "law.go:28", after := #[{ on := 1, ground := Go.Ground.data }], guard := none }) (v := ?v3) rfl (by kernel_rfl) (by kernel_rfl) (by kernel_rfl) (fun _ _ _ h => h) (Or.inl ⟨by rfl, ?hy3⟩) (by assumption) ?rest3
  case hy3 => (intro w hSw; (try dsimp only at hSw); have ecb30 := hSw.cell cb30 id; have ecb32 := hSw.cell cb32 id; have ecb73 := hSw.cell cb73 id; go_simp <;> with_reducible rfl)
  try simp only [Act.put, List.setIfInBounds_toArray, List.set_cons_zero, List.set_cons_succ]
  refine wpAnyH_take (i := 3) (oi := { dst := some 44, op := Go.Op.move (Go.Operand.tmp 43), type := 4, pos := "law.go:28", after := #[{ on := 2, ground := Go.Ground.data }], guard := none }) (v := ?v4) rfl (by kernel_rfl) (by kernel_rfl) (by kernel_rfl) (fun _ _ _ h => h) (Or.inl ⟨by rfl, ?hy4⟩) (by assumption) ?rest4
  case hy4 => (intro w hSw; (try dsimp only at hSw); have ecb30 := hSw.cell cb30 id; have ecb32 := hSw.cell cb32 id; have ecb73 := hSw.cell cb73 id; go_simp <;> with_reducible rfl)
  try simp only [Act.put, List.setIfInBounds_toArray, List.set_cons_zero, List.set_cons_succ]
  refine wpAnyH_take (i := 4) (oi := { dst := some 45, op := Go.Op.move (Go.Operand.tmp 4), type := 29, pos := "law.go:28", after := #[{ on := 3, ground := Go.Ground.guard }], guard := some (3, true) }) (v := ?v5) rfl (by kernel_rfl) (by kernel_rfl) (by kernel_rfl) (fun _ _ _ h => h) (Or.inl ⟨by rfl, ?hy5⟩) (by assumption) ?rest5
  case hy5 => (intro w hSw; (try dsimp only at hSw); have ecb30 := hSw.cell cb30 id; have ecb32 := hSw.cell cb32 id; have ecb73 := hSw.cell cb73 id; go_simp <;> with_reducible rfl)
  try simp only [Act.put, List.setIfInBounds_toArray, List.set_cons_zero, List.set_cons_succ]
  refine wpAnyH_take (i := 5) (oi := { dst := some 46, op := Go.Op.binOp Go.BinOp.eql 29 (Go.Operand.tmp 45) (Go.Operand.const Go.Value.nilIface) 29, type := 4, pos := "law.go:28", after := #[{ on := 4, ground := Go.Ground.data }, { on := 3, ground := Go.Ground.guard }], guard := some (3, true) }) (v := ?v6) rfl (by kernel_rfl) (by kernel_rfl) (by kernel_rfl) (fun _ _ _ h => h) (Or.inl ⟨by rfl, ?hy6⟩) (by assumption) ?rest6
  case hy6 => (intro w hSw; (try dsimp only at hSw); have ecb30 := hSw.cell cb30 id; have ecb32 := hSw.cell cb32 id; have ecb73 := hSw.cell cb73 id; go_simp <;> with_reducible rfl)
  try simp only [Act.put, List.setIfInBounds_toArray, List.set_cons_zero, List.set_cons_succ]
  refine wpAnyH_take (i := 6) (oi := { dst := some 47, op := Go.Op.pick (Go.Operand.tmp 44) (Go.Operand.tmp 46) (Go.Operand.const (Go.Value.bool false)), type := 4, pos := "law.go:28", after := #[{ on := 3, ground := Go.Ground.data }, { on := 5, ground := Go.Ground.data }], guard := none }) (v := ?v7) rfl (by kernel_rfl) (by kernel_rfl) (by kernel_rfl) (fun _ _ _ h => h) (Or.inl ⟨by rfl, ?hy7⟩) (by assumption) ?rest7
  case hy7 => (intro w hSw; (try dsimp only at hSw); have ecb30 := hSw.cell cb30 id; have ecb32 := hSw.cell cb32 id; have ecb73 := hSw.cell cb73 id; go_simp <;> with_reducible rfl)
  try simp only [Act.put, List.setIfInBounds_toArray, List.set_cons_zero, List.set_cons_succ]
  refine wpAnyH_take (i := 7) (oi := { dst := some 48, op := Go.Op.move (Go.Operand.tmp 47), type := 4, pos := "law.go:28", after := #[{ on := 6, ground := Go.Ground.data }, { on := 3, ground := Go.Ground.chain }], guard := none }) (v := ?v8) rfl (by kernel_rfl) (by kernel_rfl) (by kernel_rfl) (fun _ _ _ h => h) (Or.inl ⟨by rfl, ?hy8⟩) (by assumption) ?rest8
  case hy8 => (intro w hSw; (try dsimp only at hSw); have ecb30 := hSw.cell cb30 id; have ecb32 := hSw.cell cb32 id; have ecb73 := hSw.cell cb73 id; go_simp <;> with_reducible rfl)
  try simp only [Act.put, List.setIfInBounds_toArray, List.set_cons_zero, List.set_cons_succ]
  refine wpAnyH_take (i := 8) (oi := { dst := some 49, op := Go.Op.fieldAddr 25 (Go.Operand.tmp 3) 2, type := 0, pos := "law.go:28", after := #[{ on := 7, ground := Go.Ground.guard }], guard := some (7, true) }) (v := ?v9) rfl (by kernel_rfl) (by kernel_rfl) (by kernel_rfl) (fun _ _ _ h => h) (Or.inl ⟨by rfl, ?hy9⟩) (by assumption) ?rest9
  case hy9 => (intro w hSw; (try dsimp only at hSw); have ecb30 := hSw.cell cb30 id; have ecb32 := hSw.cell cb32 id; have ecb73 := hSw.cell cb73 id; go_simp <;> with_reducible rfl)
  try simp only [Act.put, List.setIfInBounds_toArray, List.set_cons_zero, List.set_cons_succ]
  refine wpAnyH_take (i := 9) (oi := { dst := some 50, op := Go.Op.load 22 (Go.Operand.tmp 49), type := 22, pos := "law.go:28", after := #[{ on := 8, ground := Go.Ground.data }, { on := 7, ground := Go.Ground.guard }], guard := some (7, true) }) (v := ?v10) rfl (by kernel_rfl) (by kernel_rfl) (by kernel_rfl) (fun _ _ _ h => h) (Or.inl ⟨by rfl, ?hy10⟩) (by assumption) ?rest10
  case hy10 => (intro w hSw; (try dsimp only at hSw); have ecb30 := hSw.cell cb30 id; have ecb32 := hSw.cell cb32 id; have ecb73 := hSw.cell cb73 id; go_simp <;> with_reducible rfl)
  try simp only [Act.put, List.setIfInBounds_toArray, List.set_cons_zero, List.set_cons_succ]
  refine wpAnyH_take (i := 10) (oi := { dst := some 51, op := Go.Op.binOp Go.BinOp.eql 22 (Go.Operand.tmp 50) (Go.Operand.const (Go.Value.int Go.IntKind.u32 1)) 22, type := 4, pos := "law.go:28", after := #[{ on := 9, ground := Go.Ground.data }, { on := 7, ground := Go.Ground.guard }], guard := some (7, true) }) (v := ?v11) rfl (by kernel_rfl) (by kernel_rfl) (by kernel_rfl) (fun _ _ _ h => h) (Or.inl ⟨by rfl, ?hy11⟩) (by assumption) ?rest11
  case hy11 => (intro w hSw; (try dsimp only at hSw); have ecb30 := hSw.cell cb30 id; have ecb32 := hSw.cell cb32 id; have ecb73 := hSw.cell cb73 id; go_simp <;> with_reducible rfl)
  try simp only [Act.put, List.setIfInBounds_toArray, List.set_cons_zero, List.set_cons_succ]
  refine wpAnyH_take (i := 11) (oi := { dst := some 52, op := Go.Op.pick (Go.Operand.tmp 48) (Go.Operand.tmp 51) (Go.Operand.const (Go.Value.bool false)), type := 4, pos := "law.go:28", after := #[{ on := 7, ground := Go.Ground.data }, { on := 10, ground := Go.Ground.data }], guard := none }) (v := ?v12) rfl (by kernel_rfl) (by kernel_rfl) (by kernel_rfl) (fun _ _ _ h => h) (Or.inl ⟨by rfl, ?hy12⟩) (by assumption) ?rest12
  case hy12 => (intro w hSw; (try dsimp only at hSw); have ecb30 := hSw.cell cb30 id; have ecb32 := hSw.cell cb32 id; have ecb73 := hSw.cell cb73 id; go_simp <;> with_reducible rfl)
  try simp only [Act.put, List.setIfInBounds_toArray, List.set_cons_zero, List.set_cons_succ]
  refine wpAnyH_take (i := 12) (oi := { dst := some 53, op := Go.Op.move (Go.Operand.tmp 52), type := 4, pos := "law.go:28", after := #[{ on := 11, ground := Go.Ground.data }, { on := 7, ground := Go.Ground.chain }], guard := none }) (v := ?v13) rfl (by kernel_rfl) (by kernel_rfl) (by kernel_rfl) (fun _ _ _ h => h) (Or.inl ⟨by rfl, ?hy13⟩) (by assumption) ?rest13
  case hy13 => (intro w hSw; (try dsimp only at hSw); have ecb30 := hSw.cell cb30 id; have ecb32 := hSw.cell cb32 id; have ecb73 := hSw.cell cb73 id; go_simp <;> with_reducible rfl)
  try simp only [Act.put, List.setIfInBounds_toArray, List.set_cons_zero, List.set_cons_succ]
  refine wpAnyH_take (i := 13) (oi := { dst := some 54, op := Go.Op.fieldAddr 25 (Go.Operand.tmp 3) 0, type := 0, pos := "law.go:28", after := #[{ on := 12, ground := Go.Ground.guard }], guard := some (12, true) }) (v := ?v14) rfl (by kernel_rfl) (by kernel_rfl) (by kernel_rfl) (fun _ _ _ h => h) (Or.inl ⟨by rfl, ?hy14⟩) (by assumption) ?rest14
  case hy14 => (intro w hSw; (try dsimp only at hSw); have ecb30 := hSw.cell cb30 id; have ecb32 := hSw.cell cb32 id; have ecb73 := hSw.cell cb73 id; go_simp <;> with_reducible rfl)
  try simp only [Act.put, List.setIfInBounds_toArray, List.set_cons_zero, List.set_cons_succ]
  refine wpAnyH_take (i := 14) (oi := { dst := some 55, op := Go.Op.load 5 (Go.Operand.tmp 54), type := 5, pos := "law.go:28", after := #[{ on := 13, ground := Go.Ground.data }, { on := 12, ground := Go.Ground.guard }], guard := some (12, true) }) (v := ?v15) rfl (by kernel_rfl) (by kernel_rfl) (by kernel_rfl) (fun _ _ _ h => h) (Or.inl ⟨by rfl, ?hy15⟩) (by assumption) ?rest15
  case hy15 => (intro w hSw; (try dsimp only at hSw); have ecb30 := hSw.cell cb30 id; have ecb32 := hSw.cell cb32 id; have ecb73 := hSw.cell cb73 id; go_simp <;> with_reducible rfl)
  try simp only [Act.put, List.setIfInBounds_toArray, List.set_cons_zero, List.set_cons_succ]
  refine wpAnyH_take (i := 15) (oi := { dst := some 56, op := Go.Op.binOp Go.BinOp.eql 5 (Go.Operand.tmp 55) (Go.Operand.const (Go.Value.int Go.IntKind.u8 8)) 5, type := 4, pos := "law.go:28", after := #[{ on := 14, ground := Go.Ground.data }, { on := 12, ground := Go.Ground.guard }], guard := some (12, true) }) (v := ?v16) rfl (by kernel_rfl) (by kernel_rfl) (by kernel_rfl) (fun _ _ _ h => h) (Or.inl ⟨by rfl, ?hy16⟩) (by assumption) ?rest16
  case hy16 => (intro w hSw; (try dsimp only at hSw); have ecb30 := hSw.cell cb30 id; have ecb32 := hSw.cell cb32 id; have ecb73 := hSw.cell cb73 id; go_simp <;> with_reducible rfl)
  try simp only [Act.put, List.setIfInBounds_toArray, List.set_cons_zero, List.set_cons_succ]
  refine wpAnyH_take (i := 16) (oi := { dst := some 57, op := Go.Op.pick (Go.Operand.tmp 53) (Go.Operand.tmp 56) (Go.Operand.const (Go.Value.bool false)), type := 4, pos := "law.go:28", after := #[{ on := 12, ground := Go.Ground.data }, { on := 15, ground := Go.Ground.data }], guard := none }) (v := ?v17) rfl (by kernel_rfl) (by kernel_rfl) (by kernel_rfl) (fun _ _ _ h => h) (Or.inl ⟨by rfl, ?hy17⟩) (by assumption) ?rest17
  case hy17 => (intro w hSw; (try dsimp only at hSw); have ecb30 := hSw.cell cb30 id; have ecb32 := hSw.cell cb32 id; have ecb73 := hSw.cell cb73 id; go_simp <;> with_reducible rfl)
  try simp only [Act.put, List.setIfInBounds_toArray, List.set_cons_zero, List.set_cons_succ]
  refine wpAnyH_take (i := 17) (oi := { dst := some 58, op := Go.Op.move (Go.Operand.tmp 57), type := 4, pos := "law.go:28", after := #[{ on := 16, ground := Go.Ground.data }, { on := 12, ground := Go.Ground.chain }], guard := none }) (v := ?v18) rfl (by kernel_rfl) (by kernel_rfl) (by kernel_rfl) (fun _ _ _ h => h) (Or.inl ⟨by rfl, ?hy18⟩) (by assumption) ?rest18
  case hy18 => (intro w hSw; (try dsimp only at hSw); have ecb30 := hSw.cell cb30 id; have ecb32 := hSw.cell cb32 id; have ecb73 := hSw.cell cb73 id; go_simp <;> with_reducible rfl)
  try simp only [Act.put, List.setIfInBounds_toArray, List.set_cons_zero, List.set_cons_succ]
  refine wpAnyH_take (i := 18) (oi := { dst := some 59, op := Go.Op.move (Go.Operand.tmp 6), type := 29, pos := "law.go:28", after := #[{ on := 17, ground := Go.Ground.guard }], guard := some (17, true) }) (v := ?v19) rfl (by kernel_rfl) (by kernel_rfl) (by kernel_rfl) (fun _ _ _ h => h) (Or.inl ⟨by rfl, ?hy19⟩) (by assumption) ?rest19
  case hy19 => (intro w hSw; (try dsimp only at hSw); have ecb30 := hSw.cell cb30 id; have ecb32 := hSw.cell cb32 id; have ecb73 := hSw.cell cb73 id; go_simp <;> with_reducible rfl)
  try simp only [Act.put, List.setIfInBounds_toArray, List.set_cons_zero, List.set_cons_succ]
  refine wpAnyH_take (i := 19) (oi := { dst := some 60, op := Go.Op.binOp Go.BinOp.eql 29 (Go.Operand.tmp 59) (Go.Operand.const Go.Value.nilIface) 29, type := 4, pos := "law.go:28", after := #[{ on := 18, ground := Go.Ground.data }, { on := 17, ground := Go.Ground.guard }], guard := some (17, true) }) (v := ?v20) rfl (by kernel_rfl) (by kernel_rfl) (by kernel_rfl) (fun _ _ _ h => h) (Or.inl ⟨by rfl, ?hy20⟩) (by assumption) ?rest20
  case hy20 => (intro w hSw; (try dsimp only at hSw); have ecb30 := hSw.cell cb30 id; have ecb32 := hSw.cell cb32 id; have ecb73 := hSw.cell cb73 id; go_simp <;> with_reducible rfl)
  try simp only [Act.put, List.setIfInBounds_toArray, List.set_cons_zero, List.set_cons_succ]
  refine wpAnyH_take (i := 20) (oi := { dst := some 61, op := Go.Op.pick (Go.Operand.tmp 58) (Go.Operand.tmp 60) (Go.Operand.const (Go.Value.bool false)), type := 4, pos := "law.go:28", after := #[{ on := 17, ground := Go.Ground.data }, { on := 19, ground := Go.Ground.data }], guard := none }) (v := ?v21) rfl (by kernel_rfl) (by kernel_rfl) (by kernel_rfl) (fun _ _ _ h => h) (Or.inl ⟨by rfl, ?hy21⟩) (by assumption) ?rest21
  case hy21 => (intro w hSw; (try dsimp only at hSw); have ecb30 := hSw.cell cb30 id; have ecb32 := hSw.cell cb32 id; have ecb73 := hSw.cell cb73 id; go_simp <;> with_reducible rfl)
  try simp only [Act.put, List.setIfInBounds_toArray, List.set_cons_zero, List.set_cons_succ]
  refine wpAnyH_take (i := 21) (oi := { dst := some 62, op := Go.Op.move (Go.Operand.tmp 61), type := 4, pos := "law.go:28", after := #[{ on := 20, ground := Go.Ground.data }, { on := 17, ground := Go.Ground.chain }], guard := none }) (v := ?v22) rfl (by kernel_rfl) (by kernel_rfl) (by kernel_rfl) (fun _ _ _ h => h) (Or.inl ⟨by rfl, ?hy22⟩) (by assumption) ?rest22
  case hy22 => (intro w hSw; (try dsimp only at hSw); have ecb30 := hSw.cell cb30 id; have ecb32 := hSw.cell cb32 id; have ecb73 := hSw.cell cb73 id; go_simp <;> with_reducible rfl)
  try simp only [Act.put, List.setIfInBounds_toArray, List.set_cons_zero, List.set_cons_succ]
  refine wpAnyH_take (i := 22) (oi := { dst := some 63, op := Go.Op.move (Go.Operand.tmp 8), type := 29, pos := "law.go:28", after := #[{ on := 21, ground := Go.Ground.guard }], guard := some (21, true) }) (v := ?v23) rfl (by kernel_rfl) (by kernel_rfl) (by kernel_rfl) (fun _ _ _ h => h) (Or.inl ⟨by rfl, ?hy23⟩) (by assumption) ?rest23
  case hy23 => (intro w hSw; (try dsimp only at hSw); have ecb30 := hSw.cell cb30 id; have ecb32 := hSw.cell cb32 id; have ecb73 := hSw.cell cb73 id; go_simp <;> with_reducible rfl)
  try simp only [Act.put, List.setIfInBounds_toArray, List.set_cons_zero, List.set_cons_succ]
  refine wpAnyH_take (i := 23) (oi := { dst := some 64, op := Go.Op.binOp Go.BinOp.eql 29 (Go.Operand.tmp 63) (Go.Operand.const Go.Value.nilIface) 29, type := 4, pos := "law.go:28", after := #[{ on := 22, ground := Go.Ground.data }, { on := 21, ground := Go.Ground.guard }], guard := some (21, true) }) (v := ?v24) rfl (by kernel_rfl) (by kernel_rfl) (by kernel_rfl) (fun _ _ _ h => h) (Or.inl ⟨by rfl, ?hy24⟩) (by assumption) ?rest24
  case hy24 => (intro w hSw; (try dsimp only at hSw); have ecb30 := hSw.cell cb30 id; have ecb32 := hSw.cell cb32 id; have ecb73 := hSw.cell cb73 id; go_simp <;> with_reducible rfl)
  try simp only [Act.put, List.setIfInBounds_toArray, List.set_cons_zero, List.set_cons_succ]
  refine wpAnyH_take (i := 24) (oi := { dst := some 65, op := Go.Op.pick (Go.Operand.tmp 62) (Go.Operand.tmp 64) (Go.Operand.const (Go.Value.bool false)), type := 4, pos := "law.go:28", after := #[{ on := 21, ground := Go.Ground.data }, { on := 23, ground := Go.Ground.data }], guard := none }) (v := ?v25) rfl (by kernel_rfl) (by kernel_rfl) (by kernel_rfl) (fun _ _ _ h => h) (Or.inl ⟨by rfl, ?hy25⟩) (by assumption) ?rest25
  case hy25 => (intro w hSw; (try dsimp only at hSw); have ecb30 := hSw.cell cb30 id; have ecb32 := hSw.cell cb32 id; have ecb73 := hSw.cell cb73 id; go_simp <;> with_reducible rfl)
  try simp only [Act.put, List.setIfInBounds_toArray, List.set_cons_zero, List.set_cons_succ]
  refine wpAnyH_take (i := 25) (oi := { dst := some 66, op := Go.Op.move (Go.Operand.tmp 65), type := 4, pos := "law.go:28", after := #[{ on := 24, ground := Go.Ground.data }, { on := 21, ground := Go.Ground.chain }], guard := none }) (v := ?v26) rfl (by kernel_rfl) (by kernel_rfl) (by kernel_rfl) (fun _ _ _ h => h) (Or.inl ⟨by rfl, ?hy26⟩) (by assumption) ?rest26
  case hy26 => (intro w hSw; (try dsimp only at hSw); have ecb30 := hSw.cell cb30 id; have ecb32 := hSw.cell cb32 id; have ecb73 := hSw.cell cb73 id; go_simp <;> with_reducible rfl)
  try simp only [Act.put, List.setIfInBounds_toArray, List.set_cons_zero, List.set_cons_succ]
  refine wpAnyH_take (i := 26) (oi := { dst := some 67, op := Go.Op.move (Go.Operand.tmp 5), type := 23, pos := "law.go:28", after := #[{ on := 25, ground := Go.Ground.guard }], guard := some (25, true) }) (v := ?v27) rfl (by kernel_rfl) (by kernel_rfl) (by kernel_rfl) (fun _ _ _ h => h) (Or.inl ⟨by rfl, ?hy27⟩) (by assumption) ?rest27
  case hy27 => (intro w hSw; (try dsimp only at hSw); have ecb30 := hSw.cell cb30 id; have ecb32 := hSw.cell cb32 id; have ecb73 := hSw.cell cb73 id; go_simp <;> with_reducible rfl)
  try simp only [Act.put, List.setIfInBounds_toArray, List.set_cons_zero, List.set_cons_succ]
  refine wpAnyH_take (i := 27) (oi := { dst := some 68, op := Go.Op.call { callee := Go.Callee.builtin Go.Builtin.len, args := #[Go.Operand.tmp 67], argTypes := #[23] }, type := 3, pos := "law.go:28", after := #[{ on := 26, ground := Go.Ground.data }, { on := 25, ground := Go.Ground.guard }], guard := some (25, true) }) (v := ?v28) rfl (by kernel_rfl) (by kernel_rfl) (by kernel_rfl) (fun _ _ _ h => h) (Or.inl ⟨by rfl, ?hy28⟩) (by assumption) ?rest28
  case hy28 => (intro w hSw; (try dsimp only at hSw); have ecb30 := hSw.cell cb30 id; have ecb32 := hSw.cell cb32 id; have ecb73 := hSw.cell cb73 id; go_simp <;> with_reducible rfl)
  try simp only [Act.put, List.setIfInBounds_toArray, List.set_cons_zero, List.set_cons_succ]
  refine wpAnyH_take (i := 28) (oi := { dst := some 69, op := Go.Op.binOp Go.BinOp.eql 3 (Go.Operand.tmp 68) (Go.Operand.const (Go.Value.int Go.IntKind.i64 40)) 3, type := 4, pos := "law.go:28", after := #[{ on := 27, ground := Go.Ground.data }, { on := 25, ground := Go.Ground.guard }], guard := some (25, true) }) (v := ?v29) rfl (by kernel_rfl) (by kernel_rfl) (by kernel_rfl) (fun _ _ _ h => h) (Or.inl ⟨by rfl, ?hy29⟩) (by assumption) ?rest29
  case hy29 => (intro w hSw; (try dsimp only at hSw); have ecb30 := hSw.cell cb30 id; have ecb32 := hSw.cell cb32 id; have ecb73 := hSw.cell cb73 id; go_simp <;> with_reducible rfl)
  try simp only [Act.put, List.setIfInBounds_toArray, List.set_cons_zero, List.set_cons_succ]
  refine wpAnyH_take (i := 29) (oi := { dst := some 70, op := Go.Op.pick (Go.Operand.tmp 66) (Go.Operand.tmp 69) (Go.Operand.const (Go.Value.bool false)), type := 4, pos := "law.go:28", after := #[{ on := 25, ground := Go.Ground.data }, { on := 28, ground := Go.Ground.data }], guard := none }) (v := ?v30) rfl (by kernel_rfl) (by kernel_rfl) (by kernel_rfl) (fun _ _ _ h => h) (Or.inl ⟨by rfl, ?hy30⟩) (by assumption) ?rest30
  case hy30 => (intro w hSw; (try dsimp only at hSw); have ecb30 := hSw.cell cb30 id; have ecb32 := hSw.cell cb32 id; have ecb73 := hSw.cell cb73 id; go_simp <;> with_reducible rfl)
  try simp only [Act.put, List.setIfInBounds_toArray, List.set_cons_zero, List.set_cons_succ]
  refine wpAnyH_take (i := 30) (oi := { dst := some 71, op := Go.Op.move (Go.Operand.tmp 70), type := 4, pos := "law.go:28", after := #[{ on := 29, ground := Go.Ground.data }, { on := 25, ground := Go.Ground.chain }], guard := none }) (v := ?v31) rfl (by kernel_rfl) (by kernel_rfl) (by kernel_rfl) (fun _ _ _ h => h) (Or.inl ⟨by rfl, ?hy31⟩) (by assumption) ?rest31
  case hy31 => (intro w hSw; (try dsimp only at hSw); have ecb30 := hSw.cell cb30 id; have ecb32 := hSw.cell cb32 id; have ecb73 := hSw.cell cb73 id; go_simp <;> with_reducible rfl)
  try simp only [Act.put, List.setIfInBounds_toArray, List.set_cons_zero, List.set_cons_succ]
  refine wpAnyH_take (i := 31) (oi := { dst := some 72, op := Go.Op.fieldAddr 25 (Go.Operand.tmp 7) 3, type := 0, pos := "law.go:28", after := #[{ on := 30, ground := Go.Ground.guard }], guard := some (30, true) }) (v := ?v32) rfl (by kernel_rfl) (by kernel_rfl) (by kernel_rfl) (fun _ _ _ h => h) (Or.inl ⟨by rfl, ?hy32⟩) (by assumption) ?rest32
  case hy32 => (intro w hSw; (try dsimp only at hSw); have ecb30 := hSw.cell cb30 id; have ecb32 := hSw.cell cb32 id; have ecb73 := hSw.cell cb73 id; go_simp <;> with_reducible rfl)
  try simp only [Act.put, List.setIfInBounds_toArray, List.set_cons_zero, List.set_cons_succ]
  refine wpAnyH_take (i := 32) (oi := { dst := some 73, op := Go.Op.load 23 (Go.Operand.tmp 72), type := 23, pos := "law.go:28", after := #[{ on := 31, ground := Go.Ground.data }, { on := 30, ground := Go.Ground.guard }], guard := some (30, true) }) (v := ?v33) rfl (by kernel_rfl) (by kernel_rfl) (by kernel_rfl) (fun _ _ _ h => h) (Or.inl ⟨by rfl, ?hy33⟩) (by assumption) ?rest33
  case hy33 => (intro w hSw; (try dsimp only at hSw); have ecb30 := hSw.cell cb30 id; have ecb32 := hSw.cell cb32 id; have ecb73 := hSw.cell cb73 id; go_simp <;> with_reducible rfl)
  try simp only [Act.put, List.setIfInBounds_toArray, List.set_cons_zero, List.set_cons_succ]
  refine wpAnyH_take (i := 33) (oi := { dst := some 74, op := Go.Op.convert 23 9 (Go.Operand.tmp 73), type := 9, pos := "law.go:28", after := #[{ on := 32, ground := Go.Ground.data }, { on := 30, ground := Go.Ground.guard }], guard := some (30, true) }) (v := ?v34) rfl (by kernel_rfl) (by kernel_rfl) (by kernel_rfl) (fun _ _ _ h => h) (Or.inl ⟨by rfl, ?hy34⟩) (by assumption) ?rest34
  case hy34 => (intro w hSw; (try dsimp only at hSw); have ecb30 := hSw.cell cb30 id; have ecb32 := hSw.cell cb32 id; have ecb73 := hSw.cell cb73 id; have eq := (OB.keep HO7.out hSw (fun _ _ _ _ => id)).rb.str (Pr := Tryd.prog) 23 9 5 Tryd.underlying23 Tryd.underlying5 Tryd.underlying9; go_simp <;> with_reducible rfl)
  try simp only [Act.put, List.setIfInBounds_toArray, List.set_cons_zero, List.set_cons_succ]
  refine wpAnyH_take (i := 34) (oi := { dst := some 75, op := Go.Op.move (Go.Operand.tmp 5), type := 23, pos := "law.go:28", after := #[{ on := 30, ground := Go.Ground.guard }], guard := some (30, true) }) (v := ?v35) rfl (by kernel_rfl) (by kernel_rfl) (by kernel_rfl) (fun _ _ _ h => h) (Or.inl ⟨by rfl, ?hy35⟩) (by assumption) ?rest35
  case hy35 => (intro w hSw; (try dsimp only at hSw); have ecb30 := hSw.cell cb30 id; have ecb32 := hSw.cell cb32 id; have ecb73 := hSw.cell cb73 id; go_simp <;> with_reducible rfl)
  try simp only [Act.put, List.setIfInBounds_toArray, List.set_cons_zero, List.set_cons_succ]
  refine wpAnyH_take (i := 35) (oi := { dst := some 76, op := Go.Op.slice 23 (Go.Operand.tmp 75) none (some (Go.Operand.const (Go.Value.int Go.IntKind.i64 28))) none, type := 23, pos := "law.go:28", after := #[{ on := 34, ground := Go.Ground.data }, { on := 30, ground := Go.Ground.guard }], guard := some (30, true) }) (v := ?v36) rfl (by kernel_rfl) (by kernel_rfl) (by kernel_rfl) (fun _ _ _ h => h) (Or.inl ⟨by rfl, ?hy36⟩) (by assumption) ?rest36
  case hy36 => (intro w hSw; (try dsimp only at hSw); have ecb30 := hSw.cell cb30 id; have ecb32 := hSw.cell cb32 id; have ecb73 := hSw.cell cb73 id; go_simp <;> with_reducible rfl)
  try simp only [Act.put, List.setIfInBounds_toArray, List.set_cons_zero, List.set_cons_succ]
  refine wpAnyH_take (i := 36) (oi := { dst := some 77, op := Go.Op.convert 23 9 (Go.Operand.tmp 76), type := 9, pos := "law.go:28", after := #[{ on := 35, ground := Go.Ground.data }, { on := 30, ground := Go.Ground.guard }], guard := some (30, true) }) (v := ?v37) rfl (by kernel_rfl) (by kernel_rfl) (by kernel_rfl) (fun _ _ _ h => h) (Or.inl ⟨by rfl, ?hy37⟩) (by assumption) ?rest37
  case hy37 => (intro w hSw; (try dsimp only at hSw); have ecb30 := hSw.cell cb30 id; have ecb32 := hSw.cell cb32 id; have ecb73 := hSw.cell cb73 id; have eq := (RB.keep HRT.out hSw (fun _ _ _ => id)).str (Pr := Tryd.prog) 23 9 5 Tryd.underlying23 Tryd.underlying5 Tryd.underlying9; go_simp <;> with_reducible rfl)
  try simp only [Act.put, List.setIfInBounds_toArray, List.set_cons_zero, List.set_cons_succ]
  refine wpAnyH_take (i := 37) (oi := { dst := some 78, op := Go.Op.binOp Go.BinOp.eql 9 (Go.Operand.tmp 74) (Go.Operand.tmp 77) 9, type := 4, pos := "law.go:28", after := #[{ on := 33, ground := Go.Ground.data }, { on := 36, ground := Go.Ground.data }, { on := 30, ground := Go.Ground.guard }], guard := some (30, true) }) (v := ?v38) rfl (by kernel_rfl) (by kernel_rfl) (by kernel_rfl) (fun _ _ _ h => h) (Or.inl ⟨by rfl, ?hy38⟩) (by assumption) ?rest38
  case hy38 => (intro w hSw; (try dsimp only at hSw); have ecb30 := hSw.cell cb30 id; have ecb32 := hSw.cell cb32 id; have ecb73 := hSw.cell cb73 id; go_simp <;> with_reducible rfl)
  try simp only [Act.put, List.setIfInBounds_toArray, List.set_cons_zero, List.set_cons_succ]
  refine wpAnyH_take (i := 38) (oi := { dst := some 79, op := Go.Op.pick (Go.Operand.tmp 71) (Go.Operand.tmp 78) (Go.Operand.const (Go.Value.bool false)), type := 4, pos := "law.go:28", after := #[{ on := 30, ground := Go.Ground.data }, { on := 37, ground := Go.Ground.data }], guard := none }) (v := ?v39) rfl (by kernel_rfl) (by kernel_rfl) (by kernel_rfl) (fun _ _ _ h => h) (Or.inl ⟨by rfl, ?hy39⟩) (by assumption) ?rest39
  case hy39 => (intro w hSw; (try dsimp only at hSw); have ecb30 := hSw.cell cb30 id; have ecb32 := hSw.cell cb32 id; have ecb73 := hSw.cell cb73 id; go_simp <;> with_reducible rfl)
  try simp only [Act.put, List.setIfInBounds_toArray, List.set_cons_zero, List.set_cons_succ]
  refine wpAnyH_take (i := 39) (oi := { dst := some 80, op := Go.Op.move (Go.Operand.tmp 79), type := 4, pos := "law.go:28", after := #[{ on := 38, ground := Go.Ground.data }, { on := 30, ground := Go.Ground.chain }], guard := none }) (v := ?v40) rfl (by kernel_rfl) (by kernel_rfl) (by kernel_rfl) (fun _ _ _ h => h) (Or.inl ⟨by rfl, ?hy40⟩) (by assumption) ?rest40
  case hy40 => (intro w hSw; (try dsimp only at hSw); have ecb30 := hSw.cell cb30 id; have ecb32 := hSw.cell cb32 id; have ecb73 := hSw.cell cb73 id; go_simp <;> with_reducible rfl)
  try simp only [Act.put, List.setIfInBounds_toArray, List.set_cons_zero, List.set_cons_succ]
  refine wpAnyH_take (i := 40) (oi := { dst := some 81, op := Go.Op.move (Go.Operand.tmp 9), type := 3, pos := "law.go:28", after := #[{ on := 39, ground := Go.Ground.guard }], guard := some (39, true) }) (v := ?v41) rfl (by kernel_rfl) (by kernel_rfl) (by kernel_rfl) (fun _ _ _ h => h) (Or.inl ⟨by rfl, ?hy41⟩) (by assumption) ?rest41
  case hy41 => (intro w hSw; (try dsimp only at hSw); have ecb30 := hSw.cell cb30 id; have ecb32 := hSw.cell cb32 id; have ecb73 := hSw.cell cb73 id; go_simp <;> with_reducible rfl)
  try simp only [Act.put, List.setIfInBounds_toArray, List.set_cons_zero, List.set_cons_succ]
  refine wpAnyH_take (i := 41) (oi := { dst := some 82, op := Go.Op.binOp Go.BinOp.eql 3 (Go.Operand.tmp 81) (Go.Operand.const (Go.Value.int Go.IntKind.i64 1400)) 3, type := 4, pos := "law.go:28", after := #[{ on := 40, ground := Go.Ground.data }, { on := 39, ground := Go.Ground.guard }], guard := some (39, true) }) (v := ?v42) rfl (by kernel_rfl) (by kernel_rfl) (by kernel_rfl) (fun _ _ _ h => h) (Or.inl ⟨by rfl, ?hy42⟩) (by assumption) ?rest42
  case hy42 => (intro w hSw; (try dsimp only at hSw); have ecb30 := hSw.cell cb30 id; have ecb32 := hSw.cell cb32 id; have ecb73 := hSw.cell cb73 id; go_simp <;> with_reducible rfl)
  try simp only [Act.put, List.setIfInBounds_toArray, List.set_cons_zero, List.set_cons_succ]
  refine wpAnyH_take (i := 42) (oi := { dst := some 83, op := Go.Op.pick (Go.Operand.tmp 80) (Go.Operand.tmp 82) (Go.Operand.const (Go.Value.bool false)), type := 4, pos := "law.go:28", after := #[{ on := 39, ground := Go.Ground.data }, { on := 41, ground := Go.Ground.data }], guard := none }) (v := ?v43) rfl (by kernel_rfl) (by kernel_rfl) (by kernel_rfl) (fun _ _ _ h => h) (Or.inl ⟨by rfl, ?hy43⟩) (by assumption) ?rest43
  case hy43 => (intro w hSw; (try dsimp only at hSw); have ecb30 := hSw.cell cb30 id; have ecb32 := hSw.cell cb32 id; have ecb73 := hSw.cell cb73 id; go_simp <;> with_reducible rfl)
  try simp only [Act.put, List.setIfInBounds_toArray, List.set_cons_zero, List.set_cons_succ]
  refine wpAnyH_take (i := 43) (oi := { dst := some 84, op := Go.Op.move (Go.Operand.tmp 83), type := 4, pos := "law.go:28", after := #[{ on := 42, ground := Go.Ground.data }, { on := 39, ground := Go.Ground.chain }], guard := none }) (v := ?v44) rfl (by kernel_rfl) (by kernel_rfl) (by kernel_rfl) (fun _ _ _ h => h) (Or.inl ⟨by rfl, ?hy44⟩) (by assumption) ?rest44
  case hy44 => (intro w hSw; (try dsimp only at hSw); have ecb30 := hSw.cell cb30 id; have ecb32 := hSw.cell cb32 id; have ecb73 := hSw.cell cb73 id; go_simp <;> with_reducible rfl)
  try simp only [Act.put, List.setIfInBounds_toArray, List.set_cons_zero, List.set_cons_succ]
  refine wpAnyH_take (i := 44) (oi := { dst := some 85, op := Go.Op.move (Go.Operand.tmp 10), type := 4, pos := "law.go:28", after := #[{ on := 43, ground := Go.Ground.guard }], guard := some (43, true) }) (v := ?v45) rfl (by kernel_rfl) (by kernel_rfl) (by kernel_rfl) (fun _ _ _ h => h) (Or.inl ⟨by rfl, ?hy45⟩) (by assumption) ?rest45
  case hy45 => (intro w hSw; (try dsimp only at hSw); have ecb30 := hSw.cell cb30 id; have ecb32 := hSw.cell cb32 id; have ecb73 := hSw.cell cb73 id; go_simp <;> with_reducible rfl)
  try simp only [Act.put, List.setIfInBounds_toArray, List.set_cons_zero, List.set_cons_succ]
  refine wpAnyH_take (i := 45) (oi := { dst := some 86, op := Go.Op.pick (Go.Operand.tmp 84) (Go.Operand.tmp 85) (Go.Operand.const (Go.Value.bool false)), type := 4, pos := "law.go:28", after := #[{ on := 43, ground := Go.Ground.data }, { on := 44, ground := Go.Ground.data }], guard := none }) (v := ?v46) rfl (by kernel_rfl) (by kernel_rfl) (by kernel_rfl) (fun _ _ _ h => h) (Or.inl ⟨by rfl, ?hy46⟩) (by assumption) ?rest46
  case hy46 => (intro w hSw; (try dsimp only at hSw); have ecb30 := hSw.cell cb30 id; have ecb32 := hSw.cell cb32 id; have ecb73 := hSw.cell cb73 id; go_simp <;> with_reducible rfl)
  try simp only [Act.put, List.setIfInBounds_toArray, List.set_cons_zero, List.set_cons_succ]
  refine wpAnyH_take (i := 46) (oi := { dst := some 87, op := Go.Op.move (Go.Operand.tmp 86), type := 4, pos := "law.go:28", after := #[{ on := 45, ground := Go.Ground.data }, { on := 43, ground := Go.Ground.chain }], guard := none }) (v := ?v47) rfl (by kernel_rfl) (by kernel_rfl) (by kernel_rfl) (fun _ _ _ h => h) (Or.inl ⟨by rfl, ?hy47⟩) (by assumption) ?rest47
  case hy47 => (intro w hSw; (try dsimp only at hSw); have ecb30 := hSw.cell cb30 id; have ecb32 := hSw.cell cb32 id; have ecb73 := hSw.cell cb73 id; go_simp <;> with_reducible rfl)
  try simp only [Act.put, List.setIfInBounds_toArray, List.set_cons_zero, List.set_cons_succ]
  refine wpAnyH_take (i := 47) (oi := { dst := some 88, op := Go.Op.move (Go.Operand.tmp 12), type := 29, pos := "law.go:28", after := #[{ on := 46, ground := Go.Ground.guard }], guard := some (46, true) }) (v := ?v48) rfl (by kernel_rfl) (by kernel_rfl) (by kernel_rfl) (fun _ _ _ h => h) (Or.inl ⟨by rfl, ?hy48⟩) (by assumption) ?rest48
  case hy48 => (intro w hSw; (try dsimp only at hSw); have ecb30 := hSw.cell cb30 id; have ecb32 := hSw.cell cb32 id; have ecb73 := hSw.cell cb73 id; go_simp <;> with_reducible rfl)
  try simp only [Act.put, List.setIfInBounds_toArray, List.set_cons_zero, List.set_cons_succ]
  refine wpAnyH_ready (rs := [48]) (by kernel_rfl) (by simp) ?_
  refine AllReadyH.cons (o := { dst := some 89, op := Go.Op.call { callee := Go.Callee.value (Go.Operand.func 13), args := #[Go.Operand.tmp 88], argTypes := #[29] }, type := 9, pos := "law.go:28", after := #[{ on := 47, ground := Go.Ground.data }, { on := 46, ground := Go.Ground.chain }, { on := 46, ground := Go.Ground.guard }], guard := some (46, true) }) rfl (fun K hK => ?_) AllReadyH.nil
  go_simp
  refine (told7_any _ _ 2 _ _ (EC.keep hS0 (fun _ _ => id) HE10.out) (by decide) (by decide)).mono ?_
  rintro e w12 ⟨rfl, hx⟩
  rw [HT.out]
  have hS1 := hS0.trans hx
  clear hx
  refine hK.out _ _ hS1 (fun _ => ?_)
  refine wpAnyH_take (i := 49) (oi := { dst := some 90, op := Go.Op.binOp Go.BinOp.eql 9 (Go.Operand.tmp 89) (Go.Operand.const (Go.Value.string { data := #[105, 99, 109, 112, 58, 32, 105, 112, 118, 52, 58, 32, 111, 99, 116, 101, 116, 115, 58, 32, 101, 114, 114, 111, 114, 32, 50] })) 9, type := 4, pos := "law.go:28", after := #[{ on := 48, ground := Go.Ground.data }, { on := 46, ground := Go.Ground.guard }], guard := some (46, true) }) (v := ?v49) rfl (by kernel_rfl) (by kernel_rfl) (by kernel_rfl) (fun _ _ _ h => h) (Or.inl ⟨by rfl, ?hy49⟩) (by assumption) ?rest49
  case hy49 => (intro w hSw; (try dsimp only at hSw); have ecb30 := hSw.cell cb30 id; have ecb32 := hSw.cell cb32 id; have ecb73 := hSw.cell cb73 id; go_simp <;> with_reducible rfl)
  try simp only [Act.put, List.setIfInBounds_toArray, List.set_cons_zero, List.set_cons_succ]
  refine wpAnyH_take (i := 50) (oi := { dst := some 91, op := Go.Op.pick (Go.Operand.tmp 87) (Go.Operand.tmp 90) (Go.Operand.const (Go.Value.bool false)), type := 4, pos := "law.go:28", after := #[{ on := 46, ground := Go.Ground.data }, { on := 49, ground := Go.Ground.data }], guard := none }) (v := ?v50) rfl (by kernel_rfl) (by kernel_rfl) (by kernel_rfl) (fun _ _ _ h => h) (Or.inl ⟨by rfl, ?hy50⟩) (by assumption) ?rest50
  case hy50 => (intro w hSw; (try dsimp only at hSw); have ecb30 := hSw.cell cb30 id; have ecb32 := hSw.cell cb32 id; have ecb73 := hSw.cell cb73 id; go_simp <;> with_reducible rfl)
  try simp only [Act.put, List.setIfInBounds_toArray, List.set_cons_zero, List.set_cons_succ]
  refine wpAnyH_take (i := 51) (oi := { dst := some 0, op := Go.Op.assign (Go.Operand.tmp 91), type := 4, pos := "law.go:28", after := #[{ on := 50, ground := Go.Ground.data }, { on := 48, ground := Go.Ground.chain }, { on := 0, ground := Go.Ground.phase }, { on := 1, ground := Go.Ground.phase }, { on := 2, ground := Go.Ground.phase }, { on := 3, ground := Go.Ground.phase }, { on := 4, ground := Go.Ground.phase }, { on := 5, ground := Go.Ground.phase }, { on := 6, ground := Go.Ground.phase }, { on := 7, ground := Go.Ground.phase }, { on := 8, ground := Go.Ground.phase }, { on := 9, ground := Go.Ground.phase }, { on := 10, ground := Go.Ground.phase }, { on := 11, ground := Go.Ground.phase }, { on := 12, ground := Go.Ground.phase }, { on := 13, ground := Go.Ground.phase }, { on := 14, ground := Go.Ground.phase }, { on := 15, ground := Go.Ground.phase }, { on := 16, ground := Go.Ground.phase }, { on := 17, ground := Go.Ground.phase }, { on := 18, ground := Go.Ground.phase }, { on := 19, ground := Go.Ground.phase }, { on := 20, ground := Go.Ground.phase }, { on := 21, ground := Go.Ground.phase }, { on := 22, ground := Go.Ground.phase }, { on := 23, ground := Go.Ground.phase }, { on := 24, ground := Go.Ground.phase }, { on := 25, ground := Go.Ground.phase }, { on := 26, ground := Go.Ground.phase }, { on := 27, ground := Go.Ground.phase }, { on := 28, ground := Go.Ground.phase }, { on := 29, ground := Go.Ground.phase }, { on := 30, ground := Go.Ground.phase }, { on := 31, ground := Go.Ground.phase }, { on := 32, ground := Go.Ground.phase }, { on := 33, ground := Go.Ground.phase }, { on := 34, ground := Go.Ground.phase }, { on := 35, ground := Go.Ground.phase }, { on := 36, ground := Go.Ground.phase }, { on := 37, ground := Go.Ground.phase }, { on := 38, ground := Go.Ground.phase }, { on := 39, ground := Go.Ground.phase }, { on := 40, ground := Go.Ground.phase }, { on := 41, ground := Go.Ground.phase }, { on := 42, ground := Go.Ground.phase }, { on := 43, ground := Go.Ground.phase }, { on := 44, ground := Go.Ground.phase }, { on := 45, ground := Go.Ground.phase }, { on := 46, ground := Go.Ground.phase }, { on := 47, ground := Go.Ground.phase }, { on := 48, ground := Go.Ground.phase }, { on := 49, ground := Go.Ground.phase }, { on := 50, ground := Go.Ground.phase }], guard := none }) (v := ?v51) rfl (by kernel_rfl) (by kernel_rfl) (by kernel_rfl) (fun _ _ _ h => h) (Or.inl ⟨by rfl, ?hy51⟩) (by assumption) ?rest51
  case hy51 => (intro w hSw; (try dsimp only at hSw); have ecb30 := hSw.cell cb30 id; have ecb32 := hSw.cell cb32 id; have ecb73 := hSw.cell cb73 id; go_simp <;> with_reducible rfl)
  try simp only [Act.put, List.setIfInBounds_toArray, List.set_cons_zero]
  refine wpAnyH_done (by kernel_rfl) ?_ _
  have hx := hS1
  clear hS0 hS1 cb30 cb32 cb73
  have HX_w12 := Lib.hid hx
  clear hx
  go_wp2_with fail
  go_ret
  exact ⟨rfl, (((((((((((HX_w1.out.trans HX_w2.out).trans HX_w3.out).trans HX_w4.out).trans HX_w5.out).trans HX_w6.out).trans HX_w7.out).trans HX_w8.out).trans HX_w9.out).trans HX_w10.out).trans HX_w11.out).trans HX_w12.out)⟩
end Go.Proofs.YtbmjkcocnmfpaaaDoor
