/-
  The contracts of icmp: bytes, Bytes, MTU. By an AI agent.
-/
import Derived.Test.YtbmjkcocnmfpaaaDoorWr07
import Derived.Test.YtbmjkcocnmfpaaaDoorIpH
import Derived.Test.YtbmjkcocnmfpaaaDoorRow2
namespace Go.Proofs.YtbmjkcocnmfpaaaDoor
open Go.RowKit

/-- a message as a value -/
def msv (m : Ms) (u : Value) : Value := .agg #[.int .u8 m.ty, .int .u8 m.co, .int .u32 m.rest, u]
theorem ms_size : (Tryd.prog.info? 25).map (·.size) = some 4 := by kernel_rfl
set_option maxRecDepth 100000 in
set_option maxHeartbeats 4000000 in
theorem mbytes_any (P : Nat → Prop) (m : Ms) (s : Int) (A : Option Addr) (c : Nat) (w : World) (ok : m.ok) (hs : 0 ≤ s ∧ s ≤ 65535) (hr : RB w P (.slice A m.b.length c) m.b) (hn : m.b.length ≤ 1000000) :
    Calls Tryd.prog 14 #[msv m (.slice A m.b.length c), .int .u16 s] w fun e w' => ∃ A' c', e = .returned (.slice (some A') (8 + m.b.length) c') ∧ OB w' w.heap.size (.slice (some A') (8 + m.b.length) c') (m.hd s) ∧ Ex (fun _ => False) w w' := by
  obtain ⟨ty, co, rest, b⟩ := m
  obtain ⟨⟨o00, o01⟩, ⟨o10, o11⟩, ⟨o20, o21⟩⟩ := ok
  obtain ⟨s0, s1⟩ := hs
  simp only at o00 o01 o10 o11 o20 o21 hr hn ⊢
  have HR := Lib.hid hr
  clear hr
  show Calls Tryd.prog 14 #[.agg #[.int .u8 ty, .int .u8 co, .int .u32 rest, .slice A b.length c], .int .u16 s] w _
  go_enter Tryd.func14, Tryd.ntmps14
  go_upto_region 1 with fail
  have hx : Ex (fun _ => False) w (w.alloc (.cells #[.int .u8 ty, .int .u8 co, .int .u32 rest, .slice A b.length c] 25)) := (Ex.refl _ w).alloc _
  have hb : (w.alloc (.cells #[.int .u8 ty, .int .u8 co, .int .u32 rest, .slice A b.length c] 25)).heap[w.heap.size]? = some (.cells #[.int .u8 ty, .int .u8 co, .int .u32 rest, .slice A b.length c] 25) := heap_alloc_new w _
  obtain ⟨mb_, hmb_⟩ : ∃ mb_, mb_ = w.heap.size := ⟨_, rfl⟩
  have hb_mb_ : w.heap.size ≤ mb_ := by omega
  rw [← hmb_] at hb
  try simp only [← hmb_]
  generalize w.alloc (.cells #[.int .u8 ty, .int .u8 co, .int .u32 rest, .slice A b.length c] 25) = w1 at hx hb ⊢
  clear hmb_
  have HX_w1 := Lib.hid hx
  clear hx
  have B_mb_ := Lib.hid hb
  clear hb
  have cmb_0 := row_cell (k := 0) (v := .int .u8 ty) B_mb_.out rfl
  have cmb_1 := row_cell (k := 1) (v := .int .u8 co) B_mb_.out rfl
  have cmb_2 := row_cell (k := 2) (v := .int .u32 rest) B_mb_.out rfl
  have cmb_3 := row_cell (k := 3) (v := .slice A b.length c) B_mb_.out rfl
  have hr1 := (RB.keep HR.out HX_w1.out (fun _ _ _ => id))
  have HR1 := Lib.hid hr1
  have hsz := HX_w1.out.size
  clear hr1
  go_upto_region 2 with fail
  have hw2 := WR.zero w1 77 w1.heap.size rfl
  have hx2 : Ex (fun _ => False) w1 (w1.alloc (.cells #[.slice none 0 0] 77)) := (Ex.refl _ w1).alloc _
  generalize w1.alloc (.cells #[.slice none 0 0] 77) = w2 at hw2 hx2 ⊢
  obtain ⟨p, hp⟩ : ∃ p, p = w1.heap.size := ⟨_, rfl⟩
  rw [← hp] at hw2
  try simp only [← hp]
  have hp1 : w1.heap.size ≤ p := by omega
  clear hp
  obtain ⟨q0, hq0⟩ : ∃ q0 : Option Nat, q0 = none := ⟨_, rfl⟩
  rw [← hq0] at hw2
  have hS0 : Ex (fun _ => False) w1 w2.drew := hx2.drew
  have HW0 := Lib.hid (hw2.keep (S := fun _ => False) (Ex.refl _ w2).drew id (fun _ _ _ => id))
  have HQ0 : Hid (∀ k, q0 = some k → w1.heap.size ≤ k) := Lib.hid (fun k h => by rw [hq0] at h; cases h)
  clear hw2 hq0 hx2
  have hln : ([] ++ txt ty 1 ++ txt co 1 ++ txt s 2 ++ txt rest 4 ++ b).length = 8 + b.length := (⟨ty, co, rest, b⟩ : Ms).hd_len s
  have HLN := Lib.hid hln
  clear hln
  refine wp_region_held_drew (S := fun W => Ex (fun _ => False) w1 W) (by kernel_rfl) hS0 (fun _ => ?_)
  refine wpAnyH_take (i := 0) (oi := { dst := some 8, op := Go.Op.move (Go.Operand.tmp 5), type := 75, pos := "icmp.go:65", after := #[], guard := none }) (v := ?v1) rfl (by kernel_rfl) (by kernel_rfl) (by kernel_rfl) (fun _ _ _ h => h) (Or.inl ⟨by rfl, ?hy1⟩) (by assumption) ?rest1
  case hy1 => (intro w hSw; (try dsimp only at hSw); have ecmb_0 := hSw.cell cmb_0 id; have ecmb_1 := hSw.cell cmb_1 id; have ecmb_2 := hSw.cell cmb_2 id; have ecmb_3 := hSw.cell cmb_3 id; go_simp <;> with_reducible rfl)
  try simp only [Act.put, List.setIfInBounds_toArray, List.set_cons_zero, List.set_cons_succ]
  refine wpAnyH_take (i := 1) (oi := { dst := some 9, op := Go.Op.fieldAddr 25 (Go.Operand.tmp 2) 0, type := 0, pos := "icmp.go:65", after := #[], guard := none }) (v := ?v2) rfl (by kernel_rfl) (by kernel_rfl) (by kernel_rfl) (fun _ _ _ h => h) (Or.inl ⟨by rfl, ?hy2⟩) (by assumption) ?rest2
  case hy2 => (intro w hSw; (try dsimp only at hSw); have ecmb_0 := hSw.cell cmb_0 id; have ecmb_1 := hSw.cell cmb_1 id; have ecmb_2 := hSw.cell cmb_2 id; have ecmb_3 := hSw.cell cmb_3 id; go_simp <;> with_reducible rfl)
  try simp only [Act.put, List.setIfInBounds_toArray, List.set_cons_zero, List.set_cons_succ]
  refine wpAnyH_take (i := 2) (oi := { dst := some 10, op := Go.Op.load 5 (Go.Operand.tmp 9), type := 5, pos := "icmp.go:65", after := #[{ on := 1, ground := Go.Ground.data }], guard := none }) (v := ?v3) rfl (by kernel_rfl) (by kernel_rfl) (by kernel_rfl) (fun _ _ _ h => h) (Or.inl ⟨by rfl, ?hy3⟩) (by assumption) ?rest3
  case hy3 => (intro w hSw; (try dsimp only at hSw); have ecmb_0 := hSw.cell cmb_0 id; have ecmb_1 := hSw.cell cmb_1 id; have ecmb_2 := hSw.cell cmb_2 id; have ecmb_3 := hSw.cell cmb_3 id; go_simp <;> with_reducible rfl)
  try simp only [Act.put, List.setIfInBounds_toArray, List.set_cons_zero, List.set_cons_succ]
  refine wpAnyH_take (i := 4) (oi := { dst := some 12, op := Go.Op.fieldAddr 25 (Go.Operand.tmp 2) 1, type := 0, pos := "icmp.go:65", after := #[], guard := none }) (v := ?v4) rfl (by kernel_rfl) (by kernel_rfl) (by kernel_rfl) (fun _ _ _ h => h) (Or.inl ⟨by rfl, ?hy4⟩) (by assumption) ?rest4
  case hy4 => (intro w hSw; (try dsimp only at hSw); have ecmb_0 := hSw.cell cmb_0 id; have ecmb_1 := hSw.cell cmb_1 id; have ecmb_2 := hSw.cell cmb_2 id; have ecmb_3 := hSw.cell cmb_3 id; go_simp <;> with_reducible rfl)
  try simp only [Act.put, List.setIfInBounds_toArray, List.set_cons_zero, List.set_cons_succ]
  refine wpAnyH_take (i := 5) (oi := { dst := some 13, op := Go.Op.load 5 (Go.Operand.tmp 12), type := 5, pos := "icmp.go:65", after := #[{ on := 4, ground := Go.Ground.data }], guard := none }) (v := ?v5) rfl (by kernel_rfl) (by kernel_rfl) (by kernel_rfl) (fun _ _ _ h => h) (Or.inl ⟨by rfl, ?hy5⟩) (by assumption) ?rest5
  case hy5 => (intro w hSw; (try dsimp only at hSw); have ecmb_0 := hSw.cell cmb_0 id; have ecmb_1 := hSw.cell cmb_1 id; have ecmb_2 := hSw.cell cmb_2 id; have ecmb_3 := hSw.cell cmb_3 id; go_simp <;> with_reducible rfl)
  try simp only [Act.put, List.setIfInBounds_toArray, List.set_cons_zero, List.set_cons_succ]
  refine wpAnyH_take (i := 7) (oi := { dst := some 15, op := Go.Op.move (Go.Operand.tmp 1), type := 38, pos := "icmp.go:65", after := #[], guard := none }) (v := ?v6) rfl (by kernel_rfl) (by kernel_rfl) (by kernel_rfl) (fun _ _ _ h => h) (Or.inl ⟨by rfl, ?hy6⟩) (by assumption) ?rest6
  case hy6 => (intro w hSw; (try dsimp only at hSw); have ecmb_0 := hSw.cell cmb_0 id; have ecmb_1 := hSw.cell cmb_1 id; have ecmb_2 := hSw.cell cmb_2 id; have ecmb_3 := hSw.cell cmb_3 id; go_simp <;> with_reducible rfl)
  try simp only [Act.put, List.setIfInBounds_toArray, List.set_cons_zero, List.set_cons_succ]
  refine wpAnyH_take (i := 9) (oi := { dst := some 17, op := Go.Op.fieldAddr 25 (Go.Operand.tmp 2) 2, type := 0, pos := "icmp.go:65", after := #[], guard := none }) (v := ?v7) rfl (by kernel_rfl) (by kernel_rfl) (by kernel_rfl) (fun _ _ _ h => h) (Or.inl ⟨by rfl, ?hy7⟩) (by assumption) ?rest7
  case hy7 => (intro w hSw; (try dsimp only at hSw); have ecmb_0 := hSw.cell cmb_0 id; have ecmb_1 := hSw.cell cmb_1 id; have ecmb_2 := hSw.cell cmb_2 id; have ecmb_3 := hSw.cell cmb_3 id; go_simp <;> with_reducible rfl)
  try simp only [Act.put, List.setIfInBounds_toArray, List.set_cons_zero, List.set_cons_succ]
  refine wpAnyH_take (i := 10) (oi := { dst := some 18, op := Go.Op.load 22 (Go.Operand.tmp 17), type := 22, pos := "icmp.go:65", after := #[{ on := 9, ground := Go.Ground.data }], guard := none }) (v := ?v8) rfl (by kernel_rfl) (by kernel_rfl) (by kernel_rfl) (fun _ _ _ h => h) (Or.inl ⟨by rfl, ?hy8⟩) (by assumption) ?rest8
  case hy8 => (intro w hSw; (try dsimp only at hSw); have ecmb_0 := hSw.cell cmb_0 id; have ecmb_1 := hSw.cell cmb_1 id; have ecmb_2 := hSw.cell cmb_2 id; have ecmb_3 := hSw.cell cmb_3 id; go_simp <;> with_reducible rfl)
  try simp only [Act.put, List.setIfInBounds_toArray, List.set_cons_zero, List.set_cons_succ]
  refine wpAnyH_take (i := 12) (oi := { dst := some 20, op := Go.Op.fieldAddr 25 (Go.Operand.tmp 2) 3, type := 0, pos := "icmp.go:65", after := #[], guard := none }) (v := ?v9) rfl (by kernel_rfl) (by kernel_rfl) (by kernel_rfl) (fun _ _ _ h => h) (Or.inl ⟨by rfl, ?hy9⟩) (by assumption) ?rest9
  case hy9 => (intro w hSw; (try dsimp only at hSw); have ecmb_0 := hSw.cell cmb_0 id; have ecmb_1 := hSw.cell cmb_1 id; have ecmb_2 := hSw.cell cmb_2 id; have ecmb_3 := hSw.cell cmb_3 id; go_simp <;> with_reducible rfl)
  try simp only [Act.put, List.setIfInBounds_toArray, List.set_cons_zero, List.set_cons_succ]
  refine wpAnyH_take (i := 13) (oi := { dst := some 21, op := Go.Op.load 23 (Go.Operand.tmp 20), type := 23, pos := "icmp.go:65", after := #[{ on := 12, ground := Go.Ground.data }], guard := none }) (v := ?v10) rfl (by kernel_rfl) (by kernel_rfl) (by kernel_rfl) (fun _ _ _ h => h) (Or.inl ⟨by rfl, ?hy10⟩) (by assumption) ?rest10
  case hy10 => (intro w hSw; (try dsimp only at hSw); have ecmb_0 := hSw.cell cmb_0 id; have ecmb_1 := hSw.cell cmb_1 id; have ecmb_2 := hSw.cell cmb_2 id; have ecmb_3 := hSw.cell cmb_3 id; go_simp <;> with_reducible rfl)
  try simp only [Act.put, List.setIfInBounds_toArray, List.set_cons_zero, List.set_cons_succ]
  refine wpAnyH_ready (rs := [3]) (by kernel_rfl) (by simp) ?_
  refine AllReadyH.cons (o := { dst := some 11, op := Go.Op.call { callee := Go.Callee.value (Go.Operand.func 33), args := #[Go.Operand.tmp 8, Go.Operand.tmp 10], argTypes := #[75, 5] }, type := 75, pos := "icmp.go:65", after := #[{ on := 0, ground := Go.Ground.data }, { on := 2, ground := Go.Ground.data }], guard := none }) rfl (fun K hK => ?_) AllReadyH.nil
  go_simp
  refine (wu8_any p q0 ([]) ty _ (by omega) (by omega) HW0.out (by simp)).mono ?_
  rintro e w3 ⟨rfl, hw⟩
  obtain ⟨q1, h1, h2, h3⟩ := writer_step HQ0.out hS0.size hw
  have hS1 := hS0.andThen h3 (fun i hi e => by rcases e with e | e <;> omega)
  have HW1 := Lib.hid h1
  have HQ1 := Lib.hid h2
  clear h1 h2 h3 hw
  refine hK.out _ _ hS1 (fun _ => ?_)
  refine wpAnyH_ready (rs := [6]) (by kernel_rfl) (by simp) ?_
  refine AllReadyH.cons (o := { dst := some 14, op := Go.Op.call { callee := Go.Callee.value (Go.Operand.func 33), args := #[Go.Operand.tmp 11, Go.Operand.tmp 13], argTypes := #[75, 5] }, type := 75, pos := "icmp.go:65", after := #[{ on := 3, ground := Go.Ground.data }, { on := 5, ground := Go.Ground.data }, { on := 3, ground := Go.Ground.chain }], guard := none }) rfl (fun K hK => ?_) AllReadyH.nil
  go_simp
  refine (wu8_any p q1 ([] ++ txt ty 1) co _ (by omega) (by omega) HW1.out (by simp [txt_len])).mono ?_
  rintro e w4 ⟨rfl, hw⟩
  obtain ⟨q2, h1, h2, h3⟩ := writer_step HQ1.out hS1.size hw
  have hS2 := hS1.andThen h3 (fun i hi e => by rcases e with e | e <;> omega)
  have HW2 := Lib.hid h1
  have HQ2 := Lib.hid h2
  clear h1 h2 h3 hw
  refine hK.out _ _ hS2 (fun _ => ?_)
  refine wpAnyH_ready (rs := [8]) (by kernel_rfl) (by simp) ?_
  refine AllReadyH.cons (o := { dst := some 16, op := Go.Op.call { callee := Go.Callee.value (Go.Operand.func 34), args := #[Go.Operand.tmp 14, Go.Operand.tmp 15], argTypes := #[75, 38] }, type := 75, pos := "icmp.go:65", after := #[{ on := 6, ground := Go.Ground.data }, { on := 7, ground := Go.Ground.data }, { on := 6, ground := Go.Ground.chain }], guard := none }) rfl (fun K hK => ?_) AllReadyH.nil
  go_simp
  refine (wu16_any p q2 ([] ++ txt ty 1 ++ txt co 1) s _ (by omega) (by omega) HW2.out (by simp [txt_len])).mono ?_
  rintro e w5 ⟨rfl, hw⟩
  obtain ⟨q3, h1, h2, h3⟩ := writer_step HQ2.out hS2.size hw
  have hS3 := hS2.andThen h3 (fun i hi e => by rcases e with e | e <;> omega)
  have HW3 := Lib.hid h1
  have HQ3 := Lib.hid h2
  clear h1 h2 h3 hw
  refine hK.out _ _ hS3 (fun _ => ?_)
  refine wpAnyH_ready (rs := [11]) (by kernel_rfl) (by simp) ?_
  refine AllReadyH.cons (o := { dst := some 19, op := Go.Op.call { callee := Go.Callee.value (Go.Operand.func 35), args := #[Go.Operand.tmp 16, Go.Operand.tmp 18], argTypes := #[75, 22] }, type := 75, pos := "icmp.go:65", after := #[{ on := 8, ground := Go.Ground.data }, { on := 10, ground := Go.Ground.data }, { on := 8, ground := Go.Ground.chain }], guard := none }) rfl (fun K hK => ?_) AllReadyH.nil
  go_simp
  refine (wu32_any p q3 ([] ++ txt ty 1 ++ txt co 1 ++ txt s 2) rest _ (by omega) (by omega) HW3.out (by simp [txt_len])).mono ?_
  rintro e w6 ⟨rfl, hw⟩
  obtain ⟨q4, h1, h2, h3⟩ := writer_step HQ3.out hS3.size hw
  have hS4 := hS3.andThen h3 (fun i hi e => by rcases e with e | e <;> omega)
  have HW4 := Lib.hid h1
  have HQ4 := Lib.hid h2
  clear h1 h2 h3 hw
  refine hK.out _ _ hS4 (fun _ => ?_)
  refine wpAnyH_ready (rs := [14]) (by kernel_rfl) (by simp) ?_
  refine AllReadyH.cons (o := { dst := some 22, op := Go.Op.call { callee := Go.Callee.value (Go.Operand.func 36), args := #[Go.Operand.tmp 19, Go.Operand.tmp 21], argTypes := #[75, 23] }, type := 75, pos := "icmp.go:65", after := #[{ on := 11, ground := Go.Ground.data }, { on := 13, ground := Go.Ground.data }, { on := 11, ground := Go.Ground.chain }], guard := none }) rfl (fun K hK => ?_) AllReadyH.nil
  go_simp
  refine (wbytes_any _ p q4 ([] ++ txt ty 1 ++ txt co 1 ++ txt s 2 ++ txt rest 4) b _ _ HW4.out (HR1.out.keep hS4 (fun _ _ _ => id)) (by simp [txt_len]; omega)).mono ?_
  rintro e w7 ⟨rfl, hw⟩
  obtain ⟨q5, h1, h2, h3⟩ := writer_step HQ4.out hS4.size hw
  have hS5 := hS4.andThen h3 (fun i hi e => by rcases e with e | e <;> omega)
  have HW5 := Lib.hid h1
  have HQ5 := Lib.hid h2
  clear h1 h2 h3 hw
  refine hK.out _ _ hS5 (fun _ => ?_)
  refine wpAnyH_ready (rs := [15]) (by kernel_rfl) (by simp) ?_
  refine AllReadyH.cons (o := { dst := some 23, op := Go.Op.call { callee := Go.Callee.value (Go.Operand.func 37), args := #[Go.Operand.tmp 22], argTypes := #[75] }, type := 23, pos := "icmp.go:65", after := #[{ on := 14, ground := Go.Ground.data }, { on := 14, ground := Go.Ground.chain }], guard := none }) rfl (fun K hK => ?_) AllReadyH.nil
  go_simp
  refine (wdone_any p q5 ([] ++ txt ty 1 ++ txt co 1 ++ txt s 2 ++ txt rest 4 ++ b) _ HW5.out (by simp [txt_len]; omega)).mono ?_
  rintro e w13 ⟨A9, c9, rfl, ho, hx⟩
  rw [HLN.out] at ho
  rw [HLN.out]
  have HO := Lib.hid ho
  have hs12 := hS5.size
  have hS6 := hS5.trans hx
  clear ho hx
  refine hK.out _ _ hS6 (fun _ => ?_)
  refine wpAnyH_take (i := 16) (oi := { dst := some 4, op := Go.Op.assign (Go.Operand.tmp 23), type := 23, pos := "icmp.go:65", after := #[{ on := 15, ground := Go.Ground.data }, { on := 15, ground := Go.Ground.chain }, { on := 0, ground := Go.Ground.phase }, { on := 1, ground := Go.Ground.phase }, { on := 2, ground := Go.Ground.phase }, { on := 3, ground := Go.Ground.phase }, { on := 4, ground := Go.Ground.phase }, { on := 5, ground := Go.Ground.phase }, { on := 6, ground := Go.Ground.phase }, { on := 7, ground := Go.Ground.phase }, { on := 8, ground := Go.Ground.phase }, { on := 9, ground := Go.Ground.phase }, { on := 10, ground := Go.Ground.phase }, { on := 11, ground := Go.Ground.phase }, { on := 12, ground := Go.Ground.phase }, { on := 13, ground := Go.Ground.phase }, { on := 14, ground := Go.Ground.phase }, { on := 15, ground := Go.Ground.phase }], guard := none }) (v := ?v11) rfl (by kernel_rfl) (by kernel_rfl) (by kernel_rfl) (fun _ _ _ h => h) (Or.inl ⟨by rfl, ?hy11⟩) (by assumption) ?rest11
  case hy11 => (intro w hSw; (try dsimp only at hSw); have ecmb_0 := hSw.cell cmb_0 id; have ecmb_1 := hSw.cell cmb_1 id; have ecmb_2 := hSw.cell cmb_2 id; have ecmb_3 := hSw.cell cmb_3 id; go_simp <;> with_reducible rfl)
  try simp only [Act.put, List.setIfInBounds_toArray, List.set_cons_zero, List.set_cons_succ]
  refine wpAnyH_done (by kernel_rfl) ?_ _
  have hl : ([] ++ txt ty 1 ++ txt co 1 ++ txt s 2 ++ txt rest 4 ++ b) = (⟨ty, co, rest, b⟩ : Ms).hd s := rfl
  have ho := HO.out
  rw [hl] at ho
  have HO9 := Lib.hid (ho.mono (Nat.le_trans hsz hs12))
  have HX := Lib.hid (HX_w1.out.trans hS6)
  clear ho hl HW0 HQ0 HW1 HQ1 HW2 HQ2 HW3 HQ3 HW4 HQ4 HW5 HQ5 hS0 hS1 hS2 hS3 hS4 hS5 hS6 cmb_0 cmb_1 cmb_2 cmb_3
  go_wp2_with fail
  go_ret
  exact ⟨A9, c9, rfl, HO9.out, HX.out⟩
set_option maxRecDepth 100000 in
set_option maxHeartbeats 4000000 in
theorem mBytes_any (P : Nat → Prop) (m : Ms) (A : Option Addr) (c : Nat) (w : World) (ok : m.ok) (hr : RB w P (.slice A m.b.length c) m.b) (hn : m.b.length ≤ 1000000) :
    Calls Tryd.prog 6 #[msv m (.slice A m.b.length c)] w fun e w' => ∃ A' c', e = .returned (.slice (some A') (8 + m.b.length) c') ∧ OB w' w.heap.size (.slice (some A') (8 + m.b.length) c') (mb m) ∧ Ex (fun _ => False) w w' := by
  have OKM := Lib.hid ok
  have hsl := m.sum_le
  have hhl := m.hd_len 0
  obtain ⟨n0, hn0⟩ : ∃ n0, n0 = m.sum := ⟨_, rfl⟩
  have HN0 := Lib.hid hn0
  rw [← hn0] at hsl
  have hme : mb m = m.hd (n0 : Int) := by rw [hn0]; rfl
  rw [hme]
  clear hme hn0
  have hsu : su (m.hd 0) = n0 := HN0.out.symm
  have HSU := Lib.hid hsu
  clear hsu ok
  obtain ⟨M0, hM0⟩ : ∃ l, l = m.hd 0 := ⟨_, rfl⟩
  rw [← hM0] at HSU hhl
  have HM0 := Lib.hid hM0
  clear hM0
  have hmb := fun s (h : 0 ≤ s ∧ s ≤ 65535) w hr => mbytes_any P m s A c w OKM.out h hr hn
  have HMB := Lib.hid hmb
  clear hmb
  obtain ⟨ty, co, rest, b⟩ := m
  simp only at hr hn hhl
  have HR := Lib.hid hr
  clear hr
  show Calls Tryd.prog 6 #[.agg #[.int .u8 ty, .int .u8 co, .int .u32 rest, .slice A b.length c]] w _
  go_enter Tryd.func6, Tryd.ntmps6
  go_upto_region 1 with fail
  have hx : Ex (fun _ => False) w (w.alloc (.cells #[.int .u8 ty, .int .u8 co, .int .u32 rest, .slice A b.length c] 25)) := (Ex.refl _ w).alloc _
  have hb : (w.alloc (.cells #[.int .u8 ty, .int .u8 co, .int .u32 rest, .slice A b.length c] 25)).heap[w.heap.size]? = some (.cells #[.int .u8 ty, .int .u8 co, .int .u32 rest, .slice A b.length c] 25) := heap_alloc_new w _
  obtain ⟨mb_, hmb_⟩ : ∃ mb_, mb_ = w.heap.size := ⟨_, rfl⟩
  have hb_mb_ : w.heap.size ≤ mb_ := by omega
  rw [← hmb_] at hb
  try simp only [← hmb_]
  generalize w.alloc (.cells #[.int .u8 ty, .int .u8 co, .int .u32 rest, .slice A b.length c] 25) = w1 at hx hb ⊢
  clear hmb_
  have HX_w1 := Lib.hid hx
  clear hx
  have B_mb_ := Lib.hid hb
  clear hb
  have cmb_0 := row_cell (k := 0) (v := .int .u8 ty) B_mb_.out rfl
  have cmb_1 := row_cell (k := 1) (v := .int .u8 co) B_mb_.out rfl
  have cmb_2 := row_cell (k := 2) (v := .int .u32 rest) B_mb_.out rfl
  have cmb_3 := row_cell (k := 3) (v := .slice A b.length c) B_mb_.out rfl
  have hr1 := (RB.keep HR.out HX_w1.out (fun _ _ _ => id))
  have HR1 := Lib.hid hr1
  have hsz := HX_w1.out.size
  have hS0 : Ex (fun _ => False) w1 w1.drew := (Ex.refl _ w1).drew
  clear hr1
  refine wp_region_held_drew (S := fun W => Ex (fun _ => False) w1 W) (by kernel_rfl) hS0 (fun _ => ?_)
  refine wpAnyH_take (i := 0) (oi := { dst := some 3, op := Go.Op.load 25 (Go.Operand.tmp 1), type := 25, pos := "icmp.go:69", after := #[], guard := none }) (v := ?v12) rfl (by kernel_rfl) (by kernel_rfl) (by kernel_rfl) (fun _ _ _ h => h) (Or.inl ⟨by rfl, ?hy12⟩) (by assumption) ?rest12
  case hy12 => (intro w hSw; (try dsimp only at hSw); have ecmb_0 := hSw.cell cmb_0 id; have ecmb_1 := hSw.cell cmb_1 id; have ecmb_2 := hSw.cell cmb_2 id; have ecmb_3 := hSw.cell cmb_3 id; go_simp <;> with_reducible rfl)
  try simp only [Act.put, List.setIfInBounds_toArray, List.set_cons_zero, List.set_cons_succ]
  refine wpAnyH_take (i := 1) (oi := { dst := some 4, op := Go.Op.load 25 (Go.Operand.tmp 1), type := 25, pos := "icmp.go:69", after := #[], guard := none }) (v := ?v13) rfl (by kernel_rfl) (by kernel_rfl) (by kernel_rfl) (fun _ _ _ h => h) (Or.inl ⟨by rfl, ?hy13⟩) (by assumption) ?rest13
  case hy13 => (intro w hSw; (try dsimp only at hSw); have ecmb_0 := hSw.cell cmb_0 id; have ecmb_1 := hSw.cell cmb_1 id; have ecmb_2 := hSw.cell cmb_2 id; have ecmb_3 := hSw.cell cmb_3 id; go_simp <;> with_reducible rfl)
  try simp only [Act.put, List.setIfInBounds_toArray, List.set_cons_zero, List.set_cons_succ]
  refine wpAnyH_ready (rs := [2]) (by kernel_rfl) (by simp) ?_
  refine AllReadyH.cons (o := { dst := some 5, op := Go.Op.call { callee := Go.Callee.value (Go.Operand.func 14), args := #[Go.Operand.tmp 4, Go.Operand.const (Go.Value.int Go.IntKind.u16 0)], argTypes := #[25, 38] }, type := 23, pos := "icmp.go:69", after := #[{ on := 1, ground := Go.Ground.data }], guard := none }) rfl (fun K hK => ?_) AllReadyH.nil
  go_simp
  refine (HMB.out 0 (by omega) _ (HR1.out.keep hS0 (fun _ _ _ => id))).mono ?_
  rintro e w3 ⟨A3, c3, rfl, ho, hx⟩
  have hS1 := hS0.trans hx
  have HO3 := Lib.hid (show OB w3 w1.drew.heap.size (.slice (some A3) (8 + b.length) c3) M0 by rw [HM0.out]; exact ho)
  clear ho hx
  refine hK.out _ _ hS1 (fun _ => ?_)
  refine wpAnyH_ready (rs := [3]) (by kernel_rfl) (by simp) ?_
  refine AllReadyH.cons (o := { dst := some 6, op := Go.Op.buildSlice 82 1 #[(0, Go.Operand.tmp 5)], type := 82, pos := "icmp.go:69", after := #[{ on := 2, ground := Go.Ground.data }], guard := none }) rfl (fun K hK => ?_) AllReadyH.nil
  go_simp
  have hS2 := hS1.alloc (.cells #[.slice (some A3) (8 + b.length) c3] 23)
  refine hK.out _ _ hS2 (fun _ => ?_)
  refine wpAnyH_ready (rs := [4]) (by kernel_rfl) (by simp) ?_
  refine AllReadyH.cons (o := { dst := some 7, op := Go.Op.call { callee := Go.Callee.value (Go.Operand.func 15), args := #[Go.Operand.tmp 6], argTypes := #[82] }, type := 38, pos := "icmp.go:69", after := #[{ on := 3, ground := Go.Ground.data }, { on := 2, ground := Go.Ground.chain }], guard := none }) rfl (fun K hK => ?_) AllReadyH.nil
  go_simp
  refine (sum1_any _ (.slice (some A3) (8 + b.length) c3) M0 w3 _ _ (by simp) HO3.out.rb (by omega)).mono ?_
  rintro e w4 ⟨rfl, rfl⟩
  rw [HSU.out]
  refine hK.out _ _ hS2 (fun _ => ?_)
  refine wpAnyH_ready (rs := [5]) (by kernel_rfl) (by simp) ?_
  refine AllReadyH.cons (o := { dst := some 8, op := Go.Op.call { callee := Go.Callee.value (Go.Operand.func 14), args := #[Go.Operand.tmp 3, Go.Operand.tmp 7], argTypes := #[25, 38] }, type := 23, pos := "icmp.go:69", after := #[{ on := 0, ground := Go.Ground.data }, { on := 4, ground := Go.Ground.data }, { on := 4, ground := Go.Ground.chain }], guard := none }) rfl (fun K hK => ?_) AllReadyH.nil
  go_simp
  refine (HMB.out (n0 : Int) (by omega) _ (HR1.out.keep hS2 (fun _ _ _ => id))).mono ?_
  rintro e w5 ⟨A5, c5, rfl, ho, hx⟩
  have hS3 := hS2.trans hx
  have HO5 := Lib.hid (ho.mono (Nat.le_trans hsz hS2.size))
  clear ho hx
  refine hK.out _ _ hS3 (fun _ => ?_)
  refine wpAnyH_take (i := 6) (oi := { dst := some 2, op := Go.Op.assign (Go.Operand.tmp 8), type := 23, pos := "icmp.go:69", after := #[{ on := 5, ground := Go.Ground.data }, { on := 5, ground := Go.Ground.chain }, { on := 0, ground := Go.Ground.phase }, { on := 1, ground := Go.Ground.phase }, { on := 2, ground := Go.Ground.phase }, { on := 3, ground := Go.Ground.phase }, { on := 4, ground := Go.Ground.phase }, { on := 5, ground := Go.Ground.phase }], guard := none }) (v := ?v14) rfl (by kernel_rfl) (by kernel_rfl) (by kernel_rfl) (fun _ _ _ h => h) (Or.inl ⟨by rfl, ?hy14⟩) (by assumption) ?rest14
  case hy14 => (intro w hSw; (try dsimp only at hSw); have ecmb_0 := hSw.cell cmb_0 id; have ecmb_1 := hSw.cell cmb_1 id; have ecmb_2 := hSw.cell cmb_2 id; have ecmb_3 := hSw.cell cmb_3 id; go_simp <;> with_reducible rfl)
  try simp only [Act.put, List.setIfInBounds_toArray, List.set_cons_zero, List.set_cons_succ]
  refine wpAnyH_done (by kernel_rfl) ?_ _
  have HX := Lib.hid (HX_w1.out.trans hS3)
  clear hS0 hS1 hS2 hS3 cmb_0 cmb_1 cmb_2 cmb_3
  go_wp2_with fail
  go_ret
  exact ⟨A5, c5, rfl, HO5.out, HX.out⟩
/-- how large packets may be, by a message -/
def Ms.mtu (m : Ms) : Int × Bool := if m.ty = 3 ∧ m.co = 4 then (m.rest % 65536, true) else (0, false)
set_option maxRecDepth 100000 in
theorem mtu_any (m : Ms) (ok : m.ok) (u : Value) (w : World) (hu : ∃ A n c, u = .slice A n c) :
    Calls Tryd.prog 12 #[msv m u] w fun e w' => e = .returned (.tuple #[.int .i64 m.mtu.1, .bool m.mtu.2]) ∧ Ex (fun _ => False) w w' := by
  obtain ⟨A, n, c, rfl⟩ := hu
  obtain ⟨ty, co, rest, b⟩ := m
  obtain ⟨⟨o00, o01⟩, ⟨o10, o11⟩, ⟨o20, o21⟩⟩ := ok
  simp only at o00 o01 o10 o11 o20 o21
  show Calls Tryd.prog 12 #[.agg #[.int .u8 ty, .int .u8 co, .int .u32 rest, .slice A n c]] w _
  have hx0 : Ex (fun _ => False) w (w.alloc (.cells #[.int .u8 ty, .int .u8 co, .int .u32 rest, .slice A n c] 25)) := (Ex.refl _ w).alloc _
  have HX0 := Lib.hid hx0
  clear hx0
  by_cases h1 : ty = 3
  · by_cases h2 : co = 4
    · subst h1 h2
      have e : (⟨3, 4, rest, b⟩ : Ms).mtu = (rest % 65536, true) := if_pos ⟨rfl, rfl⟩
      rw [e]
      clear e
      go_enter Tryd.func12, Tryd.ntmps12
      go_wp2_with fail
      go_ret2
      exact ⟨by simp [IntKind.wrap_u16]; unfold wrap64; omega, HX0.out⟩
    · have e : (⟨ty, co, rest, b⟩ : Ms).mtu = (0, false) := if_neg (fun h => h2 h.2)
      rw [e]
      subst h1
      have h3 : (co != 4) = true := by rw [bne_iff_ne]; exact h2
      clear e h2
      go_enter Tryd.func12, Tryd.ntmps12
      go_wp2_with fail
      go_ret2
      exact ⟨rfl, HX0.out⟩
  · have e : (⟨ty, co, rest, b⟩ : Ms).mtu = (0, false) := if_neg (fun h => h1 h.1)
    rw [e]
    have h3 : (ty != 3) = true := by rw [bne_iff_ne]; exact h1
    clear e h1
    go_enter Tryd.func12, Tryd.ntmps12
    go_wp2_with fail
    go_ret2
    exact ⟨rfl, HX0.out⟩
set_option maxRecDepth 100000 in
theorem mnumber1 (p g o : Nat) (x : UInt8) (l : List UInt8) (w : World) (h : RD w p g o (x :: l)) :
    Calls Tryd.prog 20 #[.pointer (some ⟨p, 0, none⟩), .func (.func 21) #[] #[]] w fun e w' => e = .returned (.int .u8 (x.toNat : Int)) ∧ RD w' p g (o + 1) l ∧ Ex (fun j => j = p) w w' := by
  have H := Lib.hid h
  clear h
  go_enter Tryd.func20, Tryd.ntmps20
  go_wp2_with fail
  refine (ru8_cons p g o x l w H.out).mono ?_
  rintro e w1 ⟨rfl, hr, hx⟩
  have HR := Lib.hid hr
  have HX := Lib.hid hx
  clear hr hx
  go_wp2_with fail
  go_ret
  exact ⟨rfl, HR.out, HX.out⟩
set_option maxRecDepth 100000 in
theorem mnumber2 (p g o : Nat) (x y : UInt8) (l : List UInt8) (w : World) (h : RD w p g o (x :: y :: l)) :
    Calls Tryd.prog 22 #[.pointer (some ⟨p, 0, none⟩), .func (.func 23) #[] #[]] w fun e w' => e = .returned (.int .u16 (nb [x, y] : Int)) ∧ RD w' p g (o + 2) l ∧ Ex (fun j => j = p) w w' := by
  have H := Lib.hid h
  clear h
  go_enter Tryd.func22, Tryd.ntmps22
  go_wp2_with fail
  refine (ru16_cons p g o x y l w H.out).mono ?_
  rintro e w1 ⟨rfl, hr, hx⟩
  have HR := Lib.hid hr
  have HX := Lib.hid hx
  clear hr hx
  go_wp2_with fail
  go_ret
  exact ⟨rfl, HR.out, HX.out⟩
set_option maxRecDepth 100000 in
theorem mnumber4 (p g o : Nat) (x y z t : UInt8) (l : List UInt8) (w : World) (h : RD w p g o (x :: y :: z :: t :: l)) :
    Calls Tryd.prog 24 #[.pointer (some ⟨p, 0, none⟩), .func (.func 25) #[] #[]] w fun e w' => e = .returned (.int .u32 (nb [x, y, z, t] : Int)) ∧ RD w' p g (o + 4) l ∧ Ex (fun j => j = p) w w' := by
  have H := Lib.hid h
  clear h
  go_enter Tryd.func24, Tryd.ntmps24
  go_wp2_with fail
  refine (ru32_cons p g o x y z t l w H.out).mono ?_
  rintro e w1 ⟨rfl, hr, hx⟩
  have HR := Lib.hid hr
  have HX := Lib.hid hx
  clear hr hx
  go_wp2_with fail
  go_ret
  exact ⟨rfl, HR.out, HX.out⟩
end Go.Proofs.YtbmjkcocnmfpaaaDoor
