/-
  The contracts of udp: bytes, Bytes. By an AI agent.
-/
import Derived.Test.YtfcfpkhcpijkfaaDoorDg
import Derived.Test.YtfcfpkhcpijkfaaDoorMust
import Derived.Test.YtfcfpkhcpijkfaaDoorSum
import Derived.Test.YtfcfpkhcpijkfaaDoorPseudo
namespace Go.Proofs.YtfcfpkhcpijkfaaDoor
open Go.RowKit

/-- a datagram as a value -/
def dgv (d : Dg) (u : Value) : Value := .agg #[.int .u16 d.src, .int .u16 d.dst, .bool d.pl, u]
theorem dg_size : (Tryd.prog.info? 25).map (·.size) = some 4 := by kernel_rfl
set_option maxRecDepth 100000 in
set_option maxHeartbeats 4000000 in
theorem dbytes_any (P : Nat → Prop) (d : Dg) (s : Int) (A : Option Addr) (c : Nat) (w : World) (ok : d.ok) (hs : 0 ≤ s ∧ s ≤ 65535) (hr : RB w P (.slice A d.b.length c) d.b) (hn : d.b.length ≤ 65507) :
    Calls Tryd.prog 48 #[dgv d (.slice A d.b.length c), .int .u16 s] w fun e w' => ∃ A' c', e = .returned (.slice (some A') (8 + d.b.length) c') ∧ OB w' w.heap.size (.slice (some A') (8 + d.b.length) c') (d.hd s) ∧ Ex (fun _ => False) w w' := by
  obtain ⟨src, dst, pl, b⟩ := d
  obtain ⟨⟨o00, o01⟩, ⟨o10, o11⟩⟩ := ok
  obtain ⟨s0, s1⟩ := hs
  simp only at o00 o01 o10 o11 hr hn ⊢
  have HR := Lib.hid hr
  clear hr
  show Calls Tryd.prog 48 #[.agg #[.int .u16 src, .int .u16 dst, .bool pl, .slice A b.length c], .int .u16 s] w _
  go_enter Tryd.func48, Tryd.ntmps48
  go_upto_region 1 with fail
  have hx : Ex (fun _ => False) w (w.alloc (.cells #[.int .u16 src, .int .u16 dst, .bool pl, .slice A b.length c] 25)) := (Ex.refl _ w).alloc _
  have hb : (w.alloc (.cells #[.int .u16 src, .int .u16 dst, .bool pl, .slice A b.length c] 25)).heap[w.heap.size]? = some (.cells #[.int .u16 src, .int .u16 dst, .bool pl, .slice A b.length c] 25) := heap_alloc_new w _
  obtain ⟨mb_, hmb_⟩ : ∃ mb_, mb_ = w.heap.size := ⟨_, rfl⟩
  have hb_mb_ : w.heap.size ≤ mb_ := by omega
  rw [← hmb_] at hb
  try simp only [← hmb_]
  generalize w.alloc (.cells #[.int .u16 src, .int .u16 dst, .bool pl, .slice A b.length c] 25) = w1 at hx hb ⊢
  clear hmb_
  have HX_w1 := Lib.hid hx
  clear hx
  have B_mb_ := Lib.hid hb
  clear hb
  have cmb_0 := row_cell (k := 0) (v := .int .u16 src) B_mb_.out rfl
  have cmb_1 := row_cell (k := 1) (v := .int .u16 dst) B_mb_.out rfl
  have cmb_2 := row_cell (k := 2) (v := .bool pl) B_mb_.out rfl
  have cmb_3 := row_cell (k := 3) (v := .slice A b.length c) B_mb_.out rfl
  have hr1 := (RB.keep HR.out HX_w1.out (fun _ _ _ => id))
  have HR1 := Lib.hid hr1
  have hsz := HX_w1.out.size
  have hw1 : IntKind.i64.wrap (8 + (b.length : Int)) = 8 + (b.length : Int) := by rw [IntKind.wrap_i64]; omega
  have hw2 : IntKind.u16.wrap (8 + (b.length : Int)) = 8 + (b.length : Int) := by rw [IntKind.wrap_u16]; omega
  clear hr1
  go_upto_region 2 with fail
  have hw2' := WR.zero w1 121 w1.heap.size rfl
  have hx2 : Ex (fun _ => False) w1 (w1.alloc (.cells #[.slice none 0 0] 121)) := (Ex.refl _ w1).alloc _
  generalize w1.alloc (.cells #[.slice none 0 0] 121) = w2 at hw2' hx2 ⊢
  obtain ⟨p, hp⟩ : ∃ p, p = w1.heap.size := ⟨_, rfl⟩
  rw [← hp] at hw2'
  try simp only [← hp]
  have hp1 : w1.heap.size ≤ p := by omega
  clear hp
  obtain ⟨q0, hq0⟩ : ∃ q0 : Option Nat, q0 = none := ⟨_, rfl⟩
  rw [← hq0] at hw2'
  have hS0 : Ex (fun _ => False) w1 w2.drew := hx2.drew
  have HW0 := Lib.hid (hw2'.keep (S := fun _ => False) (Ex.refl _ w2).drew id (fun _ _ _ => id))
  have HQ0 : Hid (∀ k, q0 = some k → w1.heap.size ≤ k) := Lib.hid (fun k h => by rw [hq0] at h; cases h)
  clear hw2' hq0 hx2
  have hln : ([] ++ txt src 2 ++ txt dst 2 ++ txt (8 + (b.length : Int)) 2 ++ txt s 2 ++ b).length = 8 + b.length := (⟨src, dst, pl, b⟩ : Dg).hd_len s
  have HLN := Lib.hid hln
  clear hln
  refine wp_region_held_drew (S := fun W => Ex (fun _ => False) w1 W) (by kernel_rfl) hS0 (fun _ => ?_)
  refine wpAnyH_take (i := 0) (oi := { dst := some 8, op := Go.Op.move (Go.Operand.tmp 5), type := 120, pos := "udp.go:75", after := #[], guard := none }) (v := ?v1) rfl (by kernel_rfl) (by kernel_rfl) (by kernel_rfl) (fun _ _ _ h => h) (Or.inl ⟨by rfl, ?hy1⟩) (by assumption) ?rest1
  case hy1 => (intro w hSw; (try dsimp only at hSw); have ecmb_0 := hSw.cell cmb_0 id; have ecmb_1 := hSw.cell cmb_1 id; have ecmb_2 := hSw.cell cmb_2 id; have ecmb_3 := hSw.cell cmb_3 id; go_simp <;> with_reducible rfl)
  try simp only [Act.put, List.setIfInBounds_toArray, List.set_cons_zero, List.set_cons_succ]
  refine wpAnyH_take (i := 1) (oi := { dst := some 9, op := Go.Op.fieldAddr 25 (Go.Operand.tmp 2) 0, type := 0, pos := "udp.go:75", after := #[], guard := none }) (v := ?v2) rfl (by kernel_rfl) (by kernel_rfl) (by kernel_rfl) (fun _ _ _ h => h) (Or.inl ⟨by rfl, ?hy2⟩) (by assumption) ?rest2
  case hy2 => (intro w hSw; (try dsimp only at hSw); have ecmb_0 := hSw.cell cmb_0 id; have ecmb_1 := hSw.cell cmb_1 id; have ecmb_2 := hSw.cell cmb_2 id; have ecmb_3 := hSw.cell cmb_3 id; go_simp <;> with_reducible rfl)
  try simp only [Act.put, List.setIfInBounds_toArray, List.set_cons_zero, List.set_cons_succ]
  refine wpAnyH_take (i := 2) (oi := { dst := some 10, op := Go.Op.load 23 (Go.Operand.tmp 9), type := 23, pos := "udp.go:75", after := #[{ on := 1, ground := Go.Ground.data }], guard := none }) (v := ?v3) rfl (by kernel_rfl) (by kernel_rfl) (by kernel_rfl) (fun _ _ _ h => h) (Or.inl ⟨by rfl, ?hy3⟩) (by assumption) ?rest3
  case hy3 => (intro w hSw; (try dsimp only at hSw); have ecmb_0 := hSw.cell cmb_0 id; have ecmb_1 := hSw.cell cmb_1 id; have ecmb_2 := hSw.cell cmb_2 id; have ecmb_3 := hSw.cell cmb_3 id; go_simp <;> with_reducible rfl)
  try simp only [Act.put, List.setIfInBounds_toArray, List.set_cons_zero, List.set_cons_succ]
  refine wpAnyH_take (i := 4) (oi := { dst := some 12, op := Go.Op.fieldAddr 25 (Go.Operand.tmp 2) 1, type := 0, pos := "udp.go:75", after := #[], guard := none }) (v := ?v4) rfl (by kernel_rfl) (by kernel_rfl) (by kernel_rfl) (fun _ _ _ h => h) (Or.inl ⟨by rfl, ?hy4⟩) (by assumption) ?rest4
  case hy4 => (intro w hSw; (try dsimp only at hSw); have ecmb_0 := hSw.cell cmb_0 id; have ecmb_1 := hSw.cell cmb_1 id; have ecmb_2 := hSw.cell cmb_2 id; have ecmb_3 := hSw.cell cmb_3 id; go_simp <;> with_reducible rfl)
  try simp only [Act.put, List.setIfInBounds_toArray, List.set_cons_zero, List.set_cons_succ]
  refine wpAnyH_take (i := 5) (oi := { dst := some 13, op := Go.Op.load 23 (Go.Operand.tmp 12), type := 23, pos := "udp.go:75", after := #[{ on := 4, ground := Go.Ground.data }], guard := none }) (v := ?v5) rfl (by kernel_rfl) (by kernel_rfl) (by kernel_rfl) (fun _ _ _ h => h) (Or.inl ⟨by rfl, ?hy5⟩) (by assumption) ?rest5
  case hy5 => (intro w hSw; (try dsimp only at hSw); have ecmb_0 := hSw.cell cmb_0 id; have ecmb_1 := hSw.cell cmb_1 id; have ecmb_2 := hSw.cell cmb_2 id; have ecmb_3 := hSw.cell cmb_3 id; go_simp <;> with_reducible rfl)
  try simp only [Act.put, List.setIfInBounds_toArray, List.set_cons_zero, List.set_cons_succ]
  refine wpAnyH_take (i := 7) (oi := { dst := some 15, op := Go.Op.fieldAddr 25 (Go.Operand.tmp 2) 3, type := 0, pos := "udp.go:75", after := #[], guard := none }) (v := ?v6) rfl (by kernel_rfl) (by kernel_rfl) (by kernel_rfl) (fun _ _ _ h => h) (Or.inl ⟨by rfl, ?hy6⟩) (by assumption) ?rest6
  case hy6 => (intro w hSw; (try dsimp only at hSw); have ecmb_0 := hSw.cell cmb_0 id; have ecmb_1 := hSw.cell cmb_1 id; have ecmb_2 := hSw.cell cmb_2 id; have ecmb_3 := hSw.cell cmb_3 id; go_simp <;> with_reducible rfl)
  try simp only [Act.put, List.setIfInBounds_toArray, List.set_cons_zero, List.set_cons_succ]
  refine wpAnyH_take (i := 8) (oi := { dst := some 16, op := Go.Op.load 22 (Go.Operand.tmp 15), type := 22, pos := "udp.go:75", after := #[{ on := 7, ground := Go.Ground.data }], guard := none }) (v := ?v7) rfl (by kernel_rfl) (by kernel_rfl) (by kernel_rfl) (fun _ _ _ h => h) (Or.inl ⟨by rfl, ?hy7⟩) (by assumption) ?rest7
  case hy7 => (intro w hSw; (try dsimp only at hSw); have ecmb_0 := hSw.cell cmb_0 id; have ecmb_1 := hSw.cell cmb_1 id; have ecmb_2 := hSw.cell cmb_2 id; have ecmb_3 := hSw.cell cmb_3 id; go_simp <;> with_reducible rfl)
  try simp only [Act.put, List.setIfInBounds_toArray, List.set_cons_zero, List.set_cons_succ]
  refine wpAnyH_take (i := 9) (oi := { dst := some 17, op := Go.Op.call { callee := Go.Callee.builtin Go.Builtin.len, args := #[Go.Operand.tmp 16], argTypes := #[22] }, type := 3, pos := "udp.go:75", after := #[{ on := 8, ground := Go.Ground.data }], guard := none }) (v := ?v8) rfl (by kernel_rfl) (by kernel_rfl) (by kernel_rfl) (fun _ _ _ h => h) (Or.inl ⟨by rfl, ?hy8⟩) (by assumption) ?rest8
  case hy8 => (intro w hSw; (try dsimp only at hSw); have ecmb_0 := hSw.cell cmb_0 id; have ecmb_1 := hSw.cell cmb_1 id; have ecmb_2 := hSw.cell cmb_2 id; have ecmb_3 := hSw.cell cmb_3 id; go_simp <;> with_reducible rfl)
  try simp only [Act.put, List.setIfInBounds_toArray, List.set_cons_zero, List.set_cons_succ]
  refine wpAnyH_take (i := 10) (oi := { dst := some 18, op := Go.Op.binOp Go.BinOp.add 3 (Go.Operand.const (Go.Value.int Go.IntKind.i64 8)) (Go.Operand.tmp 17) 3, type := 3, pos := "udp.go:75", after := #[{ on := 9, ground := Go.Ground.data }], guard := none }) (v := ?v9) rfl (by kernel_rfl) (by kernel_rfl) (by kernel_rfl) (fun _ _ _ h => h) (Or.inl ⟨by rfl, ?hy9⟩) (by assumption) ?rest9
  case hy9 => (intro w hSw; (try dsimp only at hSw); have ecmb_0 := hSw.cell cmb_0 id; have ecmb_1 := hSw.cell cmb_1 id; have ecmb_2 := hSw.cell cmb_2 id; have ecmb_3 := hSw.cell cmb_3 id; go_simp <;> with_reducible rfl)
  try simp only [Act.put, List.setIfInBounds_toArray, List.set_cons_zero, List.set_cons_succ]
  refine wpAnyH_take (i := 11) (oi := { dst := some 19, op := Go.Op.convert 3 23 (Go.Operand.tmp 18), type := 23, pos := "udp.go:75", after := #[{ on := 10, ground := Go.Ground.data }], guard := none }) (v := ?v10) rfl (by kernel_rfl) (by kernel_rfl) (by kernel_rfl) (fun _ _ _ h => h) (Or.inl ⟨by rfl, ?hy10⟩) (by assumption) ?rest10
  case hy10 => (intro w hSw; (try dsimp only at hSw); have ecmb_0 := hSw.cell cmb_0 id; have ecmb_1 := hSw.cell cmb_1 id; have ecmb_2 := hSw.cell cmb_2 id; have ecmb_3 := hSw.cell cmb_3 id; go_simp <;> with_reducible rfl)
  try simp only [Act.put, List.setIfInBounds_toArray, List.set_cons_zero, List.set_cons_succ]
  refine wpAnyH_take (i := 13) (oi := { dst := some 21, op := Go.Op.move (Go.Operand.tmp 1), type := 23, pos := "udp.go:75", after := #[], guard := none }) (v := ?v11) rfl (by kernel_rfl) (by kernel_rfl) (by kernel_rfl) (fun _ _ _ h => h) (Or.inl ⟨by rfl, ?hy11⟩) (by assumption) ?rest11
  case hy11 => (intro w hSw; (try dsimp only at hSw); have ecmb_0 := hSw.cell cmb_0 id; have ecmb_1 := hSw.cell cmb_1 id; have ecmb_2 := hSw.cell cmb_2 id; have ecmb_3 := hSw.cell cmb_3 id; go_simp <;> with_reducible rfl)
  try simp only [Act.put, List.setIfInBounds_toArray, List.set_cons_zero, List.set_cons_succ]
  refine wpAnyH_take (i := 15) (oi := { dst := some 23, op := Go.Op.fieldAddr 25 (Go.Operand.tmp 2) 3, type := 0, pos := "udp.go:75", after := #[], guard := none }) (v := ?v12) rfl (by kernel_rfl) (by kernel_rfl) (by kernel_rfl) (fun _ _ _ h => h) (Or.inl ⟨by rfl, ?hy12⟩) (by assumption) ?rest12
  case hy12 => (intro w hSw; (try dsimp only at hSw); have ecmb_0 := hSw.cell cmb_0 id; have ecmb_1 := hSw.cell cmb_1 id; have ecmb_2 := hSw.cell cmb_2 id; have ecmb_3 := hSw.cell cmb_3 id; go_simp <;> with_reducible rfl)
  try simp only [Act.put, List.setIfInBounds_toArray, List.set_cons_zero, List.set_cons_succ]
  refine wpAnyH_take (i := 16) (oi := { dst := some 24, op := Go.Op.load 22 (Go.Operand.tmp 23), type := 22, pos := "udp.go:75", after := #[{ on := 15, ground := Go.Ground.data }], guard := none }) (v := ?v13) rfl (by kernel_rfl) (by kernel_rfl) (by kernel_rfl) (fun _ _ _ h => h) (Or.inl ⟨by rfl, ?hy13⟩) (by assumption) ?rest13
  case hy13 => (intro w hSw; (try dsimp only at hSw); have ecmb_0 := hSw.cell cmb_0 id; have ecmb_1 := hSw.cell cmb_1 id; have ecmb_2 := hSw.cell cmb_2 id; have ecmb_3 := hSw.cell cmb_3 id; go_simp <;> with_reducible rfl)
  try simp only [Act.put, List.setIfInBounds_toArray, List.set_cons_zero, List.set_cons_succ]
  refine wpAnyH_ready (rs := [3]) (by kernel_rfl) (by simp) ?_
  refine AllReadyH.cons (o := { dst := some 11, op := Go.Op.call { callee := Go.Callee.value (Go.Operand.func 66), args := #[Go.Operand.tmp 8, Go.Operand.tmp 10], argTypes := #[120, 23] }, type := 120, pos := "udp.go:75", after := #[{ on := 0, ground := Go.Ground.data }, { on := 2, ground := Go.Ground.data }], guard := none }) rfl (fun K hK => ?_) AllReadyH.nil
  go_simp
  refine (wu16_any p q0 ([]) src _ (by omega) (by omega) HW0.out (by simp)).mono ?_
  rintro e w3 ⟨rfl, hw⟩
  obtain ⟨q1, h1, h2, h3⟩ := writer_step HQ0.out hS0.size hw
  have hS1 := hS0.andThen h3 (fun i hi e => by rcases e with e | e <;> omega)
  have HW1 := Lib.hid h1
  have HQ1 := Lib.hid h2
  clear h1 h2 h3 hw
  refine hK.out _ _ hS1 (fun _ => ?_)
  refine wpAnyH_ready (rs := [6]) (by kernel_rfl) (by simp) ?_
  refine AllReadyH.cons (o := { dst := some 14, op := Go.Op.call { callee := Go.Callee.value (Go.Operand.func 66), args := #[Go.Operand.tmp 11, Go.Operand.tmp 13], argTypes := #[120, 23] }, type := 120, pos := "udp.go:75", after := #[{ on := 3, ground := Go.Ground.data }, { on := 5, ground := Go.Ground.data }, { on := 3, ground := Go.Ground.chain }], guard := none }) rfl (fun K hK => ?_) AllReadyH.nil
  go_simp
  refine (wu16_any p q1 ([] ++ txt src 2) dst _ (by omega) (by omega) HW1.out (by simp [txt_len])).mono ?_
  rintro e w4 ⟨rfl, hw⟩
  obtain ⟨q2, h1, h2, h3⟩ := writer_step HQ1.out hS1.size hw
  have hS2 := hS1.andThen h3 (fun i hi e => by rcases e with e | e <;> omega)
  have HW2 := Lib.hid h1
  have HQ2 := Lib.hid h2
  clear h1 h2 h3 hw
  refine hK.out _ _ hS2 (fun _ => ?_)
  refine wpAnyH_ready (rs := [12]) (by kernel_rfl) (by simp) ?_
  refine AllReadyH.cons (o := { dst := some 20, op := Go.Op.call { callee := Go.Callee.value (Go.Operand.func 66), args := #[Go.Operand.tmp 14, Go.Operand.tmp 19], argTypes := #[120, 23] }, type := 120, pos := "udp.go:75", after := #[{ on := 6, ground := Go.Ground.data }, { on := 11, ground := Go.Ground.data }, { on := 6, ground := Go.Ground.chain }], guard := none }) rfl (fun K hK => ?_) AllReadyH.nil
  go_simp
  refine (wu16_any p q2 ([] ++ txt src 2 ++ txt dst 2) (8 + (b.length : Int)) _ (by omega) (by omega) HW2.out (by simp [txt_len])).mono ?_
  rintro e w5 ⟨rfl, hw⟩
  obtain ⟨q3, h1, h2, h3⟩ := writer_step HQ2.out hS2.size hw
  have hS3 := hS2.andThen h3 (fun i hi e => by rcases e with e | e <;> omega)
  have HW3 := Lib.hid h1
  have HQ3 := Lib.hid h2
  clear h1 h2 h3 hw
  refine hK.out _ _ hS3 (fun _ => ?_)
  refine wpAnyH_ready (rs := [14]) (by kernel_rfl) (by simp) ?_
  refine AllReadyH.cons (o := { dst := some 22, op := Go.Op.call { callee := Go.Callee.value (Go.Operand.func 66), args := #[Go.Operand.tmp 20, Go.Operand.tmp 21], argTypes := #[120, 23] }, type := 120, pos := "udp.go:75", after := #[{ on := 12, ground := Go.Ground.data }, { on := 13, ground := Go.Ground.data }, { on := 12, ground := Go.Ground.chain }], guard := none }) rfl (fun K hK => ?_) AllReadyH.nil
  go_simp
  refine (wu16_any p q3 ([] ++ txt src 2 ++ txt dst 2 ++ txt (8 + (b.length : Int)) 2) s _ (by omega) (by omega) HW3.out (by simp [txt_len])).mono ?_
  rintro e w6 ⟨rfl, hw⟩
  obtain ⟨q4, h1, h2, h3⟩ := writer_step HQ3.out hS3.size hw
  have hS4 := hS3.andThen h3 (fun i hi e => by rcases e with e | e <;> omega)
  have HW4 := Lib.hid h1
  have HQ4 := Lib.hid h2
  clear h1 h2 h3 hw
  refine hK.out _ _ hS4 (fun _ => ?_)
  refine wpAnyH_ready (rs := [17]) (by kernel_rfl) (by simp) ?_
  refine AllReadyH.cons (o := { dst := some 25, op := Go.Op.call { callee := Go.Callee.value (Go.Operand.func 67), args := #[Go.Operand.tmp 22, Go.Operand.tmp 24], argTypes := #[120, 22] }, type := 120, pos := "udp.go:75", after := #[{ on := 14, ground := Go.Ground.data }, { on := 16, ground := Go.Ground.data }, { on := 14, ground := Go.Ground.chain }], guard := none }) rfl (fun K hK => ?_) AllReadyH.nil
  go_simp
  refine (wbytes_any _ p q4 ([] ++ txt src 2 ++ txt dst 2 ++ txt (8 + (b.length : Int)) 2 ++ txt s 2) b _ _ HW4.out (HR1.out.keep hS4 (fun _ _ _ => id)) (by simp [txt_len]; omega)).mono ?_
  rintro e w7 ⟨rfl, hw⟩
  obtain ⟨q5, h1, h2, h3⟩ := writer_step HQ4.out hS4.size hw
  have hS5 := hS4.andThen h3 (fun i hi e => by rcases e with e | e <;> omega)
  have HW5 := Lib.hid h1
  have HQ5 := Lib.hid h2
  clear h1 h2 h3 hw
  refine hK.out _ _ hS5 (fun _ => ?_)
  refine wpAnyH_ready (rs := [18]) (by kernel_rfl) (by simp) ?_
  refine AllReadyH.cons (o := { dst := some 26, op := Go.Op.call { callee := Go.Callee.value (Go.Operand.func 68), args := #[Go.Operand.tmp 25], argTypes := #[120] }, type := 22, pos := "udp.go:75", after := #[{ on := 17, ground := Go.Ground.data }, { on := 17, ground := Go.Ground.chain }], guard := none }) rfl (fun K hK => ?_) AllReadyH.nil
  go_simp
  refine (wdone_any p q5 ([] ++ txt src 2 ++ txt dst 2 ++ txt (8 + (b.length : Int)) 2 ++ txt s 2 ++ b) _ HW5.out (by simp [txt_len]; omega)).mono ?_
  rintro e w13 ⟨A9, c9, rfl, ho, hx⟩
  rw [HLN.out] at ho
  rw [HLN.out]
  have HO := Lib.hid ho
  have hs12 := hS5.size
  have hS6 := hS5.trans hx
  clear ho hx
  refine hK.out _ _ hS6 (fun _ => ?_)
  refine wpAnyH_take (i := 19) (oi := { dst := some 4, op := Go.Op.assign (Go.Operand.tmp 26), type := 22, pos := "udp.go:75", after := #[{ on := 18, ground := Go.Ground.data }, { on := 18, ground := Go.Ground.chain }, { on := 0, ground := Go.Ground.phase }, { on := 1, ground := Go.Ground.phase }, { on := 2, ground := Go.Ground.phase }, { on := 3, ground := Go.Ground.phase }, { on := 4, ground := Go.Ground.phase }, { on := 5, ground := Go.Ground.phase }, { on := 6, ground := Go.Ground.phase }, { on := 7, ground := Go.Ground.phase }, { on := 8, ground := Go.Ground.phase }, { on := 9, ground := Go.Ground.phase }, { on := 10, ground := Go.Ground.phase }, { on := 11, ground := Go.Ground.phase }, { on := 12, ground := Go.Ground.phase }, { on := 13, ground := Go.Ground.phase }, { on := 14, ground := Go.Ground.phase }, { on := 15, ground := Go.Ground.phase }, { on := 16, ground := Go.Ground.phase }, { on := 17, ground := Go.Ground.phase }, { on := 18, ground := Go.Ground.phase }], guard := none }) (v := ?v14) rfl (by kernel_rfl) (by kernel_rfl) (by kernel_rfl) (fun _ _ _ h => h) (Or.inl ⟨by rfl, ?hy14⟩) (by assumption) ?rest14
  case hy14 => (intro w hSw; (try dsimp only at hSw); have ecmb_0 := hSw.cell cmb_0 id; have ecmb_1 := hSw.cell cmb_1 id; have ecmb_2 := hSw.cell cmb_2 id; have ecmb_3 := hSw.cell cmb_3 id; go_simp <;> with_reducible rfl)
  try simp only [Act.put, List.setIfInBounds_toArray, List.set_cons_zero, List.set_cons_succ]
  refine wpAnyH_done (by kernel_rfl) ?_ _
  have hl : ([] ++ txt src 2 ++ txt dst 2 ++ txt (8 + (b.length : Int)) 2 ++ txt s 2 ++ b) = (⟨src, dst, pl, b⟩ : Dg).hd s := rfl
  have ho := HO.out
  rw [hl] at ho
  have HO9 := Lib.hid (ho.mono (Nat.le_trans hsz hs12))
  have HX := Lib.hid (HX_w1.out.trans hS6)
  clear ho hl hw1 hw2 HW0 HQ0 HW1 HQ1 HW2 HQ2 HW3 HQ3 HW4 HQ4 HW5 HQ5 hS0 hS1 hS2 hS3 hS4 hS5 hS6 cmb_0 cmb_1 cmb_2 cmb_3
  go_wp2_with fail
  go_ret
  exact ⟨A9, c9, rfl, HO9.out, HX.out⟩
set_option maxRecDepth 100000 in
set_option maxHeartbeats 4000000 in
theorem dBytes_big (d : Dg) (s t : Int) (A : Option Addr) (c : Nat) (w : World) (hn : 65507 < d.b.length) (hn' : d.b.length ≤ 1000000) :
    Calls Tryd.prog 20 #[dgv d (.slice A d.b.length c), .int .u32 s, .int .u32 t] w fun e w' => ∃ v, e = .returned (.tuple #[.slice none 0 0, v]) ∧ EC w' (fun j => w.heap.size ≤ j) [lay6] v 7 ∧ Ex (fun _ => False) w w' := by
  have hb : (⟨#[117, 100, 112]⟩ : ByteArray) = bs lay6 := rfl
  obtain ⟨src, dst, pl, b⟩ := d
  simp only at hn hn' ⊢
  have hgt : (65515 : Int) < 8 + (b.length : Int) := by omega
  show Calls Tryd.prog 20 #[.agg #[.int .u16 src, .int .u16 dst, .bool pl, .slice A b.length c], .int .u32 s, .int .u32 t] w _
  go_enter Tryd.func20, Tryd.ntmps20
  go_upto_region 1 with fail
  have hx : Ex (fun _ => False) w (w.alloc (.cells #[.int .u16 src, .int .u16 dst, .bool pl, .slice A b.length c] 25)) := (Ex.refl _ w).alloc _
  have hb : (w.alloc (.cells #[.int .u16 src, .int .u16 dst, .bool pl, .slice A b.length c] 25)).heap[w.heap.size]? = some (.cells #[.int .u16 src, .int .u16 dst, .bool pl, .slice A b.length c] 25) := heap_alloc_new w _
  obtain ⟨mb_, hmb_⟩ : ∃ mb_, mb_ = w.heap.size := ⟨_, rfl⟩
  have hb_mb_ : w.heap.size ≤ mb_ := by omega
  rw [← hmb_] at hb
  try simp only [← hmb_]
  generalize w.alloc (.cells #[.int .u16 src, .int .u16 dst, .bool pl, .slice A b.length c] 25) = w1 at hx hb ⊢
  clear hmb_
  have HX_w1 := Lib.hid hx
  clear hx
  have B_mb_ := Lib.hid hb
  clear hb
  have cmb_3 := row_cell (k := 3) (v := .slice A b.length c) B_mb_.out rfl
  have hsz := HX_w1.out.size
  go_wp2_with fail
  refine (wrap_any lay6 _ _ _).mono ?_
  rintro e w2 ⟨rfl, hw⟩
  have hx : Ex (fun _ => False) w1 w2 := by rw [← hw]; exact (Ex.refl _ w1).alloc _
  have he : EC w2 (fun j => w.heap.size ≤ j) [lay6] (.iface 117 (.pointer (some ⟨w1.heap.size, 0, none⟩))) 7 := by rw [← hw]; exact EC.wrap (P := fun _ => False) (r := []) rfl hsz (fun _ h => h.elim) _
  clear hw cmb_3
  have HX_w2 := Lib.hid hx
  clear hx
  have HE := Lib.hid he
  clear he
  go_wp2_with fail
  go_ret2
  exact ⟨_, rfl, HE.out, (HX_w1.out.trans HX_w2.out)⟩
set_option maxRecDepth 100000 in
set_option maxHeartbeats 4000000 in
theorem dBytes_true (P : Nat → Prop) (src dst : Int) (b : List UInt8) (s t : Int) (A : Option Addr) (c : Nat) (w : World) (ok : (⟨src, dst, true, b⟩ : Dg).ok) (_hs : 0 ≤ s ∧ s < 4294967296) (_ht : 0 ≤ t ∧ t < 4294967296) (hr : RB w P (.slice A b.length c) b) (hn : b.length ≤ 65507) :
    Calls Tryd.prog 20 #[.agg #[.int .u16 src, .int .u16 dst, .bool true, .slice A b.length c], .int .u32 s, .int .u32 t] w fun e w' => ∃ A' c', e = .returned (.tuple #[.slice (some A') (8 + b.length) c', .nilIface]) ∧ OB w' w.heap.size (.slice (some A') (8 + b.length) c') (db (⟨src, dst, true, b⟩ : Dg) s t) ∧ Ex (fun _ => False) w w' := by
  have hng : ¬ (65515 : Int) < 8 + (b.length : Int) := by omega
  have hw1 : wrap64 (8 + (b.length : Int)) = 8 + (b.length : Int) := by unfold wrap64; omega
  have HR := Lib.hid hr
  have OK := Lib.hid ok
  clear hr ok
  have hdb : db (⟨src, dst, true, b⟩ : Dg) s t = (⟨src, dst, true, b⟩ : Dg).hd 0 := if_pos rfl
  rw [hdb]
  clear hdb
  go_enter Tryd.func20, Tryd.ntmps20
  go_upto_region 1 with fail
  have hx : Ex (fun _ => False) w (w.alloc (.cells #[.int .u16 src, .int .u16 dst, .bool true, .slice A b.length c] 25)) := (Ex.refl _ w).alloc _
  have hb : (w.alloc (.cells #[.int .u16 src, .int .u16 dst, .bool true, .slice A b.length c] 25)).heap[w.heap.size]? = some (.cells #[.int .u16 src, .int .u16 dst, .bool true, .slice A b.length c] 25) := heap_alloc_new w _
  obtain ⟨mb_, hmb_⟩ : ∃ mb_, mb_ = w.heap.size := ⟨_, rfl⟩
  have hb_mb_ : w.heap.size ≤ mb_ := by omega
  rw [← hmb_] at hb
  try simp only [← hmb_]
  generalize w.alloc (.cells #[.int .u16 src, .int .u16 dst, .bool true, .slice A b.length c] 25) = w1 at hx hb ⊢
  clear hmb_
  have HX_w1 := Lib.hid hx
  clear hx
  have B_mb_ := Lib.hid hb
  clear hb
  have cmb_0 := row_cell (k := 0) (v := .int .u16 src) B_mb_.out rfl
  have cmb_1 := row_cell (k := 1) (v := .int .u16 dst) B_mb_.out rfl
  have cmb_2 := row_cell (k := 2) (v := .bool true) B_mb_.out rfl
  have cmb_3 := row_cell (k := 3) (v := .slice A b.length c) B_mb_.out rfl
  have hsz := HX_w1.out.size
  go_wp2_with fail
  refine (show Calls Tryd.prog 48 _ _ (fun e w' => ∃ A' c', e = .returned (.slice (some A') (8 + b.length) c') ∧ OB w' w1.heap.size (.slice (some A') (8 + b.length) c') ((⟨src, dst, true, b⟩ : Dg).hd 0) ∧ Ex (fun _ => False) w1 w') from dbytes_any _ (⟨src, dst, true, b⟩ : Dg) 0 A c w1 OK.out (by omega) (RB.keep HR.out HX_w1.out (fun _ _ _ => id)) hn).mono ?_
  rintro e w2 ⟨A2, c2, rfl, ho, hx⟩
  have hov : OB w2 w1.heap.size (.slice (some A2) (8 + b.length) c2) ((⟨src, dst, true, b⟩ : Dg).hd 0) := ho
  clear ho
  have HX_w2 := Lib.hid hx
  clear hx
  have HO2 := Lib.hid hov
  clear hov cmb_0 cmb_1 cmb_2 cmb_3
  have cmb_2 := row_cell (k := 2) (v := .bool true) ((HX_w2.out.block mb_ (row_lt B_mb_.out) id).trans B_mb_.out) rfl
  go_wp2_with fail
  go_ret2
  exact ⟨A2, c2, rfl, HO2.out.mono hsz, (HX_w1.out.trans HX_w2.out)⟩
set_option maxRecDepth 100000 in
set_option maxHeartbeats 4000000 in
theorem dBytes_false (P : Nat → Prop) (src dst : Int) (b : List UInt8) (s t : Int) (A : Option Addr) (c : Nat) (w : World) (ok : (⟨src, dst, false, b⟩ : Dg).ok) (hs : 0 ≤ s ∧ s < 4294967296) (ht : 0 ≤ t ∧ t < 4294967296) (hr : RB w P (.slice A b.length c) b) (hn : b.length ≤ 65507) :
    Calls Tryd.prog 20 #[.agg #[.int .u16 src, .int .u16 dst, .bool false, .slice A b.length c], .int .u32 s, .int .u32 t] w fun e w' => ∃ A' c', e = .returned (.tuple #[.slice (some A') (8 + b.length) c', .nilIface]) ∧ OB w' w.heap.size (.slice (some A') (8 + b.length) c') (db (⟨src, dst, false, b⟩ : Dg) s t) ∧ Ex (fun _ => False) w w' := by
  have hng : ¬ (65515 : Int) < 8 + (b.length : Int) := by omega
  have hw1 : wrap64 (8 + (b.length : Int)) = 8 + (b.length : Int) := by unfold wrap64; omega
  have HR := Lib.hid hr
  have OK := Lib.hid ok
  clear hr ok
  have HS := Lib.hid hs
  have HT := Lib.hid ht
  clear hs ht
  have hdb : db (⟨src, dst, false, b⟩ : Dg) s t = (⟨src, dst, false, b⟩ : Dg).hd ((⟨src, dst, false, b⟩ : Dg).sum s t : Int) := if_neg (by simp)
  rw [hdb]
  have hhl0 := (⟨src, dst, false, b⟩ : Dg).hd_len 0
  have hraw : su (psd s t 17 (8 + (b.length : Int)) ++ (⟨src, dst, false, b⟩ : Dg).hd 0) = (⟨src, dst, false, b⟩ : Dg).raw s t := rfl
  have hsum : (⟨src, dst, false, b⟩ : Dg).sum s t = if (⟨src, dst, false, b⟩ : Dg).raw s t = 0 then 65535 else (⟨src, dst, false, b⟩ : Dg).raw s t := rfl
  have hrl := (⟨src, dst, false, b⟩ : Dg).raw_le s t
  obtain ⟨r0, hr0⟩ : ∃ r, r = (⟨src, dst, false, b⟩ : Dg).raw s t := ⟨_, rfl⟩
  obtain ⟨s1, hs1⟩ : ∃ r, r = (⟨src, dst, false, b⟩ : Dg).sum s t := ⟨_, rfl⟩
  rw [← hr0] at hraw hsum hrl
  rw [← hs1] at hsum ⊢
  obtain ⟨M0, hM0⟩ : ∃ l, l = (⟨src, dst, false, b⟩ : Dg).hd 0 := ⟨_, rfl⟩
  rw [← hM0] at hraw hhl0
  obtain ⟨PS, hPS⟩ : ∃ l, l = psd s t 17 (8 + (b.length : Int)) := ⟨_, rfl⟩
  have hpl : PS.length = 12 := by rw [hPS, psd_len]
  rw [← hPS] at hraw
  have HPS := Lib.hid hPS
  have HPL := Lib.hid hpl
  clear hPS hpl
  have HM0 := Lib.hid hM0
  have hhl : M0.length = 8 + b.length := hhl0
  have HRAW := Lib.hid hraw
  have HSUM := Lib.hid hsum
  have HHL := Lib.hid hhl
  have HRLE := Lib.hid hrl
  clear hdb hraw hsum hr0 hs1 hM0 hhl hhl0 hrl
  go_enter Tryd.func20, Tryd.ntmps20
  go_upto_region 1 with fail
  have hx : Ex (fun _ => False) w (w.alloc (.cells #[.int .u16 src, .int .u16 dst, .bool false, .slice A b.length c] 25)) := (Ex.refl _ w).alloc _
  have hb : (w.alloc (.cells #[.int .u16 src, .int .u16 dst, .bool false, .slice A b.length c] 25)).heap[w.heap.size]? = some (.cells #[.int .u16 src, .int .u16 dst, .bool false, .slice A b.length c] 25) := heap_alloc_new w _
  obtain ⟨mb_, hmb_⟩ : ∃ mb_, mb_ = w.heap.size := ⟨_, rfl⟩
  have hb_mb_ : w.heap.size ≤ mb_ := by omega
  rw [← hmb_] at hb
  try simp only [← hmb_]
  generalize w.alloc (.cells #[.int .u16 src, .int .u16 dst, .bool false, .slice A b.length c] 25) = w1 at hx hb ⊢
  clear hmb_
  have HX_w1 := Lib.hid hx
  clear hx
  have B_mb_ := Lib.hid hb
  clear hb
  have cmb_0 := row_cell (k := 0) (v := .int .u16 src) B_mb_.out rfl
  have cmb_1 := row_cell (k := 1) (v := .int .u16 dst) B_mb_.out rfl
  have cmb_2 := row_cell (k := 2) (v := .bool false) B_mb_.out rfl
  have cmb_3 := row_cell (k := 3) (v := .slice A b.length c) B_mb_.out rfl
  have hsz := HX_w1.out.size
  go_wp2_with fail
  refine (show Calls Tryd.prog 48 _ _ (fun e w' => ∃ A' c', e = .returned (.slice (some A') (8 + b.length) c') ∧ OB w' w1.heap.size (.slice (some A') (8 + b.length) c') ((⟨src, dst, false, b⟩ : Dg).hd 0) ∧ Ex (fun _ => False) w1 w') from dbytes_any _ (⟨src, dst, false, b⟩ : Dg) 0 A c w1 OK.out (by omega) (RB.keep HR.out HX_w1.out (fun _ _ _ => id)) hn).mono ?_
  rintro e w2 ⟨A2, c2, rfl, ho, hx⟩
  have hov : OB w2 w1.heap.size (.slice (some A2) (8 + b.length) c2) ((⟨src, dst, false, b⟩ : Dg).hd 0) := ho
  clear ho
  have HX_w2 := Lib.hid hx
  clear hx
  have HO2 := Lib.hid hov
  clear hov cmb_0 cmb_1 cmb_2 cmb_3
  have cmb_2 := row_cell (k := 2) (v := .bool false) ((HX_w2.out.block mb_ (row_lt B_mb_.out) id).trans B_mb_.out) rfl
  go_wp2_with fail
  refine (pseudo_any s t 17 (8 + (b.length : Int)) HS.out HT.out (by omega) (by omega) w2).mono ?_
  rintro e w3 ⟨v3, rfl, ho, hx⟩
  rw [← HPS.out] at ho
  obtain ⟨A3, c3, rfl⟩ := ho.shape
  clear cmb_2
  have HX_w3 := Lib.hid hx
  clear hx
  have HO3 := Lib.hid ho
  clear ho
  replace HO2 := Lib.hid (OB.keep HO2.out HX_w3.out (fun _ _ _ _ => id))
  have ho2 : OB w3 w1.heap.size (.slice (some A2) (8 + b.length) c2) M0 := by rw [HM0.out]; exact HO2.out
  have HP2 := Lib.hid (RB.any ho2.rb)
  have HP3 := Lib.hid (RB.any HO3.out.rb)
  clear ho2
  go_wp2_with fail
  refine (sum2_any _ (.slice A3 PS.length c3) (.slice (some A2) (8 + b.length) c2) PS M0 w3 _ _ (by simp) HP3.out HP2.out (by rw [HPL.out, HHL.out]; omega)).mono ?_
  rintro e w4 ⟨rfl, hw4⟩
  have hx : Ex (fun _ => False) w3 w4 := by rw [← hw4]; exact (Ex.refl _ w3).alloc _
  clear hw4
  rw [HRAW.out]
  have HX_w4 := Lib.hid hx
  clear hx
  replace B_mb_ := Lib.hid ((((HX_w2.out.trans HX_w3.out).trans HX_w4.out).block mb_ (row_lt B_mb_.out) id).trans B_mb_.out)
  replace HR := Lib.hid (RB.keep HR.out (((HX_w1.out.trans HX_w2.out).trans HX_w3.out).trans HX_w4.out) (fun _ _ _ => id))
  by_cases hz : r0 = 0
  ·
    have cmb_0 := row_cell (k := 0) (v := .int .u16 src) B_mb_.out rfl
    have cmb_1 := row_cell (k := 1) (v := .int .u16 dst) B_mb_.out rfl
    have cmb_2 := row_cell (k := 2) (v := .bool false) B_mb_.out rfl
    have cmb_3 := row_cell (k := 3) (v := .slice A b.length c) B_mb_.out rfl
    have hs1 : s1 = 65535 := by rw [HSUM.out, if_pos hz]
    have hzb : ((r0 : Int) == 0) = true := by rw [hz]; rfl
    have hn16 := not_16 0 (by omega)
    have hs1i : (s1 : Int) = 65535 := by rw [hs1]; rfl
    have HS1 := Lib.hid hs1i
    clear hs1 hs1i
    subst hz
    go_wp2_with fail
    refine (show Calls Tryd.prog 48 _ _ (fun e w' => ∃ A' c', e = .returned (.slice (some A') (8 + b.length) c') ∧ OB w' w4.heap.size (.slice (some A') (8 + b.length) c') ((⟨src, dst, false, b⟩ : Dg).hd 65535) ∧ Ex (fun _ => False) w4 w') from dbytes_any _ (⟨src, dst, false, b⟩ : Dg) 65535 A c w4 OK.out (by have := HRLE.out; omega) HR.out hn).mono ?_
    rintro e w5 ⟨A5, c5, rfl, ho, hx⟩
    have hov : OB w5 w4.heap.size (.slice (some A5) (8 + b.length) c5) ((⟨src, dst, false, b⟩ : Dg).hd 65535) := ho
    have HO5 := Lib.hid hov
    have hz04 := (((HX_w1.out.trans HX_w2.out).trans HX_w3.out).trans HX_w4.out).size
    clear ho hov cmb_0 cmb_1 cmb_2 cmb_3
    have HX_w5 := Lib.hid hx
    clear hx
    go_wp2_with fail
    go_ret2
    exact ⟨A5, c5, rfl, by rw [HS1.out]; exact HO5.out.mono hz04, ((((HX_w1.out.trans HX_w2.out).trans HX_w3.out).trans HX_w4.out).trans HX_w5.out)⟩
  ·
    have cmb_0 := row_cell (k := 0) (v := .int .u16 src) B_mb_.out rfl
    have cmb_1 := row_cell (k := 1) (v := .int .u16 dst) B_mb_.out rfl
    have cmb_2 := row_cell (k := 2) (v := .bool false) B_mb_.out rfl
    have cmb_3 := row_cell (k := 3) (v := .slice A b.length c) B_mb_.out rfl
    have hs1 : s1 = r0 := by rw [HSUM.out, if_neg hz]
    have hzb : ((r0 : Int) == 0) = false := by rw [beq_eq_false_iff_ne]; omega

    have hs1i : (s1 : Int) = (r0 : Int) := by rw [hs1]
    have HS1 := Lib.hid hs1i
    clear hs1 hs1i
    clear hz
    go_wp2_with fail
    refine (show Calls Tryd.prog 48 _ _ (fun e w' => ∃ A' c', e = .returned (.slice (some A') (8 + b.length) c') ∧ OB w' w4.heap.size (.slice (some A') (8 + b.length) c') ((⟨src, dst, false, b⟩ : Dg).hd (r0 : Int)) ∧ Ex (fun _ => False) w4 w') from dbytes_any _ (⟨src, dst, false, b⟩ : Dg) (r0 : Int) A c w4 OK.out (by have := HRLE.out; omega) HR.out hn).mono ?_
    rintro e w5 ⟨A5, c5, rfl, ho, hx⟩
    have hov : OB w5 w4.heap.size (.slice (some A5) (8 + b.length) c5) ((⟨src, dst, false, b⟩ : Dg).hd (r0 : Int)) := ho
    have HO5 := Lib.hid hov
    have hz04 := (((HX_w1.out.trans HX_w2.out).trans HX_w3.out).trans HX_w4.out).size
    clear ho hov cmb_0 cmb_1 cmb_2 cmb_3
    have HX_w5 := Lib.hid hx
    clear hx
    go_wp2_with fail
    go_ret2
    exact ⟨A5, c5, rfl, by rw [HS1.out]; exact HO5.out.mono hz04, ((((HX_w1.out.trans HX_w2.out).trans HX_w3.out).trans HX_w4.out).trans HX_w5.out)⟩
theorem dBytes_ok (P : Nat → Prop) (d : Dg) (s t : Int) (A : Option Addr) (c : Nat) (w : World) (ok : d.ok) (hs : 0 ≤ s ∧ s < 4294967296) (ht : 0 ≤ t ∧ t < 4294967296) (hr : RB w P (.slice A d.b.length c) d.b) (hn : d.b.length ≤ 65507) :
    Calls Tryd.prog 20 #[dgv d (.slice A d.b.length c), .int .u32 s, .int .u32 t] w fun e w' => ∃ A' c', e = .returned (.tuple #[.slice (some A') (8 + d.b.length) c', .nilIface]) ∧ OB w' w.heap.size (.slice (some A') (8 + d.b.length) c') (db d s t) ∧ Ex (fun _ => False) w w' := by
  obtain ⟨src, dst, pl, b⟩ := d
  cases pl
  · exact dBytes_false P src dst b s t A c w ok hs ht hr hn
  · exact dBytes_true P src dst b s t A c w ok hs ht hr hn
end Go.Proofs.YtfcfpkhcpijkfaaDoor
