/-
  The contracts of the reference of layer 6: text, Bytes. By an AI agent.
-/
import Derived.Test.YtfcfpkhcpijkfaaDoorOf06
import Derived.Test.YtfcfpkhcpijkfaaDoorRef01
import Derived.Test.YtfcfpkhcpijkfaaDoorRefSum2
import Derived.IntWalk
namespace Go.Proofs.YtfcfpkhcpijkfaaDoor
open Go.RowKit

theorem four_txt6 (x : Int) : four x = txt x 4 := by
  have e1 : x / 256 / 256 = x / 65536 := by omega
  have e2 : x / 65536 / 256 = x / 16777216 := by omega
  simp only [four, txt, e1, e2]
  rfl
theorem psd_txt6 (s d p n : Int) (hp : 0 ≤ p ∧ p < 256) : psd s d p n = txt s 4 ++ txt d 4 ++ txt p 2 ++ txt (n % 65536) 2 := by
  have e0 : by8 (p / 256) = 0 := by rw [show p / 256 = 0 by omega]; rfl
  have e1 : by8 (n % 65536) = by8 n := by unfold by8; congr 1; omega
  have e2 : by8 (n % 65536 / 256) = by8 (n / 256) := by unfold by8; congr 1; omega
  simp [psd, four_txt6, txt, e0, e1, e2]
theorem ty67 : bs (etx [lay6] 7) = ⟨#[117, 100, 112, 58, 32, 101, 114, 114, 111, 114, 32, 55]⟩ := by decide
set_option maxRecDepth 100000 in
set_option maxHeartbeats 4000000 in
theorem rtext6_any (d : Dg) (s : Int) (w : World) (ok : d.ok) (hs : 0 ≤ s ∧ s ≤ 65535) (hn : d.b.length ≤ 1000000) :
    Calls Tryd.prog 50 #[rdv d, .int .u32 s] w fun e w' => e = .returned (.string (bs (d.hd s))) ∧ Ex (fun _ => False) w w' := by
  obtain ⟨src, dst, pl, b⟩ := d
  obtain ⟨⟨o00, o01⟩, ⟨o10, o11⟩⟩ := ok
  obtain ⟨s0, s1⟩ := hs
  simp only at o00 o01 o10 o11 hn
  have hl : (⟨src, dst, pl, b⟩ : Dg).hd s = txt src 2 ++ (txt dst 2 ++ (txt (8 + (b.length : Int)) 2 ++ (txt s 2 ++ b))) := rfl
  rw [hl]
  clear hl
  have a1 := bs_append (txt src 2) (txt dst 2)
  have a2 := bs_append (txt src 2 ++ txt dst 2) (txt (8 + (b.length : Int)) 2)
  have a3 := bs_append (txt src 2 ++ (txt dst 2 ++ txt (8 + (b.length : Int)) 2)) (txt s 2)
  have a4 := bs_append (txt src 2 ++ (txt dst 2 ++ (txt (8 + (b.length : Int)) 2 ++ txt s 2))) b
  simp only [List.append_assoc] at a2 a3 a4
  have z0 := bs_size b
  have hw1 : IntKind.i64.wrap (8 + (b.length : Int)) = 8 + (b.length : Int) := by rw [IntKind.wrap_i64]; omega
  have hw2 : IntKind.u32.wrap (8 + (b.length : Int)) = 8 + (b.length : Int) := by rw [IntKind.wrap_u32]; omega
  have y1 : (bs (txt src 2)).size = 2 := by rw [bs_size, txt_len]
  have y2 : (bs (txt dst 2)).size = 2 := by rw [bs_size, txt_len]
  have y3 : (bs (txt (8 + (b.length : Int)) 2)).size = 2 := by rw [bs_size, txt_len]
  have y4 : (bs (txt s 2)).size = 2 := by rw [bs_size, txt_len]
  obtain ⟨t1, ht1⟩ : ∃ t, t = txt src 2 := ⟨_, rfl⟩
  obtain ⟨t2, ht2⟩ : ∃ t, t = txt dst 2 := ⟨_, rfl⟩
  obtain ⟨t3, ht3⟩ : ∃ t, t = txt (8 + (b.length : Int)) 2 := ⟨_, rfl⟩
  obtain ⟨t4, ht4⟩ : ∃ t, t = txt s 2 := ⟨_, rfl⟩
  have HT1 := Lib.hid ht1
  have HT2 := Lib.hid ht2
  have HT3 := Lib.hid ht3
  have HT4 := Lib.hid ht4
  rw [← ht1] at a1 a2 a3 a4 y1 ⊢
  rw [← ht2] at a1 a2 a3 a4 y2 ⊢
  rw [← ht3] at a2 a3 a4 y3 ⊢
  rw [← ht4] at a3 a4 y4 ⊢
  have y5 : (bs (t1 ++ t2)).size = 4 := by rw [bs_size, List.length_append, ← bs_size t1, ← bs_size t2, y1, y2]
  have y6 : (bs (t1 ++ (t2 ++ t3))).size = 6 := by rw [bs_size, List.length_append, List.length_append, ← bs_size t1, ← bs_size t2, ← bs_size t3, y1, y2, y3]
  have y7 : (bs (t1 ++ (t2 ++ (t3 ++ t4)))).size = 8 := by rw [bs_size, List.length_append, List.length_append, List.length_append, ← bs_size t1, ← bs_size t2, ← bs_size t3, ← bs_size t4, y1, y2, y3, y4]
  have el : ¬ 9223372036854775807 < 8 + b.length := by omega
  clear ht1 ht2 ht3 ht4
  show Calls Tryd.prog 50 #[.agg #[.int .u32 src, .int .u32 dst, .bool pl, .string (bs b)], .int .u32 s] w _
  go_enter Tryd.func50, Tryd.ntmps50
  go_upto_region 1 with fail
  have hx : Ex (fun _ => False) w (w.alloc (.cells #[.int .u32 src, .int .u32 dst, .bool pl, .string (bs b)] 34)) := (Ex.refl _ w).alloc _
  have hb : (w.alloc (.cells #[.int .u32 src, .int .u32 dst, .bool pl, .string (bs b)] 34)).heap[w.heap.size]? = some (.cells #[.int .u32 src, .int .u32 dst, .bool pl, .string (bs b)] 34) := heap_alloc_new w _
  obtain ⟨rb, hrb⟩ : ∃ rb, rb = w.heap.size := ⟨_, rfl⟩
  have hb_rb : w.heap.size ≤ rb := by omega
  rw [← hrb] at hb
  try simp only [← hrb]
  generalize w.alloc (.cells #[.int .u32 src, .int .u32 dst, .bool pl, .string (bs b)] 34) = w1 at hx hb ⊢
  clear hrb
  have HX_w1 := Lib.hid hx
  clear hx
  have B_rb := Lib.hid hb
  clear hb
  have crb0 := row_cell (k := 0) (v := .int .u32 src) B_rb.out rfl
  have crb1 := row_cell (k := 1) (v := .int .u32 dst) B_rb.out rfl
  have crb2 := row_cell (k := 2) (v := .bool pl) B_rb.out rfl
  have crb3 := row_cell (k := 3) (v := .string (bs b)) B_rb.out rfl
  have hS0 : Ex (fun _ => False) w1 w1.drew := (Ex.refl _ w1).drew
  refine wp_region_held_drew (S := fun W => Ex (fun _ => False) w1 W) (by kernel_rfl) hS0 (fun _ => ?_)
  refine wpAnyH_take (i := 0) (oi := { dst := some 5, op := Go.Op.fieldAddr 34 (Go.Operand.tmp 2) 0, type := 0, pos := "ref.go:18", after := #[], guard := none }) (v := ?v1) rfl (by kernel_rfl) (by kernel_rfl) (by kernel_rfl) (fun _ _ _ h => h) (Or.inl ⟨by rfl, ?hy1⟩) (by assumption) ?rest1
  case hy1 => (intro w hSw; (try dsimp only at hSw); have ecrb0 := hSw.cell crb0 id; have ecrb1 := hSw.cell crb1 id; have ecrb2 := hSw.cell crb2 id; have ecrb3 := hSw.cell crb3 id; go_simp <;> with_reducible rfl)
  try simp only [Act.put, List.setIfInBounds_toArray, List.set_cons_zero, List.set_cons_succ]
  refine wpAnyH_take (i := 1) (oi := { dst := some 6, op := Go.Op.load 26 (Go.Operand.tmp 5), type := 26, pos := "ref.go:18", after := #[{ on := 0, ground := Go.Ground.data }], guard := none }) (v := ?v2) rfl (by kernel_rfl) (by kernel_rfl) (by kernel_rfl) (fun _ _ _ h => h) (Or.inl ⟨by rfl, ?hy2⟩) (by assumption) ?rest2
  case hy2 => (intro w hSw; (try dsimp only at hSw); have ecrb0 := hSw.cell crb0 id; have ecrb1 := hSw.cell crb1 id; have ecrb2 := hSw.cell crb2 id; have ecrb3 := hSw.cell crb3 id; go_simp <;> with_reducible rfl)
  try simp only [Act.put, List.setIfInBounds_toArray, List.set_cons_zero, List.set_cons_succ]
  refine wpAnyH_take (i := 3) (oi := { dst := some 8, op := Go.Op.fieldAddr 34 (Go.Operand.tmp 2) 1, type := 0, pos := "ref.go:18", after := #[], guard := none }) (v := ?v3) rfl (by kernel_rfl) (by kernel_rfl) (by kernel_rfl) (fun _ _ _ h => h) (Or.inl ⟨by rfl, ?hy3⟩) (by assumption) ?rest3
  case hy3 => (intro w hSw; (try dsimp only at hSw); have ecrb0 := hSw.cell crb0 id; have ecrb1 := hSw.cell crb1 id; have ecrb2 := hSw.cell crb2 id; have ecrb3 := hSw.cell crb3 id; go_simp <;> with_reducible rfl)
  try simp only [Act.put, List.setIfInBounds_toArray, List.set_cons_zero, List.set_cons_succ]
  refine wpAnyH_take (i := 4) (oi := { dst := some 9, op := Go.Op.load 26 (Go.Operand.tmp 8), type := 26, pos := "ref.go:18", after := #[{ on := 3, ground := Go.Ground.data }], guard := none }) (v := ?v4) rfl (by kernel_rfl) (by kernel_rfl) (by kernel_rfl) (fun _ _ _ h => h) (Or.inl ⟨by rfl, ?hy4⟩) (by assumption) ?rest4
  case hy4 => (intro w hSw; (try dsimp only at hSw); have ecrb0 := hSw.cell crb0 id; have ecrb1 := hSw.cell crb1 id; have ecrb2 := hSw.cell crb2 id; have ecrb3 := hSw.cell crb3 id; go_simp <;> with_reducible rfl)
  try simp only [Act.put, List.setIfInBounds_toArray, List.set_cons_zero, List.set_cons_succ]
  refine wpAnyH_take (i := 7) (oi := { dst := some 12, op := Go.Op.fieldAddr 34 (Go.Operand.tmp 2) 3, type := 0, pos := "ref.go:18", after := #[], guard := none }) (v := ?v5) rfl (by kernel_rfl) (by kernel_rfl) (by kernel_rfl) (fun _ _ _ h => h) (Or.inl ⟨by rfl, ?hy5⟩) (by assumption) ?rest5
  case hy5 => (intro w hSw; (try dsimp only at hSw); have ecrb0 := hSw.cell crb0 id; have ecrb1 := hSw.cell crb1 id; have ecrb2 := hSw.cell crb2 id; have ecrb3 := hSw.cell crb3 id; go_simp <;> with_reducible rfl)
  try simp only [Act.put, List.setIfInBounds_toArray, List.set_cons_zero, List.set_cons_succ]
  refine wpAnyH_take (i := 8) (oi := { dst := some 13, op := Go.Op.load 9 (Go.Operand.tmp 12), type := 9, pos := "ref.go:18", after := #[{ on := 7, ground := Go.Ground.data }], guard := none }) (v := ?v6) rfl (by kernel_rfl) (by kernel_rfl) (by kernel_rfl) (fun _ _ _ h => h) (Or.inl ⟨by rfl, ?hy6⟩) (by assumption) ?rest6
  case hy6 => (intro w hSw; (try dsimp only at hSw); have ecrb0 := hSw.cell crb0 id; have ecrb1 := hSw.cell crb1 id; have ecrb2 := hSw.cell crb2 id; have ecrb3 := hSw.cell crb3 id; go_simp <;> with_reducible rfl)
  try simp only [Act.put, List.setIfInBounds_toArray, List.set_cons_zero, List.set_cons_succ]
  refine wpAnyH_take (i := 9) (oi := { dst := some 14, op := Go.Op.call { callee := Go.Callee.builtin Go.Builtin.len, args := #[Go.Operand.tmp 13], argTypes := #[9] }, type := 3, pos := "ref.go:18", after := #[{ on := 8, ground := Go.Ground.data }], guard := none }) (v := ?v7) rfl (by kernel_rfl) (by kernel_rfl) (by kernel_rfl) (fun _ _ _ h => h) (Or.inl ⟨by rfl, ?hy7⟩) (by assumption) ?rest7
  case hy7 => (intro w hSw; (try dsimp only at hSw); have ecrb0 := hSw.cell crb0 id; have ecrb1 := hSw.cell crb1 id; have ecrb2 := hSw.cell crb2 id; have ecrb3 := hSw.cell crb3 id; go_simp <;> with_reducible rfl)
  try simp only [Act.put, List.setIfInBounds_toArray, List.set_cons_zero, List.set_cons_succ]
  refine wpAnyH_take (i := 10) (oi := { dst := some 15, op := Go.Op.binOp Go.BinOp.add 3 (Go.Operand.const (Go.Value.int Go.IntKind.i64 8)) (Go.Operand.tmp 14) 3, type := 3, pos := "ref.go:18", after := #[{ on := 9, ground := Go.Ground.data }], guard := none }) (v := ?v8) rfl (by kernel_rfl) (by kernel_rfl) (by kernel_rfl) (fun _ _ _ h => h) (Or.inl ⟨by rfl, ?hy8⟩) (by assumption) ?rest8
  case hy8 => (intro w hSw; (try dsimp only at hSw); have ecrb0 := hSw.cell crb0 id; have ecrb1 := hSw.cell crb1 id; have ecrb2 := hSw.cell crb2 id; have ecrb3 := hSw.cell crb3 id; go_simp <;> with_reducible rfl)
  try simp only [Act.put, List.setIfInBounds_toArray, List.set_cons_zero, List.set_cons_succ]
  refine wpAnyH_take (i := 11) (oi := { dst := some 16, op := Go.Op.convert 3 26 (Go.Operand.tmp 15), type := 26, pos := "ref.go:18", after := #[{ on := 10, ground := Go.Ground.data }], guard := none }) (v := ?v9) rfl (by kernel_rfl) (by kernel_rfl) (by kernel_rfl) (fun _ _ _ h => h) (Or.inl ⟨by rfl, ?hy9⟩) (by assumption) ?rest9
  case hy9 => (intro w hSw; (try dsimp only at hSw); have ecrb0 := hSw.cell crb0 id; have ecrb1 := hSw.cell crb1 id; have ecrb2 := hSw.cell crb2 id; have ecrb3 := hSw.cell crb3 id; go_simp <;> with_reducible rfl)
  try simp only [Act.put, List.setIfInBounds_toArray, List.set_cons_zero, List.set_cons_succ]
  refine wpAnyH_take (i := 14) (oi := { dst := some 19, op := Go.Op.move (Go.Operand.tmp 1), type := 26, pos := "ref.go:18", after := #[], guard := none }) (v := ?v10) rfl (by kernel_rfl) (by kernel_rfl) (by kernel_rfl) (fun _ _ _ h => h) (Or.inl ⟨by rfl, ?hy10⟩) (by assumption) ?rest10
  case hy10 => (intro w hSw; (try dsimp only at hSw); have ecrb0 := hSw.cell crb0 id; have ecrb1 := hSw.cell crb1 id; have ecrb2 := hSw.cell crb2 id; have ecrb3 := hSw.cell crb3 id; go_simp <;> with_reducible rfl)
  try simp only [Act.put, List.setIfInBounds_toArray, List.set_cons_zero, List.set_cons_succ]
  refine wpAnyH_take (i := 17) (oi := { dst := some 22, op := Go.Op.fieldAddr 34 (Go.Operand.tmp 2) 3, type := 0, pos := "ref.go:18", after := #[], guard := none }) (v := ?v11) rfl (by kernel_rfl) (by kernel_rfl) (by kernel_rfl) (fun _ _ _ h => h) (Or.inl ⟨by rfl, ?hy11⟩) (by assumption) ?rest11
  case hy11 => (intro w hSw; (try dsimp only at hSw); have ecrb0 := hSw.cell crb0 id; have ecrb1 := hSw.cell crb1 id; have ecrb2 := hSw.cell crb2 id; have ecrb3 := hSw.cell crb3 id; go_simp <;> with_reducible rfl)
  try simp only [Act.put, List.setIfInBounds_toArray, List.set_cons_zero, List.set_cons_succ]
  refine wpAnyH_take (i := 18) (oi := { dst := some 23, op := Go.Op.load 9 (Go.Operand.tmp 22), type := 9, pos := "ref.go:18", after := #[{ on := 17, ground := Go.Ground.data }], guard := none }) (v := ?v12) rfl (by kernel_rfl) (by kernel_rfl) (by kernel_rfl) (fun _ _ _ h => h) (Or.inl ⟨by rfl, ?hy12⟩) (by assumption) ?rest12
  case hy12 => (intro w hSw; (try dsimp only at hSw); have ecrb0 := hSw.cell crb0 id; have ecrb1 := hSw.cell crb1 id; have ecrb2 := hSw.cell crb2 id; have ecrb3 := hSw.cell crb3 id; go_simp <;> with_reducible rfl)
  try simp only [Act.put, List.setIfInBounds_toArray, List.set_cons_zero, List.set_cons_succ]
  refine wpAnyH_ready (rs := [2]) (by kernel_rfl) (by simp) ?_
  refine AllReadyH.cons (o := { dst := some 7, op := Go.Op.call { callee := Go.Callee.value (Go.Operand.func 65), args := #[Go.Operand.tmp 6, Go.Operand.const (Go.Value.int Go.IntKind.i64 2)], argTypes := #[26, 3] }, type := 9, pos := "ref.go:18", after := #[{ on := 1, ground := Go.Ground.data }], guard := none }) rfl (fun K hK => ?_) AllReadyH.nil
  go_simp
  refine (text_any src 2 (by omega) (by omega) (by omega) _).mono ?_
  rintro e w2 ⟨rfl, hx⟩
  rw [← HT1.out]
  have hS1 := hS0.trans hx
  clear hx
  refine hK.out _ _ hS1 (fun _ => ?_)
  refine wpAnyH_ready (rs := [5]) (by kernel_rfl) (by simp) ?_
  refine AllReadyH.cons (o := { dst := some 10, op := Go.Op.call { callee := Go.Callee.value (Go.Operand.func 65), args := #[Go.Operand.tmp 9, Go.Operand.const (Go.Value.int Go.IntKind.i64 2)], argTypes := #[26, 3] }, type := 9, pos := "ref.go:18", after := #[{ on := 4, ground := Go.Ground.data }, { on := 2, ground := Go.Ground.chain }], guard := none }) rfl (fun K hK => ?_) AllReadyH.nil
  go_simp
  refine (text_any dst 2 (by omega) (by omega) (by omega) _).mono ?_
  rintro e w3 ⟨rfl, hx⟩
  rw [← HT2.out]
  have hS2 := hS1.trans hx
  clear hx
  refine hK.out _ _ hS2 (fun _ => ?_)
  refine wpAnyH_take (i := 6) (oi := { dst := some 11, op := Go.Op.binOp Go.BinOp.add 9 (Go.Operand.tmp 7) (Go.Operand.tmp 10) 9, type := 9, pos := "ref.go:18", after := #[{ on := 2, ground := Go.Ground.data }, { on := 5, ground := Go.Ground.data }], guard := none }) (v := ?v13) rfl (by kernel_rfl) (by kernel_rfl) (by kernel_rfl) (fun _ _ _ h => h) (Or.inl ⟨by rfl, ?hy13⟩) (by assumption) ?rest13
  case hy13 => (intro w hSw; (try dsimp only at hSw); have ecrb0 := hSw.cell crb0 id; have ecrb1 := hSw.cell crb1 id; have ecrb2 := hSw.cell crb2 id; have ecrb3 := hSw.cell crb3 id; go_simp <;> with_reducible rfl)
  try simp only [Act.put, List.setIfInBounds_toArray, List.set_cons_zero, List.set_cons_succ]
  refine wpAnyH_ready (rs := [12]) (by kernel_rfl) (by simp) ?_
  refine AllReadyH.cons (o := { dst := some 17, op := Go.Op.call { callee := Go.Callee.value (Go.Operand.func 65), args := #[Go.Operand.tmp 16, Go.Operand.const (Go.Value.int Go.IntKind.i64 2)], argTypes := #[26, 3] }, type := 9, pos := "ref.go:18", after := #[{ on := 11, ground := Go.Ground.data }, { on := 5, ground := Go.Ground.chain }], guard := none }) rfl (fun K hK => ?_) AllReadyH.nil
  go_simp
  refine (text_any (8 + (b.length : Int)) 2 (by omega) (by omega) (by omega) _).mono ?_
  rintro e w4 ⟨rfl, hx⟩
  rw [← HT3.out]
  have hS3 := hS2.trans hx
  clear hx
  refine hK.out _ _ hS3 (fun _ => ?_)
  refine wpAnyH_take (i := 13) (oi := { dst := some 18, op := Go.Op.binOp Go.BinOp.add 9 (Go.Operand.tmp 11) (Go.Operand.tmp 17) 9, type := 9, pos := "ref.go:18", after := #[{ on := 6, ground := Go.Ground.data }, { on := 12, ground := Go.Ground.data }], guard := none }) (v := ?v14) rfl (by kernel_rfl) (by kernel_rfl) (by kernel_rfl) (fun _ _ _ h => h) (Or.inl ⟨by rfl, ?hy14⟩) (by assumption) ?rest14
  case hy14 => (intro w hSw; (try dsimp only at hSw); have ecrb0 := hSw.cell crb0 id; have ecrb1 := hSw.cell crb1 id; have ecrb2 := hSw.cell crb2 id; have ecrb3 := hSw.cell crb3 id; go_simp <;> with_reducible rfl)
  try simp only [Act.put, List.setIfInBounds_toArray, List.set_cons_zero, List.set_cons_succ]
  refine wpAnyH_ready (rs := [15]) (by kernel_rfl) (by simp) ?_
  refine AllReadyH.cons (o := { dst := some 20, op := Go.Op.call { callee := Go.Callee.value (Go.Operand.func 65), args := #[Go.Operand.tmp 19, Go.Operand.const (Go.Value.int Go.IntKind.i64 2)], argTypes := #[26, 3] }, type := 9, pos := "ref.go:18", after := #[{ on := 14, ground := Go.Ground.data }, { on := 12, ground := Go.Ground.chain }], guard := none }) rfl (fun K hK => ?_) AllReadyH.nil
  go_simp
  refine (text_any s 2 (by omega) (by omega) (by omega) _).mono ?_
  rintro e w5 ⟨rfl, hx⟩
  rw [← HT4.out]
  have hS4 := hS3.trans hx
  clear hx
  refine hK.out _ _ hS4 (fun _ => ?_)
  refine wpAnyH_take (i := 16) (oi := { dst := some 21, op := Go.Op.binOp Go.BinOp.add 9 (Go.Operand.tmp 18) (Go.Operand.tmp 20) 9, type := 9, pos := "ref.go:18", after := #[{ on := 13, ground := Go.Ground.data }, { on := 15, ground := Go.Ground.data }], guard := none }) (v := ?v15) rfl (by kernel_rfl) (by kernel_rfl) (by kernel_rfl) (fun _ _ _ h => h) (Or.inl ⟨by rfl, ?hy15⟩) (by assumption) ?rest15
  case hy15 => (intro w hSw; (try dsimp only at hSw); have ecrb0 := hSw.cell crb0 id; have ecrb1 := hSw.cell crb1 id; have ecrb2 := hSw.cell crb2 id; have ecrb3 := hSw.cell crb3 id; go_simp <;> with_reducible rfl)
  try simp only [Act.put, List.setIfInBounds_toArray, List.set_cons_zero, List.set_cons_succ]
  refine wpAnyH_take (i := 19) (oi := { dst := some 24, op := Go.Op.binOp Go.BinOp.add 9 (Go.Operand.tmp 21) (Go.Operand.tmp 23) 9, type := 9, pos := "ref.go:18", after := #[{ on := 16, ground := Go.Ground.data }, { on := 18, ground := Go.Ground.data }], guard := none }) (v := ?v16) rfl (by kernel_rfl) (by kernel_rfl) (by kernel_rfl) (fun _ _ _ h => h) (Or.inl ⟨by rfl, ?hy16⟩) (by assumption) ?rest16
  case hy16 => (intro w hSw; (try dsimp only at hSw); have ecrb0 := hSw.cell crb0 id; have ecrb1 := hSw.cell crb1 id; have ecrb2 := hSw.cell crb2 id; have ecrb3 := hSw.cell crb3 id; go_simp <;> with_reducible rfl)
  try simp only [Act.put, List.setIfInBounds_toArray, List.set_cons_zero, List.set_cons_succ]
  refine wpAnyH_take (i := 20) (oi := { dst := some 4, op := Go.Op.assign (Go.Operand.tmp 24), type := 9, pos := "ref.go:18", after := #[{ on := 19, ground := Go.Ground.data }, { on := 15, ground := Go.Ground.chain }, { on := 0, ground := Go.Ground.phase }, { on := 1, ground := Go.Ground.phase }, { on := 2, ground := Go.Ground.phase }, { on := 3, ground := Go.Ground.phase }, { on := 4, ground := Go.Ground.phase }, { on := 5, ground := Go.Ground.phase }, { on := 6, ground := Go.Ground.phase }, { on := 7, ground := Go.Ground.phase }, { on := 8, ground := Go.Ground.phase }, { on := 9, ground := Go.Ground.phase }, { on := 10, ground := Go.Ground.phase }, { on := 11, ground := Go.Ground.phase }, { on := 12, ground := Go.Ground.phase }, { on := 13, ground := Go.Ground.phase }, { on := 14, ground := Go.Ground.phase }, { on := 15, ground := Go.Ground.phase }, { on := 16, ground := Go.Ground.phase }, { on := 17, ground := Go.Ground.phase }, { on := 18, ground := Go.Ground.phase }, { on := 19, ground := Go.Ground.phase }], guard := none }) (v := ?v17) rfl (by kernel_rfl) (by kernel_rfl) (by kernel_rfl) (fun _ _ _ h => h) (Or.inl ⟨by rfl, ?hy17⟩) (by assumption) ?rest17
  case hy17 => (intro w hSw; (try dsimp only at hSw); have ecrb0 := hSw.cell crb0 id; have ecrb1 := hSw.cell crb1 id; have ecrb2 := hSw.cell crb2 id; have ecrb3 := hSw.cell crb3 id; go_simp <;> with_reducible rfl)
  try simp only [Act.put, List.setIfInBounds_toArray, List.set_cons_zero, List.set_cons_succ]
  refine wpAnyH_done (by kernel_rfl) ?_ _
  have hx := hS4
  clear hS0 hS1 hS2 hS3 hS4 crb0 crb1 crb2 crb3
  have HX_w5 := Lib.hid hx
  clear hx
  go_wp2_with fail
  go_ret
  exact ⟨rfl, (HX_w1.out.trans HX_w5.out)⟩
set_option maxRecDepth 100000 in
set_option maxHeartbeats 4000000 in
theorem rBytes6_big (d : Dg) (s t : Int) (w : World) (hn : 65507 < d.b.length) (hn' : d.b.length ≤ 1000000) :
    Calls Tryd.prog 21 #[rdv d, .int .u32 s, .int .u32 t] w fun e w' => e = .returned (.tuple #[.string ⟨#[]⟩, .string (bs (etx [lay6] 7))]) ∧ Ex (fun _ => False) w w' := by
  obtain ⟨src, dst, pl, b⟩ := d
  simp only at hn hn'
  rw [ty67]
  have z0 := bs_size b
  have hgt : (65515 : Int) < 8 + (b.length : Int) := by omega
  have hw1 : wrap64 (8 + (b.length : Int)) = 8 + (b.length : Int) := by unfold wrap64; omega
  show Calls Tryd.prog 21 #[.agg #[.int .u32 src, .int .u32 dst, .bool pl, .string (bs b)], .int .u32 s, .int .u32 t] w _
  go_enter Tryd.func21, Tryd.ntmps21
  go_upto_region 1 with fail
  have hx : Ex (fun _ => False) w (w.alloc (.cells #[.int .u32 src, .int .u32 dst, .bool pl, .string (bs b)] 34)) := (Ex.refl _ w).alloc _
  have hb : (w.alloc (.cells #[.int .u32 src, .int .u32 dst, .bool pl, .string (bs b)] 34)).heap[w.heap.size]? = some (.cells #[.int .u32 src, .int .u32 dst, .bool pl, .string (bs b)] 34) := heap_alloc_new w _
  obtain ⟨rb, hrb⟩ : ∃ rb, rb = w.heap.size := ⟨_, rfl⟩
  have hb_rb : w.heap.size ≤ rb := by omega
  rw [← hrb] at hb
  try simp only [← hrb]
  generalize w.alloc (.cells #[.int .u32 src, .int .u32 dst, .bool pl, .string (bs b)] 34) = w1 at hx hb ⊢
  clear hrb
  have HX_w1 := Lib.hid hx
  clear hx
  have B_rb := Lib.hid hb
  clear hb
  have crb3 := row_cell (k := 3) (v := .string (bs b)) B_rb.out rfl
  go_wp2_with fail
  go_ret2
  exact ⟨rfl, HX_w1.out⟩
set_option maxRecDepth 100000 in
set_option maxHeartbeats 4000000 in
theorem rBytes6_true (src dst : Int) (b : List UInt8) (s t : Int) (w : World) (ok : (⟨src, dst, true, b⟩ : Dg).ok) (_hs : 0 ≤ s ∧ s < 4294967296) (_ht : 0 ≤ t ∧ t < 4294967296) (hn : b.length ≤ 65507) :
    Calls Tryd.prog 21 #[.agg #[.int .u32 src, .int .u32 dst, .bool true, .string (bs b)], .int .u32 s, .int .u32 t] w fun e w' => e = .returned (.tuple #[.string (bs (db (⟨src, dst, true, b⟩ : Dg) s t)), .string ⟨#[]⟩]) ∧ Ex (fun _ => False) w w' := by
  have z0 := bs_size b
  have hng : ¬ (65515 : Int) < 8 + (b.length : Int) := by omega
  have hw1 : wrap64 (8 + (b.length : Int)) = 8 + (b.length : Int) := by unfold wrap64; omega
  have OK := Lib.hid ok
  clear ok
  have hdb : db (⟨src, dst, true, b⟩ : Dg) s t = (⟨src, dst, true, b⟩ : Dg).hd 0 := if_pos rfl
  rw [hdb]
  clear hdb
  go_enter Tryd.func21, Tryd.ntmps21
  go_upto_region 1 with fail
  have hx : Ex (fun _ => False) w (w.alloc (.cells #[.int .u32 src, .int .u32 dst, .bool true, .string (bs b)] 34)) := (Ex.refl _ w).alloc _
  have hb : (w.alloc (.cells #[.int .u32 src, .int .u32 dst, .bool true, .string (bs b)] 34)).heap[w.heap.size]? = some (.cells #[.int .u32 src, .int .u32 dst, .bool true, .string (bs b)] 34) := heap_alloc_new w _
  obtain ⟨rb, hrb⟩ : ∃ rb, rb = w.heap.size := ⟨_, rfl⟩
  have hb_rb : w.heap.size ≤ rb := by omega
  rw [← hrb] at hb
  try simp only [← hrb]
  generalize w.alloc (.cells #[.int .u32 src, .int .u32 dst, .bool true, .string (bs b)] 34) = w1 at hx hb ⊢
  clear hrb
  have HX_w1 := Lib.hid hx
  clear hx
  have B_rb := Lib.hid hb
  clear hb
  have crb0 := row_cell (k := 0) (v := .int .u32 src) B_rb.out rfl
  have crb1 := row_cell (k := 1) (v := .int .u32 dst) B_rb.out rfl
  have crb2 := row_cell (k := 2) (v := .bool true) B_rb.out rfl
  have crb3 := row_cell (k := 3) (v := .string (bs b)) B_rb.out rfl
  go_wp2_with fail
  refine (rtext6_any (⟨src, dst, true, b⟩ : Dg) 0 w1 OK.out (by omega) (by show b.length ≤ _; omega)).mono ?_
  rintro e w2 ⟨rfl, hx⟩
  clear crb0 crb1 crb2 crb3
  have HX_w2 := Lib.hid hx
  clear hx
  go_wp2_with fail
  go_ret2
  exact ⟨rfl, (HX_w1.out.trans HX_w2.out)⟩
set_option maxRecDepth 100000 in
set_option maxHeartbeats 4000000 in
theorem rBytes6_false (src dst : Int) (b : List UInt8) (s t : Int) (w : World) (ok : (⟨src, dst, false, b⟩ : Dg).ok) (hs : 0 ≤ s ∧ s < 4294967296) (ht : 0 ≤ t ∧ t < 4294967296) (hn : b.length ≤ 65507) :
    Calls Tryd.prog 21 #[.agg #[.int .u32 src, .int .u32 dst, .bool false, .string (bs b)], .int .u32 s, .int .u32 t] w fun e w' => e = .returned (.tuple #[.string (bs (db (⟨src, dst, false, b⟩ : Dg) s t)), .string ⟨#[]⟩]) ∧ Ex (fun _ => False) w w' := by
  have z0 := bs_size b
  have hng : ¬ (65515 : Int) < 8 + (b.length : Int) := by omega
  have hw1 : wrap64 (8 + (b.length : Int)) = 8 + (b.length : Int) := by unfold wrap64; omega
  have OK := Lib.hid ok
  clear ok
  have HS := Lib.hid hs
  have HT := Lib.hid ht
  clear hs ht
  have hdb : db (⟨src, dst, false, b⟩ : Dg) s t = (⟨src, dst, false, b⟩ : Dg).hd ((⟨src, dst, false, b⟩ : Dg).sum s t : Int) := if_neg (by simp)
  rw [hdb]
  have hhl0 := (⟨src, dst, false, b⟩ : Dg).hd_len 0
  have hraw : su (psd s t 17 (8 + (b.length : Int)) ++ (⟨src, dst, false, b⟩ : Dg).hd 0) = (⟨src, dst, false, b⟩ : Dg).raw s t := rfl
  have hsum : (⟨src, dst, false, b⟩ : Dg).sum s t = if (⟨src, dst, false, b⟩ : Dg).raw s t = 0 then 65535 else (⟨src, dst, false, b⟩ : Dg).raw s t := rfl
  have hrl := (⟨src, dst, false, b⟩ : Dg).raw_le s t
  obtain ⟨r0, hr0⟩ : ∃ r, r = (⟨src, dst, false, b⟩ : Dg).raw s t := ⟨_, rfl⟩
  obtain ⟨s1, hs1⟩ : ∃ r, r = (⟨src, dst, false, b⟩ : Dg).sum s t := ⟨_, rfl⟩
  rw [← hr0] at hraw hsum hrl
  rw [← hs1] at hsum ⊢
  obtain ⟨M0, hM0⟩ : ∃ l, l = (⟨src, dst, false, b⟩ : Dg).hd 0 := ⟨_, rfl⟩
  rw [← hM0] at hraw hhl0
  obtain ⟨PS, hPS⟩ : ∃ l, l = psd s t 17 (8 + (b.length : Int)) := ⟨_, rfl⟩
  have hpl : PS.length = 12 := by rw [hPS, psd_len]
  rw [← hPS] at hraw
  have hpt := psd_txt6 s t 17 (8 + (b.length : Int)) (by omega)
  rw [← hPS] at hpt
  have HPT := Lib.hid hpt.symm
  have HPL := Lib.hid hpl
  have HM0 := Lib.hid hM0
  have hhl : M0.length = 8 + b.length := hhl0
  obtain ⟨L, hL⟩ : ∃ L, L = M0.length := ⟨_, rfl⟩
  have y1 : (bs PS).size = 12 := by rw [bs_size, hpl]
  have y2 : (bs M0).size = L := by rw [bs_size, hL]
  have a1 := bs_append PS M0
  have el : ¬ 9223372036854775807 < 12 + L := by omega
  have hsl : (PS ++ M0).length ≤ 4294967296 := by rw [List.length_append]; omega
  have HSL := Lib.hid hsl
  have HRAW := Lib.hid hraw
  have HSUM := Lib.hid hsum
  have HRLE := Lib.hid hrl
  have hw4 : IntKind.u32.wrap (r0 : Int) = (r0 : Int) := by rw [IntKind.wrap_u32]; omega
  clear hdb hraw hsum hr0 hs1 hM0 hhl hhl0 hrl hPS hpl hpt hL hsl
  go_enter Tryd.func21, Tryd.ntmps21
  go_upto_region 1 with fail
  have hx : Ex (fun _ => False) w (w.alloc (.cells #[.int .u32 src, .int .u32 dst, .bool false, .string (bs b)] 34)) := (Ex.refl _ w).alloc _
  have hb : (w.alloc (.cells #[.int .u32 src, .int .u32 dst, .bool false, .string (bs b)] 34)).heap[w.heap.size]? = some (.cells #[.int .u32 src, .int .u32 dst, .bool false, .string (bs b)] 34) := heap_alloc_new w _
  obtain ⟨rb, hrb⟩ : ∃ rb, rb = w.heap.size := ⟨_, rfl⟩
  have hb_rb : w.heap.size ≤ rb := by omega
  rw [← hrb] at hb
  try simp only [← hrb]
  generalize w.alloc (.cells #[.int .u32 src, .int .u32 dst, .bool false, .string (bs b)] 34) = w1 at hx hb ⊢
  clear hrb
  have HX_w1 := Lib.hid hx
  clear hx
  have B_rb := Lib.hid hb
  clear hb
  have crb0 := row_cell (k := 0) (v := .int .u32 src) B_rb.out rfl
  have crb1 := row_cell (k := 1) (v := .int .u32 dst) B_rb.out rfl
  have crb2 := row_cell (k := 2) (v := .bool false) B_rb.out rfl
  have crb3 := row_cell (k := 3) (v := .string (bs b)) B_rb.out rfl
  go_upto_region 6 with fail
  have hS0 : Ex (fun _ => False) w1 w1.drew := (Ex.refl _ w1).drew
  refine wp_region_held_drew (S := fun W => Ex (fun _ => False) w1 W) (by kernel_rfl) hS0 (fun _ => ?_)
  refine wpAnyH_take (i := 0) (oi := { dst := some 20, op := Go.Op.move (Go.Operand.tmp 1), type := 26, pos := "ref.go:30", after := #[], guard := none }) (v := ?v18) rfl (by kernel_rfl) (by kernel_rfl) (by kernel_rfl) (fun _ _ _ h => h) (Or.inl ⟨by rfl, ?hy18⟩) (by assumption) ?rest18
  case hy18 => (intro w hSw; (try dsimp only at hSw); have ecrb0 := hSw.cell crb0 id; have ecrb1 := hSw.cell crb1 id; have ecrb2 := hSw.cell crb2 id; have ecrb3 := hSw.cell crb3 id; go_simp <;> with_reducible rfl)
  try simp only [Act.put, List.setIfInBounds_toArray, List.set_cons_zero, List.set_cons_succ]
  refine wpAnyH_take (i := 1) (oi := { dst := some 21, op := Go.Op.move (Go.Operand.tmp 2), type := 26, pos := "ref.go:30", after := #[], guard := none }) (v := ?v19) rfl (by kernel_rfl) (by kernel_rfl) (by kernel_rfl) (fun _ _ _ h => h) (Or.inl ⟨by rfl, ?hy19⟩) (by assumption) ?rest19
  case hy19 => (intro w hSw; (try dsimp only at hSw); have ecrb0 := hSw.cell crb0 id; have ecrb1 := hSw.cell crb1 id; have ecrb2 := hSw.cell crb2 id; have ecrb3 := hSw.cell crb3 id; go_simp <;> with_reducible rfl)
  try simp only [Act.put, List.setIfInBounds_toArray, List.set_cons_zero, List.set_cons_succ]
  refine wpAnyH_take (i := 2) (oi := { dst := some 22, op := Go.Op.move (Go.Operand.tmp 8), type := 3, pos := "ref.go:30", after := #[], guard := none }) (v := ?v20) rfl (by kernel_rfl) (by kernel_rfl) (by kernel_rfl) (fun _ _ _ h => h) (Or.inl ⟨by rfl, ?hy20⟩) (by assumption) ?rest20
  case hy20 => (intro w hSw; (try dsimp only at hSw); have ecrb0 := hSw.cell crb0 id; have ecrb1 := hSw.cell crb1 id; have ecrb2 := hSw.cell crb2 id; have ecrb3 := hSw.cell crb3 id; go_simp <;> with_reducible rfl)
  try simp only [Act.put, List.setIfInBounds_toArray, List.set_cons_zero, List.set_cons_succ]
  refine wpAnyH_take (i := 4) (oi := { dst := some 24, op := Go.Op.load 34 (Go.Operand.tmp 3), type := 34, pos := "ref.go:30", after := #[], guard := none }) (v := ?v21) rfl (by kernel_rfl) (by kernel_rfl) (by kernel_rfl) (fun _ _ _ h => h) (Or.inl ⟨by rfl, ?hy21⟩) (by assumption) ?rest21
  case hy21 => (intro w hSw; (try dsimp only at hSw); have ecrb0 := hSw.cell crb0 id; have ecrb1 := hSw.cell crb1 id; have ecrb2 := hSw.cell crb2 id; have ecrb3 := hSw.cell crb3 id; go_simp <;> with_reducible rfl)
  try simp only [Act.put, List.setIfInBounds_toArray, List.set_cons_zero, List.set_cons_succ]
  refine wpAnyH_ready (rs := [3]) (by kernel_rfl) (by simp) ?_
  refine AllReadyH.cons (o := { dst := some 23, op := Go.Op.call { callee := Go.Callee.value (Go.Operand.func 46), args := #[Go.Operand.tmp 20, Go.Operand.tmp 21, Go.Operand.const (Go.Value.int Go.IntKind.u8 17), Go.Operand.tmp 22], argTypes := #[26, 26, 5, 3] }, type := 9, pos := "ref.go:30", after := #[{ on := 0, ground := Go.Ground.data }, { on := 1, ground := Go.Ground.data }, { on := 2, ground := Go.Ground.data }], guard := none }) rfl (fun K hK => ?_) AllReadyH.nil
  go_simp
  refine (refpseudo_any s t 17 (8 + (b.length : Int)) HS.out HT.out (by omega) (by omega) _).mono ?_
  rintro e w2 ⟨rfl, hx⟩
  rw [HPT.out]
  have hS1 := hS0.trans hx
  clear hx
  refine hK.out _ _ hS1 (fun _ => ?_)
  refine wpAnyH_ready (rs := [5]) (by kernel_rfl) (by simp) ?_
  refine AllReadyH.cons (o := { dst := some 25, op := Go.Op.call { callee := Go.Callee.value (Go.Operand.func 50), args := #[Go.Operand.tmp 24, Go.Operand.const (Go.Value.int Go.IntKind.u32 0)], argTypes := #[34, 26] }, type := 9, pos := "ref.go:30", after := #[{ on := 4, ground := Go.Ground.data }, { on := 3, ground := Go.Ground.chain }], guard := none }) rfl (fun K hK => ?_) AllReadyH.nil
  go_simp
  refine (rtext6_any (⟨src, dst, false, b⟩ : Dg) 0 _ OK.out (by omega) (by show b.length ≤ _; omega)).mono ?_
  rintro e w3 ⟨rfl, hx⟩
  rw [← HM0.out]
  have hS2 := hS1.trans hx
  clear hx
  refine hK.out _ _ hS2 (fun _ => ?_)
  refine wpAnyH_take (i := 6) (oi := { dst := some 26, op := Go.Op.binOp Go.BinOp.add 9 (Go.Operand.tmp 23) (Go.Operand.tmp 25) 9, type := 9, pos := "ref.go:30", after := #[{ on := 3, ground := Go.Ground.data }, { on := 5, ground := Go.Ground.data }], guard := none }) (v := ?v22) rfl (by kernel_rfl) (by kernel_rfl) (by kernel_rfl) (fun _ _ _ h => h) (Or.inl ⟨by rfl, ?hy22⟩) (by assumption) ?rest22
  case hy22 => (intro w hSw; (try dsimp only at hSw); have ecrb0 := hSw.cell crb0 id; have ecrb1 := hSw.cell crb1 id; have ecrb2 := hSw.cell crb2 id; have ecrb3 := hSw.cell crb3 id; go_simp <;> with_reducible rfl)
  try simp only [Act.put, List.setIfInBounds_toArray, List.set_cons_zero, List.set_cons_succ]
  refine wpAnyH_ready (rs := [7]) (by kernel_rfl) (by simp) ?_
  refine AllReadyH.cons (o := { dst := some 27, op := Go.Op.call { callee := Go.Callee.value (Go.Operand.func 45), args := #[Go.Operand.tmp 26], argTypes := #[9] }, type := 23, pos := "ref.go:30", after := #[{ on := 6, ground := Go.Ground.data }, { on := 5, ground := Go.Ground.chain }], guard := none }) rfl (fun K hK => ?_) AllReadyH.nil
  go_simp
  refine (refsum_any (PS ++ M0) HSL.out _).mono ?_
  rintro e w4 ⟨rfl, hx⟩
  rw [HRAW.out]
  have hS3 := hS2.trans hx
  clear hx
  refine hK.out _ _ hS3 (fun _ => ?_)
  refine wpAnyH_take (i := 8) (oi := { dst := some 28, op := Go.Op.convert 23 26 (Go.Operand.tmp 27), type := 26, pos := "ref.go:30", after := #[{ on := 7, ground := Go.Ground.data }], guard := none }) (v := ?v23) rfl (by kernel_rfl) (by kernel_rfl) (by kernel_rfl) (fun _ _ _ h => h) (Or.inl ⟨by rfl, ?hy23⟩) (by assumption) ?rest23
  case hy23 => (intro w hSw; (try dsimp only at hSw); have ecrb0 := hSw.cell crb0 id; have ecrb1 := hSw.cell crb1 id; have ecrb2 := hSw.cell crb2 id; have ecrb3 := hSw.cell crb3 id; go_simp <;> with_reducible rfl)
  try simp only [Act.put, List.setIfInBounds_toArray, List.set_cons_zero, List.set_cons_succ]
  refine wpAnyH_take (i := 9) (oi := { dst := some 9, op := Go.Op.assign (Go.Operand.tmp 28), type := 26, pos := "ref.go:30", after := #[{ on := 8, ground := Go.Ground.data }, { on := 7, ground := Go.Ground.chain }, { on := 0, ground := Go.Ground.phase }, { on := 1, ground := Go.Ground.phase }, { on := 2, ground := Go.Ground.phase }, { on := 3, ground := Go.Ground.phase }, { on := 4, ground := Go.Ground.phase }, { on := 5, ground := Go.Ground.phase }, { on := 6, ground := Go.Ground.phase }, { on := 7, ground := Go.Ground.phase }, { on := 8, ground := Go.Ground.phase }], guard := none }) (v := ?v24) rfl (by kernel_rfl) (by kernel_rfl) (by kernel_rfl) (fun _ _ _ h => h) (Or.inl ⟨by rfl, ?hy24⟩) (by assumption) ?rest24
  case hy24 => (intro w hSw; (try dsimp only at hSw); have ecrb0 := hSw.cell crb0 id; have ecrb1 := hSw.cell crb1 id; have ecrb2 := hSw.cell crb2 id; have ecrb3 := hSw.cell crb3 id; go_simp <;> with_reducible rfl)
  try simp only [Act.put, List.setIfInBounds_toArray, List.set_cons_zero, List.set_cons_succ]
  refine wpAnyH_done (by kernel_rfl) ?_ _
  have hx := hS3
  clear hS0 hS1 hS2 hS3 a1 y1 y2 el crb0 crb1 crb2 crb3
  have HX_w4 := Lib.hid hx
  clear hx
  replace B_rb := Lib.hid ((HX_w4.out.block rb (row_lt B_rb.out) id).trans B_rb.out)
  by_cases hz : r0 = 0
  ·
    have crb0 := row_cell (k := 0) (v := .int .u32 src) B_rb.out rfl
    have crb1 := row_cell (k := 1) (v := .int .u32 dst) B_rb.out rfl
    have crb2 := row_cell (k := 2) (v := .bool false) B_rb.out rfl
    have crb3 := row_cell (k := 3) (v := .string (bs b)) B_rb.out rfl
    have hs1i : (s1 : Int) = 65535 := by rw [HSUM.out, if_pos hz]; rfl
    have hzb : ((r0 : Int) == 0) = true := by rw [hz]; rfl
    have HS1 := Lib.hid hs1i
    clear hs1i
    subst hz
    go_wp2_with fail
    refine (rtext6_any (⟨src, dst, false, b⟩ : Dg) 65535 w4 OK.out (by have := HRLE.out; omega) (by show b.length ≤ _; omega)).mono ?_
    rintro e w5 ⟨rfl, hx⟩
    clear crb0 crb1 crb2 crb3
    have HX_w5 := Lib.hid hx
    clear hx
    go_wp2_with fail
    go_ret2
    exact ⟨by rw [HS1.out]; rfl, ((HX_w1.out.trans HX_w4.out).trans HX_w5.out)⟩
  ·
    have crb0 := row_cell (k := 0) (v := .int .u32 src) B_rb.out rfl
    have crb1 := row_cell (k := 1) (v := .int .u32 dst) B_rb.out rfl
    have crb2 := row_cell (k := 2) (v := .bool false) B_rb.out rfl
    have crb3 := row_cell (k := 3) (v := .string (bs b)) B_rb.out rfl
    have hs1i : (s1 : Int) = (r0 : Int) := by rw [HSUM.out, if_neg hz]
    have hzb : ((r0 : Int) == 0) = false := by rw [beq_eq_false_iff_ne]; omega
    have HS1 := Lib.hid hs1i
    clear hs1i
    clear hz
    go_wp2_with fail
    refine (rtext6_any (⟨src, dst, false, b⟩ : Dg) (r0 : Int) w4 OK.out (by have := HRLE.out; omega) (by show b.length ≤ _; omega)).mono ?_
    rintro e w5 ⟨rfl, hx⟩
    clear crb0 crb1 crb2 crb3
    have HX_w5 := Lib.hid hx
    clear hx
    go_wp2_with fail
    go_ret2
    exact ⟨by rw [HS1.out]; rfl, ((HX_w1.out.trans HX_w4.out).trans HX_w5.out)⟩
theorem rBytes6_ok (d : Dg) (s t : Int) (w : World) (ok : d.ok) (hs : 0 ≤ s ∧ s < 4294967296) (ht : 0 ≤ t ∧ t < 4294967296) (hn : d.b.length ≤ 65507) :
    Calls Tryd.prog 21 #[rdv d, .int .u32 s, .int .u32 t] w fun e w' => e = .returned (.tuple #[.string (bs (db d s t)), .string ⟨#[]⟩]) ∧ Ex (fun _ => False) w w' := by
  obtain ⟨src, dst, pl, b⟩ := d
  cases pl
  · exact rBytes6_false src dst b s t w ok hs ht hn
  · exact rBytes6_true src dst b s t w ok hs ht hn
end Go.Proofs.YtfcfpkhcpijkfaaDoor
