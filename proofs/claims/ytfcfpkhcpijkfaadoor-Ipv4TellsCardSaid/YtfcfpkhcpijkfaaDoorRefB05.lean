/-
  The contract of the reference's Bytes of a packet. By an AI agent.
-/
import Derived.Test.YtfcfpkhcpijkfaaDoorRefH05
namespace Go.Proofs.YtfcfpkhcpijkfaaDoor
open Go.RowKit

theorem right_17 {p : Pk} (h : p.right ≠ 0) : p.right = 1 ∨ p.right = 7 := by
  unfold Pk.right at *
  split at h
  · exact .inl (if_pos ‹_›)
  · rename_i h1
    rw [if_neg h1] at *
    split at h
    · exact .inr (if_pos ‹_›)
    · exact absurd rfl h
set_option maxRecDepth 100000 in
set_option maxHeartbeats 2000000 in
theorem rbytes_1 (tos ident off ttl pr src dst : Int) (df mf : Bool) (b : List UInt8) (w : World) (hn : b.length ≤ 1000000) (hr : (⟨tos, ident, df, mf, off, ttl, pr, src, dst, b⟩ : Pk).right = 1) :
    Calls Tryd.prog 30 #[.agg #[.int .u32 tos, .int .u32 ident, .bool df, .bool mf, .int .i64 off, .int .u32 ttl, .int .u32 pr, .int .u32 src, .int .u32 dst, .string (bs b)]] w fun e w' => e = .returned (.tuple #[.string ⟨#[]⟩, .string ⟨#[105, 112, 118, 52, 58, 32, 101, 114, 114, 111, 114, 32, 49]⟩]) ∧ Ex (fun _ => False) w w' := by
  have HR := Lib.hid hr
  clear hr
  go_enter Tryd.func30, Tryd.ntmps30
  go_upto_region 1 with fail
  have hx : Ex (fun _ => False) w (w.alloc (.cells #[.int .u32 tos, .int .u32 ident, .bool df, .bool mf, .int .i64 off, .int .u32 ttl, .int .u32 pr, .int .u32 src, .int .u32 dst, .string (bs b)] 55)) := (Ex.refl _ w).alloc _
  have hb : (w.alloc (.cells #[.int .u32 tos, .int .u32 ident, .bool df, .bool mf, .int .i64 off, .int .u32 ttl, .int .u32 pr, .int .u32 src, .int .u32 dst, .string (bs b)] 55)).heap[w.heap.size]? = some (.cells #[.int .u32 tos, .int .u32 ident, .bool df, .bool mf, .int .i64 off, .int .u32 ttl, .int .u32 pr, .int .u32 src, .int .u32 dst, .string (bs b)] 55) := heap_alloc_new w _
  obtain ⟨rb0, hrb0⟩ : ∃ rb0, rb0 = w.heap.size := ⟨_, rfl⟩
  have hb_rb0 : w.heap.size ≤ rb0 := by omega
  rw [← hrb0] at hb
  try simp only [← hrb0]
  generalize w.alloc (.cells #[.int .u32 tos, .int .u32 ident, .bool df, .bool mf, .int .i64 off, .int .u32 ttl, .int .u32 pr, .int .u32 src, .int .u32 dst, .string (bs b)] 55) = w1 at hx hb ⊢
  clear hrb0
  have HX_w1 := Lib.hid hx
  clear hx
  have B_rb0 := Lib.hid hb
  clear hb
  have crb00 := row_cell (k := 0) (v := .int .u32 tos) B_rb0.out rfl
  have crb01 := row_cell (k := 1) (v := .int .u32 ident) B_rb0.out rfl
  have crb02 := row_cell (k := 2) (v := .bool df) B_rb0.out rfl
  have crb03 := row_cell (k := 3) (v := .bool mf) B_rb0.out rfl
  have crb04 := row_cell (k := 4) (v := .int .i64 off) B_rb0.out rfl
  have crb05 := row_cell (k := 5) (v := .int .u32 ttl) B_rb0.out rfl
  have crb06 := row_cell (k := 6) (v := .int .u32 pr) B_rb0.out rfl
  have crb07 := row_cell (k := 7) (v := .int .u32 src) B_rb0.out rfl
  have crb08 := row_cell (k := 8) (v := .int .u32 dst) B_rb0.out rfl
  have crb09 := row_cell (k := 9) (v := .string (bs b)) B_rb0.out rfl
  go_wp2_with fail
  refine (rright_any (⟨tos, ident, df, mf, off, ttl, pr, src, dst, b⟩ : Pk) w1 (by show b.length ≤ _; omega)).mono ?_
  rintro e w2 ⟨rfl, hx⟩
  rw [HR.out, show rtx [lay5] 1 = ⟨#[105, 112, 118, 52, 58, 32, 101, 114, 114, 111, 114, 32, 49]⟩ from tx51]
  have HX_w2 := Lib.hid hx
  clear hx
  go_wp2_with fail
  go_ret2
  exact ⟨rfl, (HX_w1.out.trans HX_w2.out)⟩
set_option maxRecDepth 100000 in
set_option maxHeartbeats 2000000 in
theorem rbytes_7 (tos ident off ttl pr src dst : Int) (df mf : Bool) (b : List UInt8) (w : World) (hn : b.length ≤ 1000000) (hr : (⟨tos, ident, df, mf, off, ttl, pr, src, dst, b⟩ : Pk).right = 7) :
    Calls Tryd.prog 30 #[.agg #[.int .u32 tos, .int .u32 ident, .bool df, .bool mf, .int .i64 off, .int .u32 ttl, .int .u32 pr, .int .u32 src, .int .u32 dst, .string (bs b)]] w fun e w' => e = .returned (.tuple #[.string ⟨#[]⟩, .string ⟨#[105, 112, 118, 52, 58, 32, 101, 114, 114, 111, 114, 32, 55]⟩]) ∧ Ex (fun _ => False) w w' := by
  have HR := Lib.hid hr
  clear hr
  go_enter Tryd.func30, Tryd.ntmps30
  go_upto_region 1 with fail
  have hx : Ex (fun _ => False) w (w.alloc (.cells #[.int .u32 tos, .int .u32 ident, .bool df, .bool mf, .int .i64 off, .int .u32 ttl, .int .u32 pr, .int .u32 src, .int .u32 dst, .string (bs b)] 55)) := (Ex.refl _ w).alloc _
  have hb : (w.alloc (.cells #[.int .u32 tos, .int .u32 ident, .bool df, .bool mf, .int .i64 off, .int .u32 ttl, .int .u32 pr, .int .u32 src, .int .u32 dst, .string (bs b)] 55)).heap[w.heap.size]? = some (.cells #[.int .u32 tos, .int .u32 ident, .bool df, .bool mf, .int .i64 off, .int .u32 ttl, .int .u32 pr, .int .u32 src, .int .u32 dst, .string (bs b)] 55) := heap_alloc_new w _
  obtain ⟨rb0, hrb0⟩ : ∃ rb0, rb0 = w.heap.size := ⟨_, rfl⟩
  have hb_rb0 : w.heap.size ≤ rb0 := by omega
  rw [← hrb0] at hb
  try simp only [← hrb0]
  generalize w.alloc (.cells #[.int .u32 tos, .int .u32 ident, .bool df, .bool mf, .int .i64 off, .int .u32 ttl, .int .u32 pr, .int .u32 src, .int .u32 dst, .string (bs b)] 55) = w1 at hx hb ⊢
  clear hrb0
  have HX_w1 := Lib.hid hx
  clear hx
  have B_rb0 := Lib.hid hb
  clear hb
  have crb00 := row_cell (k := 0) (v := .int .u32 tos) B_rb0.out rfl
  have crb01 := row_cell (k := 1) (v := .int .u32 ident) B_rb0.out rfl
  have crb02 := row_cell (k := 2) (v := .bool df) B_rb0.out rfl
  have crb03 := row_cell (k := 3) (v := .bool mf) B_rb0.out rfl
  have crb04 := row_cell (k := 4) (v := .int .i64 off) B_rb0.out rfl
  have crb05 := row_cell (k := 5) (v := .int .u32 ttl) B_rb0.out rfl
  have crb06 := row_cell (k := 6) (v := .int .u32 pr) B_rb0.out rfl
  have crb07 := row_cell (k := 7) (v := .int .u32 src) B_rb0.out rfl
  have crb08 := row_cell (k := 8) (v := .int .u32 dst) B_rb0.out rfl
  have crb09 := row_cell (k := 9) (v := .string (bs b)) B_rb0.out rfl
  go_wp2_with fail
  refine (rright_any (⟨tos, ident, df, mf, off, ttl, pr, src, dst, b⟩ : Pk) w1 (by show b.length ≤ _; omega)).mono ?_
  rintro e w2 ⟨rfl, hx⟩
  rw [HR.out, show rtx [lay5] 7 = ⟨#[105, 112, 118, 52, 58, 32, 101, 114, 114, 111, 114, 32, 55]⟩ from tx57]
  have HX_w2 := Lib.hid hx
  clear hx
  go_wp2_with fail
  go_ret2
  exact ⟨rfl, (HX_w1.out.trans HX_w2.out)⟩
set_option maxRecDepth 100000 in
set_option maxHeartbeats 4000000 in
theorem rbytes_0 (tos ident off ttl pr src dst : Int) (df mf : Bool) (b : List UInt8) (w : World) (hn : b.length ≤ 1000000) (ok : (⟨tos, ident, df, mf, off, ttl, pr, src, dst, b⟩ : Pk).ok) (hr : (⟨tos, ident, df, mf, off, ttl, pr, src, dst, b⟩ : Pk).right = 0) :
    Calls Tryd.prog 30 #[.agg #[.int .u32 tos, .int .u32 ident, .bool df, .bool mf, .int .i64 off, .int .u32 ttl, .int .u32 pr, .int .u32 src, .int .u32 dst, .string (bs b)]] w fun e w' => e = .returned (.tuple #[.string (bs (pb (⟨tos, ident, df, mf, off, ttl, pr, src, dst, b⟩ : Pk))), .string ⟨#[]⟩]) ∧ Ex (fun _ => False) w w' := by
  have HR := Lib.hid hr
  have OK := Lib.hid ok
  have hs1 := Pk.sum_le (⟨tos, ident, df, mf, off, ttl, pr, src, dst, b⟩ : Pk)
  obtain ⟨s, hs⟩ : ∃ s : Nat, (⟨tos, ident, df, mf, off, ttl, pr, src, dst, b⟩ : Pk).sum = s := ⟨_, rfl⟩
  rw [hs] at hs1
  have hsu : su ((⟨tos, ident, df, mf, off, ttl, pr, src, dst, b⟩ : Pk).hd 0).bytes = s := hs
  have a1 := bs_append ((⟨tos, ident, df, mf, off, ttl, pr, src, dst, b⟩ : Pk).hd (s : Int)).bytes b
  have ez : (bs ((⟨tos, ident, df, mf, off, ttl, pr, src, dst, b⟩ : Pk).hd (s : Int)).bytes).size = 20 := by rw [bs_size]; rfl
  have eb := bs_size b
  have el : ¬ 9223372036854775807 < 20 + b.length := by omega
  have hpb : pb (⟨tos, ident, df, mf, off, ttl, pr, src, dst, b⟩ : Pk) = ((⟨tos, ident, df, mf, off, ttl, pr, src, dst, b⟩ : Pk).hd (s : Int)).bytes ++ b := by rw [← hs]; rfl
  rw [hpb]
  have q1 := IntWalk.u32_in (s : Int) (by omega)
  have HS := Lib.hid hsu
  clear hr ok hs hsu hpb
  obtain ⟨H1, hH1⟩ : ∃ H, ((⟨tos, ident, df, mf, off, ttl, pr, src, dst, b⟩ : Pk).hd (s : Int)).bytes = H := ⟨_, rfl⟩
  rw [hH1] at a1 ez ⊢
  have HH1 := Lib.hid hH1
  clear hH1
  obtain ⟨M, hM⟩ : ∃ M, H1 ++ b = M := ⟨_, rfl⟩
  rw [hM] at a1 ⊢
  clear hM
  go_enter Tryd.func30, Tryd.ntmps30
  go_upto_region 1 with fail
  have hx : Ex (fun _ => False) w (w.alloc (.cells #[.int .u32 tos, .int .u32 ident, .bool df, .bool mf, .int .i64 off, .int .u32 ttl, .int .u32 pr, .int .u32 src, .int .u32 dst, .string (bs b)] 55)) := (Ex.refl _ w).alloc _
  have hb : (w.alloc (.cells #[.int .u32 tos, .int .u32 ident, .bool df, .bool mf, .int .i64 off, .int .u32 ttl, .int .u32 pr, .int .u32 src, .int .u32 dst, .string (bs b)] 55)).heap[w.heap.size]? = some (.cells #[.int .u32 tos, .int .u32 ident, .bool df, .bool mf, .int .i64 off, .int .u32 ttl, .int .u32 pr, .int .u32 src, .int .u32 dst, .string (bs b)] 55) := heap_alloc_new w _
  obtain ⟨rb0, hrb0⟩ : ∃ rb0, rb0 = w.heap.size := ⟨_, rfl⟩
  have hb_rb0 : w.heap.size ≤ rb0 := by omega
  rw [← hrb0] at hb
  try simp only [← hrb0]
  generalize w.alloc (.cells #[.int .u32 tos, .int .u32 ident, .bool df, .bool mf, .int .i64 off, .int .u32 ttl, .int .u32 pr, .int .u32 src, .int .u32 dst, .string (bs b)] 55) = w1 at hx hb ⊢
  clear hrb0
  have HX_w1 := Lib.hid hx
  clear hx
  have B_rb0 := Lib.hid hb
  clear hb
  have crb00 := row_cell (k := 0) (v := .int .u32 tos) B_rb0.out rfl
  have crb01 := row_cell (k := 1) (v := .int .u32 ident) B_rb0.out rfl
  have crb02 := row_cell (k := 2) (v := .bool df) B_rb0.out rfl
  have crb03 := row_cell (k := 3) (v := .bool mf) B_rb0.out rfl
  have crb04 := row_cell (k := 4) (v := .int .i64 off) B_rb0.out rfl
  have crb05 := row_cell (k := 5) (v := .int .u32 ttl) B_rb0.out rfl
  have crb06 := row_cell (k := 6) (v := .int .u32 pr) B_rb0.out rfl
  have crb07 := row_cell (k := 7) (v := .int .u32 src) B_rb0.out rfl
  have crb08 := row_cell (k := 8) (v := .int .u32 dst) B_rb0.out rfl
  have crb09 := row_cell (k := 9) (v := .string (bs b)) B_rb0.out rfl
  go_wp2_with fail
  refine (rright_any (⟨tos, ident, df, mf, off, ttl, pr, src, dst, b⟩ : Pk) w1 (by show b.length ≤ _; omega)).mono ?_
  rintro e w2 ⟨rfl, hx⟩
  rw [HR.out, show rtx [lay5] 0 = ⟨#[]⟩ from rfl]
  clear crb00 crb01 crb02 crb03 crb04 crb05 crb06 crb07 crb08 crb09
  have HX_w2 := Lib.hid hx
  clear hx
  go_upto_region 4 with fail
  replace B_rb0 := Lib.hid ((HX_w2.out.block rb0 (row_lt B_rb0.out) id).trans B_rb0.out)
  have crb00 := row_cell (k := 0) (v := .int .u32 tos) B_rb0.out rfl
  have crb01 := row_cell (k := 1) (v := .int .u32 ident) B_rb0.out rfl
  have crb02 := row_cell (k := 2) (v := .bool df) B_rb0.out rfl
  have crb03 := row_cell (k := 3) (v := .bool mf) B_rb0.out rfl
  have crb04 := row_cell (k := 4) (v := .int .i64 off) B_rb0.out rfl
  have crb05 := row_cell (k := 5) (v := .int .u32 ttl) B_rb0.out rfl
  have crb06 := row_cell (k := 6) (v := .int .u32 pr) B_rb0.out rfl
  have crb07 := row_cell (k := 7) (v := .int .u32 src) B_rb0.out rfl
  have crb08 := row_cell (k := 8) (v := .int .u32 dst) B_rb0.out rfl
  have crb09 := row_cell (k := 9) (v := .string (bs b)) B_rb0.out rfl
  have hS0 : Ex (fun _ => False) w2 w2.drew := (Ex.refl _ w2).drew
  refine wp_region_held_drew (S := fun W => Ex (fun _ => False) w2 W) (by kernel_rfl) hS0 (fun _ => ?_)
  refine wpAnyH_take (i := 0) (oi := { dst := some 10, op := Go.Op.load 55 (Go.Operand.tmp 1), type := 55, pos := "ref.go:49", after := #[], guard := none }) (v := ?v1) rfl (by kernel_rfl) (by kernel_rfl) (by kernel_rfl) (fun _ _ _ h => h) (Or.inl ⟨by rfl, ?hy1⟩) (by assumption) ?rest1
  case hy1 => (intro w hSw; (try dsimp only at hSw); have ecrb00 := hSw.cell crb00 id; have ecrb01 := hSw.cell crb01 id; have ecrb02 := hSw.cell crb02 id; have ecrb03 := hSw.cell crb03 id; have ecrb04 := hSw.cell crb04 id; have ecrb05 := hSw.cell crb05 id; have ecrb06 := hSw.cell crb06 id; have ecrb07 := hSw.cell crb07 id; have ecrb08 := hSw.cell crb08 id; have ecrb09 := hSw.cell crb09 id; go_simp <;> with_reducible rfl)
  try simp only [Act.put, List.setIfInBounds_toArray, List.set_cons_zero, List.set_cons_succ]
  refine wpAnyH_take (i := 1) (oi := { dst := some 11, op := Go.Op.load 55 (Go.Operand.tmp 1), type := 55, pos := "ref.go:49", after := #[], guard := none }) (v := ?v2) rfl (by kernel_rfl) (by kernel_rfl) (by kernel_rfl) (fun _ _ _ h => h) (Or.inl ⟨by rfl, ?hy2⟩) (by assumption) ?rest2
  case hy2 => (intro w hSw; (try dsimp only at hSw); have ecrb00 := hSw.cell crb00 id; have ecrb01 := hSw.cell crb01 id; have ecrb02 := hSw.cell crb02 id; have ecrb03 := hSw.cell crb03 id; have ecrb04 := hSw.cell crb04 id; have ecrb05 := hSw.cell crb05 id; have ecrb06 := hSw.cell crb06 id; have ecrb07 := hSw.cell crb07 id; have ecrb08 := hSw.cell crb08 id; have ecrb09 := hSw.cell crb09 id; go_simp <;> with_reducible rfl)
  try simp only [Act.put, List.setIfInBounds_toArray, List.set_cons_zero, List.set_cons_succ]
  refine wpAnyH_take (i := 6) (oi := { dst := some 16, op := Go.Op.fieldAddr 55 (Go.Operand.tmp 1) 9, type := 0, pos := "ref.go:49", after := #[], guard := none }) (v := ?v3) rfl (by kernel_rfl) (by kernel_rfl) (by kernel_rfl) (fun _ _ _ h => h) (Or.inl ⟨by rfl, ?hy3⟩) (by assumption) ?rest3
  case hy3 => (intro w hSw; (try dsimp only at hSw); have ecrb00 := hSw.cell crb00 id; have ecrb01 := hSw.cell crb01 id; have ecrb02 := hSw.cell crb02 id; have ecrb03 := hSw.cell crb03 id; have ecrb04 := hSw.cell crb04 id; have ecrb05 := hSw.cell crb05 id; have ecrb06 := hSw.cell crb06 id; have ecrb07 := hSw.cell crb07 id; have ecrb08 := hSw.cell crb08 id; have ecrb09 := hSw.cell crb09 id; go_simp <;> with_reducible rfl)
  try simp only [Act.put, List.setIfInBounds_toArray, List.set_cons_zero, List.set_cons_succ]
  refine wpAnyH_take (i := 7) (oi := { dst := some 17, op := Go.Op.load 9 (Go.Operand.tmp 16), type := 9, pos := "ref.go:49", after := #[{ on := 6, ground := Go.Ground.data }], guard := none }) (v := ?v4) rfl (by kernel_rfl) (by kernel_rfl) (by kernel_rfl) (fun _ _ _ h => h) (Or.inl ⟨by rfl, ?hy4⟩) (by assumption) ?rest4
  case hy4 => (intro w hSw; (try dsimp only at hSw); have ecrb00 := hSw.cell crb00 id; have ecrb01 := hSw.cell crb01 id; have ecrb02 := hSw.cell crb02 id; have ecrb03 := hSw.cell crb03 id; have ecrb04 := hSw.cell crb04 id; have ecrb05 := hSw.cell crb05 id; have ecrb06 := hSw.cell crb06 id; have ecrb07 := hSw.cell crb07 id; have ecrb08 := hSw.cell crb08 id; have ecrb09 := hSw.cell crb09 id; go_simp <;> with_reducible rfl)
  try simp only [Act.put, List.setIfInBounds_toArray, List.set_cons_zero, List.set_cons_succ]
  refine wpAnyH_ready (rs := [2]) (by kernel_rfl) (by simp) ?_
  refine AllReadyH.cons (o := { dst := some 12, op := Go.Op.call { callee := Go.Callee.value (Go.Operand.func 57), args := #[Go.Operand.tmp 11, Go.Operand.const (Go.Value.int Go.IntKind.u32 0)], argTypes := #[55, 26] }, type := 9, pos := "ref.go:49", after := #[{ on := 1, ground := Go.Ground.data }], guard := none }) rfl (fun K hK => ?_) AllReadyH.nil
  go_simp
  refine (rhead_any (⟨tos, ident, df, mf, off, ttl, pr, src, dst, b⟩ : Pk) 0 _ OK.out HR.out ⟨by omega, by omega⟩).mono ?_
  rintro e v0 ⟨rfl, hx⟩
  have hS1 := hS0.trans hx
  clear hx
  refine hK.out _ _ hS1 (fun _ => ?_)
  refine wpAnyH_ready (rs := [3]) (by kernel_rfl) (by simp) ?_
  refine AllReadyH.cons (o := { dst := some 13, op := Go.Op.call { callee := Go.Callee.value (Go.Operand.func 45), args := #[Go.Operand.tmp 12], argTypes := #[9] }, type := 23, pos := "ref.go:49", after := #[{ on := 2, ground := Go.Ground.data }, { on := 2, ground := Go.Ground.chain }], guard := none }) rfl (fun K hK => ?_) AllReadyH.nil
  go_simp
  refine (refsum_any ((⟨tos, ident, df, mf, off, ttl, pr, src, dst, b⟩ : Pk).hd 0).bytes (by rw [Hd.bytes_len]; omega) _).mono ?_
  rintro e v1 ⟨rfl, hx⟩
  rw [HS.out]
  have hS2 := hS1.trans hx
  clear hx
  refine hK.out _ _ hS2 (fun _ => ?_)
  refine wpAnyH_take (i := 4) (oi := { dst := some 14, op := Go.Op.convert 23 26 (Go.Operand.tmp 13), type := 26, pos := "ref.go:49", after := #[{ on := 3, ground := Go.Ground.data }], guard := none }) (v := ?v5) rfl (by kernel_rfl) (by kernel_rfl) (by kernel_rfl) (fun _ _ _ h => h) (Or.inl ⟨by rfl, ?hy5⟩) (by assumption) ?rest5
  case hy5 => (intro w hSw; (try dsimp only at hSw); have ecrb00 := hSw.cell crb00 id; have ecrb01 := hSw.cell crb01 id; have ecrb02 := hSw.cell crb02 id; have ecrb03 := hSw.cell crb03 id; have ecrb04 := hSw.cell crb04 id; have ecrb05 := hSw.cell crb05 id; have ecrb06 := hSw.cell crb06 id; have ecrb07 := hSw.cell crb07 id; have ecrb08 := hSw.cell crb08 id; have ecrb09 := hSw.cell crb09 id; go_simp <;> with_reducible rfl)
  try simp only [Act.put, List.setIfInBounds_toArray, List.set_cons_zero, List.set_cons_succ]
  refine wpAnyH_ready (rs := [5]) (by kernel_rfl) (by simp) ?_
  refine AllReadyH.cons (o := { dst := some 15, op := Go.Op.call { callee := Go.Callee.value (Go.Operand.func 57), args := #[Go.Operand.tmp 10, Go.Operand.tmp 14], argTypes := #[55, 26] }, type := 9, pos := "ref.go:49", after := #[{ on := 0, ground := Go.Ground.data }, { on := 4, ground := Go.Ground.data }, { on := 3, ground := Go.Ground.chain }], guard := none }) rfl (fun K hK => ?_) AllReadyH.nil
  go_simp
  refine (rhead_any (⟨tos, ident, df, mf, off, ttl, pr, src, dst, b⟩ : Pk) (s : Int) _ OK.out HR.out ⟨by omega, by omega⟩).mono ?_
  rintro e v2 ⟨rfl, hx⟩
  rw [HH1.out]
  have hS3 := hS2.trans hx
  clear hx
  refine hK.out _ _ hS3 (fun _ => ?_)
  refine wpAnyH_take (i := 8) (oi := { dst := some 18, op := Go.Op.binOp Go.BinOp.add 9 (Go.Operand.tmp 15) (Go.Operand.tmp 17) 9, type := 9, pos := "ref.go:49", after := #[{ on := 5, ground := Go.Ground.data }, { on := 7, ground := Go.Ground.data }], guard := none }) (v := ?v6) rfl (by kernel_rfl) (by kernel_rfl) (by kernel_rfl) (fun _ _ _ h => h) (Or.inl ⟨by rfl, ?hy6⟩) (by assumption) ?rest6
  case hy6 => (intro w hSw; (try dsimp only at hSw); have ecrb00 := hSw.cell crb00 id; have ecrb01 := hSw.cell crb01 id; have ecrb02 := hSw.cell crb02 id; have ecrb03 := hSw.cell crb03 id; have ecrb04 := hSw.cell crb04 id; have ecrb05 := hSw.cell crb05 id; have ecrb06 := hSw.cell crb06 id; have ecrb07 := hSw.cell crb07 id; have ecrb08 := hSw.cell crb08 id; have ecrb09 := hSw.cell crb09 id; go_simp <;> with_reducible rfl)
  try simp only [Act.put, List.setIfInBounds_toArray, List.set_cons_zero, List.set_cons_succ]
  refine wpAnyH_take (i := 9) (oi := { dst := some 2, op := Go.Op.assign (Go.Operand.tmp 18), type := 9, pos := "ref.go:49", after := #[{ on := 8, ground := Go.Ground.data }, { on := 5, ground := Go.Ground.chain }, { on := 0, ground := Go.Ground.phase }, { on := 1, ground := Go.Ground.phase }, { on := 2, ground := Go.Ground.phase }, { on := 3, ground := Go.Ground.phase }, { on := 4, ground := Go.Ground.phase }, { on := 5, ground := Go.Ground.phase }, { on := 6, ground := Go.Ground.phase }, { on := 7, ground := Go.Ground.phase }, { on := 8, ground := Go.Ground.phase }], guard := none }) (v := ?v7) rfl (by kernel_rfl) (by kernel_rfl) (by kernel_rfl) (fun _ _ _ h => h) (Or.inl ⟨by rfl, ?hy7⟩) (by assumption) ?rest7
  case hy7 => (intro w hSw; (try dsimp only at hSw); have ecrb00 := hSw.cell crb00 id; have ecrb01 := hSw.cell crb01 id; have ecrb02 := hSw.cell crb02 id; have ecrb03 := hSw.cell crb03 id; have ecrb04 := hSw.cell crb04 id; have ecrb05 := hSw.cell crb05 id; have ecrb06 := hSw.cell crb06 id; have ecrb07 := hSw.cell crb07 id; have ecrb08 := hSw.cell crb08 id; have ecrb09 := hSw.cell crb09 id; go_simp <;> with_reducible rfl)
  try simp only [Act.put, List.setIfInBounds_toArray, List.set_cons_zero, List.set_cons_succ]
  refine wpAnyH_take (i := 10) (oi := { dst := some 3, op := Go.Op.assign (Go.Operand.const (Go.Value.string { data := #[] })), type := 9, pos := "ref.go:49", after := #[{ on := 9, ground := Go.Ground.chain }, { on := 0, ground := Go.Ground.phase }, { on := 1, ground := Go.Ground.phase }, { on := 2, ground := Go.Ground.phase }, { on := 3, ground := Go.Ground.phase }, { on := 4, ground := Go.Ground.phase }, { on := 5, ground := Go.Ground.phase }, { on := 6, ground := Go.Ground.phase }, { on := 7, ground := Go.Ground.phase }, { on := 8, ground := Go.Ground.phase }, { on := 9, ground := Go.Ground.phase }], guard := none }) (v := ?v8) rfl (by kernel_rfl) (by kernel_rfl) (by kernel_rfl) (fun _ _ _ h => h) (Or.inl ⟨by rfl, ?hy8⟩) (by assumption) ?rest8
  case hy8 => (intro w hSw; (try dsimp only at hSw); have ecrb00 := hSw.cell crb00 id; have ecrb01 := hSw.cell crb01 id; have ecrb02 := hSw.cell crb02 id; have ecrb03 := hSw.cell crb03 id; have ecrb04 := hSw.cell crb04 id; have ecrb05 := hSw.cell crb05 id; have ecrb06 := hSw.cell crb06 id; have ecrb07 := hSw.cell crb07 id; have ecrb08 := hSw.cell crb08 id; have ecrb09 := hSw.cell crb09 id; go_simp <;> with_reducible rfl)
  try simp only [Act.put, List.setIfInBounds_toArray, List.set_cons_zero, List.set_cons_succ]
  refine wpAnyH_done (by kernel_rfl) ?_ _
  have hx := hS3
  clear hS0 hS1 hS2 hS3 crb00 crb01 crb02 crb03 crb04 crb05 crb06 crb07 crb08 crb09
  have HX_v2 := Lib.hid hx
  clear hx
  go_wp2_with fail
  go_ret2
  exact ⟨rfl, ((HX_w1.out.trans HX_w2.out).trans HX_v2.out)⟩
/-- what the reference's Bytes comes to -/
def rby (p : Pk) : ByteArray := if p.right = 0 then bs (pb p) else ⟨#[]⟩
theorem rfbytes_any (p : Pk) (w : World) (hn : p.b.length ≤ 1000000) (ok : p.ok) :
    Calls Tryd.prog 30 #[rpv p] w fun e w' => e = .returned (.tuple #[.string (rby p), .string (rtx [lay5] p.right)]) ∧ Ex (fun _ => False) w w' := by
  by_cases h : p.right = 0
  · have e1 : rby p = bs (pb p) := if_pos h
    have e2 : rtx [lay5] p.right = ⟨#[]⟩ := by rw [h]; rfl
    rw [e1, e2]
    obtain ⟨tos, ident, df, mf, off, ttl, pr, src, dst, b⟩ := p
    exact rbytes_0 tos ident off ttl pr src dst df mf b w hn ok h
  · have e1 : rby p = ⟨#[]⟩ := if_neg h
    rw [e1]
    rcases right_17 h with h' | h'
    · rw [h', show rtx [lay5] 1 = _ from tx51]
      obtain ⟨tos, ident, df, mf, off, ttl, pr, src, dst, b⟩ := p
      exact rbytes_1 tos ident off ttl pr src dst df mf b w hn h'
    · rw [h', show rtx [lay5] 7 = _ from tx57]
      obtain ⟨tos, ident, df, mf, off, ttl, pr, src, dst, b⟩ := p
      exact rbytes_7 tos ident off ttl pr src dst df mf b w hn h' 
end Go.Proofs.YtfcfpkhcpijkfaaDoor
