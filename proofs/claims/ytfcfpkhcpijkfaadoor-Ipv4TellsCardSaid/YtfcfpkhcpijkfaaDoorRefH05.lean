/-
  The contracts of the reference's head and Bytes of a packet. By an AI agent.
-/
import Derived.Test.YtfcfpkhcpijkfaaDoorRefR05
import Derived.Test.YtfcfpkhcpijkfaaDoorRefSum2
import Derived.Test.YtfcfpkhcpijkfaaDoorRef01
import Derived.IntWalk
namespace Go.Proofs.YtfcfpkhcpijkfaaDoor
open Go.RowKit

set_option maxRecDepth 100000 in
set_option maxHeartbeats 4000000 in
theorem rhead_ff (tos ident off ttl pr src dst s : Int) (b : List UInt8) (w : World) (ok : (⟨tos, ident, false, false, off, ttl, pr, src, dst, b⟩ : Pk).ok) (hright : (⟨tos, ident, false, false, off, ttl, pr, src, dst, b⟩ : Pk).right = 0) (hs : 0 ≤ s ∧ s ≤ 65535) :
    Calls Tryd.prog 57 #[.agg #[.int .u32 tos, .int .u32 ident, .bool false, .bool false, .int .i64 off, .int .u32 ttl, .int .u32 pr, .int .u32 src, .int .u32 dst, .string (bs b)], .int .u32 s] w fun e w' => e = .returned (.string (bs ((⟨tos, ident, false, false, off, ttl, pr, src, dst, b⟩ : Pk).hd s).bytes)) ∧ Ex (fun _ => False) w w' := by
  obtain ⟨k1, k2, _, _, k5⟩ := Pk.right_zero hright
  obtain ⟨o0, o1, _, o3, o4, o5, o6⟩ := ok
  simp only at k1 k2 k5 o0 o1 o3 o4 o5 o6
  obtain ⟨o00, o01⟩ := o0
  obtain ⟨o10, o11⟩ := o1
  obtain ⟨o30, o31⟩ := o3
  obtain ⟨o40, o41⟩ := o4
  obtain ⟨o50, o51⟩ := o5
  obtain ⟨o60, o61⟩ := o6
  obtain ⟨s0, s1⟩ := hs
  have k6 : off ≤ 65515 := by omega
  have k7 : (b.length : Int) ≤ 65515 := by omega
  have hbits : (⟨tos, ident, false, false, off, ttl, pr, src, dst, b⟩ : Pk).bits = off / 8 := by show off / 8 + 0 + 0 = off / 8; omega
  have hz := bs_size b
  have q1 := IntWalk.u32_in (off / 8) (by omega)
  have q2 := IntWalk.u32_in (20 + (b.length : Int)) (by omega)
  have q3 := IntWalk.i64_in (20 + (b.length : Int)) (by omega)
  have q4 := IntWalk.u32_in (off / 8 + 8192) (by omega)
  have q5 := IntWalk.u32_in (off / 8) (by omega)
  have hfin : [69] ++ txt tos 1 ++ txt (20 + (b.length : Int)) 2 ++ txt ident 2 ++ txt (off / 8) 2 ++ txt ttl 1 ++ txt pr 1 ++ txt s 2 ++ txt src 4 ++ txt dst 4 = ((⟨tos, ident, false, false, off, ttl, pr, src, dst, b⟩ : Pk).hd s).bytes := by
    rw [← hbits]
    have h69 : by8 69 = 69 := by decide
    show _ = by8 69 :: _
    rw [h69]
    rfl
  have HFIN := Lib.hid hfin
  have K2 := Lib.hid k2
  clear hbits hfin hright k2
  have b69 : bs [69] = ⟨#[69]⟩ := rfl
  obtain ⟨L1, hL1⟩ : ∃ L, [69] ++ txt tos 1 = L := ⟨_, rfl⟩
  have a1 := bs_append [69] (txt tos 1)
  rw [hL1] at a1
  have z1 : (bs L1).size = 2 := by rw [bs_size, ← hL1, List.length_append, txt_len]; rfl
  have y1 : (bs (txt tos 1)).size = 1 := by rw [bs_size, txt_len]
  rw [hL1] at HFIN
  obtain ⟨L2, hL2⟩ : ∃ L, L1 ++ txt (20 + (b.length : Int)) 2 = L := ⟨_, rfl⟩
  have a2 := bs_append L1 (txt (20 + (b.length : Int)) 2)
  rw [hL2] at a2
  have z2 : (bs L2).size = 4 := by rw [bs_size, ← hL2, List.length_append, txt_len]; have := z1; rw [bs_size] at this; omega
  have y2 : (bs (txt (20 + (b.length : Int)) 2)).size = 2 := by rw [bs_size, txt_len]
  rw [hL2] at HFIN
  obtain ⟨L3, hL3⟩ : ∃ L, L2 ++ txt ident 2 = L := ⟨_, rfl⟩
  have a3 := bs_append L2 (txt ident 2)
  rw [hL3] at a3
  have z3 : (bs L3).size = 6 := by rw [bs_size, ← hL3, List.length_append, txt_len]; have := z2; rw [bs_size] at this; omega
  have y3 : (bs (txt ident 2)).size = 2 := by rw [bs_size, txt_len]
  rw [hL3] at HFIN
  obtain ⟨L4, hL4⟩ : ∃ L, L3 ++ txt (off / 8) 2 = L := ⟨_, rfl⟩
  have a4 := bs_append L3 (txt (off / 8) 2)
  rw [hL4] at a4
  have z4 : (bs L4).size = 8 := by rw [bs_size, ← hL4, List.length_append, txt_len]; have := z3; rw [bs_size] at this; omega
  have y4 : (bs (txt (off / 8) 2)).size = 2 := by rw [bs_size, txt_len]
  rw [hL4] at HFIN
  obtain ⟨L5, hL5⟩ : ∃ L, L4 ++ txt ttl 1 = L := ⟨_, rfl⟩
  have a5 := bs_append L4 (txt ttl 1)
  rw [hL5] at a5
  have z5 : (bs L5).size = 9 := by rw [bs_size, ← hL5, List.length_append, txt_len]; have := z4; rw [bs_size] at this; omega
  have y5 : (bs (txt ttl 1)).size = 1 := by rw [bs_size, txt_len]
  rw [hL5] at HFIN
  obtain ⟨L6, hL6⟩ : ∃ L, L5 ++ txt pr 1 = L := ⟨_, rfl⟩
  have a6 := bs_append L5 (txt pr 1)
  rw [hL6] at a6
  have z6 : (bs L6).size = 10 := by rw [bs_size, ← hL6, List.length_append, txt_len]; have := z5; rw [bs_size] at this; omega
  have y6 : (bs (txt pr 1)).size = 1 := by rw [bs_size, txt_len]
  rw [hL6] at HFIN
  obtain ⟨L7, hL7⟩ : ∃ L, L6 ++ txt s 2 = L := ⟨_, rfl⟩
  have a7 := bs_append L6 (txt s 2)
  rw [hL7] at a7
  have z7 : (bs L7).size = 12 := by rw [bs_size, ← hL7, List.length_append, txt_len]; have := z6; rw [bs_size] at this; omega
  have y7 : (bs (txt s 2)).size = 2 := by rw [bs_size, txt_len]
  rw [hL7] at HFIN
  obtain ⟨L8, hL8⟩ : ∃ L, L7 ++ txt src 4 = L := ⟨_, rfl⟩
  have a8 := bs_append L7 (txt src 4)
  rw [hL8] at a8
  have z8 : (bs L8).size = 16 := by rw [bs_size, ← hL8, List.length_append, txt_len]; have := z7; rw [bs_size] at this; omega
  have y8 : (bs (txt src 4)).size = 4 := by rw [bs_size, txt_len]
  rw [hL8] at HFIN
  obtain ⟨L9, hL9⟩ : ∃ L, L8 ++ txt dst 4 = L := ⟨_, rfl⟩
  have a9 := bs_append L8 (txt dst 4)
  rw [hL9] at a9
  have z9 : (bs L9).size = 20 := by rw [bs_size, ← hL9, List.length_append, txt_len]; have := z8; rw [bs_size] at this; omega
  have y9 : (bs (txt dst 4)).size = 4 := by rw [bs_size, txt_len]
  rw [hL9] at HFIN
  rw [b69] at a1
  clear hL1 hL2 hL3 hL4 hL5 hL6 hL7 hL8 hL9
  go_enter Tryd.func57, Tryd.ntmps57
  go_upto_region 1 with fail
  have hx : Ex (fun _ => False) w (w.alloc (.cells #[.int .u32 tos, .int .u32 ident, .bool false, .bool false, .int .i64 off, .int .u32 ttl, .int .u32 pr, .int .u32 src, .int .u32 dst, .string (bs b)] 55)) := (Ex.refl _ w).alloc _
  have hb : (w.alloc (.cells #[.int .u32 tos, .int .u32 ident, .bool false, .bool false, .int .i64 off, .int .u32 ttl, .int .u32 pr, .int .u32 src, .int .u32 dst, .string (bs b)] 55)).heap[w.heap.size]? = some (.cells #[.int .u32 tos, .int .u32 ident, .bool false, .bool false, .int .i64 off, .int .u32 ttl, .int .u32 pr, .int .u32 src, .int .u32 dst, .string (bs b)] 55) := heap_alloc_new w _
  obtain ⟨rb0, hrb0⟩ : ∃ rb0, rb0 = w.heap.size := ⟨_, rfl⟩
  have hb_rb0 : w.heap.size ≤ rb0 := by omega
  rw [← hrb0] at hb
  try simp only [← hrb0]
  generalize w.alloc (.cells #[.int .u32 tos, .int .u32 ident, .bool false, .bool false, .int .i64 off, .int .u32 ttl, .int .u32 pr, .int .u32 src, .int .u32 dst, .string (bs b)] 55) = w1 at hx hb ⊢
  clear hrb0
  have HX_w1 := Lib.hid hx
  clear hx
  have B_rb0 := Lib.hid hb
  clear hb
  have crb00 := row_cell (k := 0) (v := .int .u32 tos) B_rb0.out rfl
  have crb01 := row_cell (k := 1) (v := .int .u32 ident) B_rb0.out rfl
  have crb02 := row_cell (k := 2) (v := .bool false) B_rb0.out rfl
  have crb03 := row_cell (k := 3) (v := .bool false) B_rb0.out rfl
  have crb04 := row_cell (k := 4) (v := .int .i64 off) B_rb0.out rfl
  have crb05 := row_cell (k := 5) (v := .int .u32 ttl) B_rb0.out rfl
  have crb06 := row_cell (k := 6) (v := .int .u32 pr) B_rb0.out rfl
  have crb07 := row_cell (k := 7) (v := .int .u32 src) B_rb0.out rfl
  have crb08 := row_cell (k := 8) (v := .int .u32 dst) B_rb0.out rfl
  have crb09 := row_cell (k := 9) (v := .string (bs b)) B_rb0.out rfl
  go_upto_region 6 with fail
  have hS0 : Ex (fun _ => False) w1 w1.drew := (Ex.refl _ w1).drew
  refine wp_region_held_drew (S := fun W => Ex (fun _ => False) w1 W) (by kernel_rfl) hS0 (fun _ => ?_)
  refine wpAnyH_take (i := 0) (oi := { dst := some 19, op := Go.Op.fieldAddr 55 (Go.Operand.tmp 2) 0, type := 0, pos := "ref.go:39", after := #[], guard := none }) (v := ?v1) rfl (by kernel_rfl) (by kernel_rfl) (by kernel_rfl) (fun _ _ _ h => h) (Or.inl ⟨by rfl, ?hy1⟩) (by assumption) ?rest1
  case hy1 => (intro w hSw; (try dsimp only at hSw); have ecrb00 := hSw.cell crb00 id; have ecrb01 := hSw.cell crb01 id; have ecrb09 := hSw.cell crb09 id; go_simp <;> with_reducible rfl)
  try simp only [Act.put, List.setIfInBounds_toArray, List.set_cons_zero, List.set_cons_succ]
  refine wpAnyH_take (i := 1) (oi := { dst := some 20, op := Go.Op.load 26 (Go.Operand.tmp 19), type := 26, pos := "ref.go:39", after := #[{ on := 0, ground := Go.Ground.data }], guard := none }) (v := ?v2) rfl (by kernel_rfl) (by kernel_rfl) (by kernel_rfl) (fun _ _ _ h => h) (Or.inl ⟨by rfl, ?hy2⟩) (by assumption) ?rest2
  case hy2 => (intro w hSw; (try dsimp only at hSw); have ecrb00 := hSw.cell crb00 id; have ecrb01 := hSw.cell crb01 id; have ecrb09 := hSw.cell crb09 id; go_simp <;> with_reducible rfl)
  try simp only [Act.put, List.setIfInBounds_toArray, List.set_cons_zero, List.set_cons_succ]
  refine wpAnyH_take (i := 4) (oi := { dst := some 23, op := Go.Op.fieldAddr 55 (Go.Operand.tmp 2) 9, type := 0, pos := "ref.go:39", after := #[], guard := none }) (v := ?v3) rfl (by kernel_rfl) (by kernel_rfl) (by kernel_rfl) (fun _ _ _ h => h) (Or.inl ⟨by rfl, ?hy3⟩) (by assumption) ?rest3
  case hy3 => (intro w hSw; (try dsimp only at hSw); have ecrb00 := hSw.cell crb00 id; have ecrb01 := hSw.cell crb01 id; have ecrb09 := hSw.cell crb09 id; go_simp <;> with_reducible rfl)
  try simp only [Act.put, List.setIfInBounds_toArray, List.set_cons_zero, List.set_cons_succ]
  refine wpAnyH_take (i := 5) (oi := { dst := some 24, op := Go.Op.load 9 (Go.Operand.tmp 23), type := 9, pos := "ref.go:39", after := #[{ on := 4, ground := Go.Ground.data }], guard := none }) (v := ?v4) rfl (by kernel_rfl) (by kernel_rfl) (by kernel_rfl) (fun _ _ _ h => h) (Or.inl ⟨by rfl, ?hy4⟩) (by assumption) ?rest4
  case hy4 => (intro w hSw; (try dsimp only at hSw); have ecrb00 := hSw.cell crb00 id; have ecrb01 := hSw.cell crb01 id; have ecrb09 := hSw.cell crb09 id; go_simp <;> with_reducible rfl)
  try simp only [Act.put, List.setIfInBounds_toArray, List.set_cons_zero, List.set_cons_succ]
  refine wpAnyH_take (i := 6) (oi := { dst := some 25, op := Go.Op.call { callee := Go.Callee.builtin Go.Builtin.len, args := #[Go.Operand.tmp 24], argTypes := #[9] }, type := 3, pos := "ref.go:39", after := #[{ on := 5, ground := Go.Ground.data }], guard := none }) (v := ?v5) rfl (by kernel_rfl) (by kernel_rfl) (by kernel_rfl) (fun _ _ _ h => h) (Or.inl ⟨by rfl, ?hy5⟩) (by assumption) ?rest5
  case hy5 => (intro w hSw; (try dsimp only at hSw); have ecrb00 := hSw.cell crb00 id; have ecrb01 := hSw.cell crb01 id; have ecrb09 := hSw.cell crb09 id; go_simp <;> with_reducible rfl)
  try simp only [Act.put, List.setIfInBounds_toArray, List.set_cons_zero, List.set_cons_succ]
  refine wpAnyH_take (i := 7) (oi := { dst := some 26, op := Go.Op.binOp Go.BinOp.add 3 (Go.Operand.const (Go.Value.int Go.IntKind.i64 20)) (Go.Operand.tmp 25) 3, type := 3, pos := "ref.go:39", after := #[{ on := 6, ground := Go.Ground.data }], guard := none }) (v := ?v6) rfl (by kernel_rfl) (by kernel_rfl) (by kernel_rfl) (fun _ _ _ h => h) (Or.inl ⟨by rfl, ?hy6⟩) (by assumption) ?rest6
  case hy6 => (intro w hSw; (try dsimp only at hSw); have ecrb00 := hSw.cell crb00 id; have ecrb01 := hSw.cell crb01 id; have ecrb09 := hSw.cell crb09 id; go_simp <;> with_reducible rfl)
  try simp only [Act.put, List.setIfInBounds_toArray, List.set_cons_zero, List.set_cons_succ]
  refine wpAnyH_take (i := 8) (oi := { dst := some 27, op := Go.Op.convert 3 26 (Go.Operand.tmp 26), type := 26, pos := "ref.go:39", after := #[{ on := 7, ground := Go.Ground.data }], guard := none }) (v := ?v7) rfl (by kernel_rfl) (by kernel_rfl) (by kernel_rfl) (fun _ _ _ h => h) (Or.inl ⟨by rfl, ?hy7⟩) (by assumption) ?rest7
  case hy7 => (intro w hSw; (try dsimp only at hSw); have ecrb00 := hSw.cell crb00 id; have ecrb01 := hSw.cell crb01 id; have ecrb09 := hSw.cell crb09 id; go_simp <;> with_reducible rfl)
  try simp only [Act.put, List.setIfInBounds_toArray, List.set_cons_zero, List.set_cons_succ]
  refine wpAnyH_take (i := 11) (oi := { dst := some 30, op := Go.Op.fieldAddr 55 (Go.Operand.tmp 2) 1, type := 0, pos := "ref.go:39", after := #[], guard := none }) (v := ?v8) rfl (by kernel_rfl) (by kernel_rfl) (by kernel_rfl) (fun _ _ _ h => h) (Or.inl ⟨by rfl, ?hy8⟩) (by assumption) ?rest8
  case hy8 => (intro w hSw; (try dsimp only at hSw); have ecrb00 := hSw.cell crb00 id; have ecrb01 := hSw.cell crb01 id; have ecrb09 := hSw.cell crb09 id; go_simp <;> with_reducible rfl)
  try simp only [Act.put, List.setIfInBounds_toArray, List.set_cons_zero, List.set_cons_succ]
  refine wpAnyH_take (i := 12) (oi := { dst := some 31, op := Go.Op.load 26 (Go.Operand.tmp 30), type := 26, pos := "ref.go:39", after := #[{ on := 11, ground := Go.Ground.data }], guard := none }) (v := ?v9) rfl (by kernel_rfl) (by kernel_rfl) (by kernel_rfl) (fun _ _ _ h => h) (Or.inl ⟨by rfl, ?hy9⟩) (by assumption) ?rest9
  case hy9 => (intro w hSw; (try dsimp only at hSw); have ecrb00 := hSw.cell crb00 id; have ecrb01 := hSw.cell crb01 id; have ecrb09 := hSw.cell crb09 id; go_simp <;> with_reducible rfl)
  try simp only [Act.put, List.setIfInBounds_toArray, List.set_cons_zero, List.set_cons_succ]
  refine wpAnyH_take (i := 15) (oi := { dst := some 34, op := Go.Op.move (Go.Operand.tmp 5), type := 26, pos := "ref.go:39", after := #[], guard := none }) (v := ?v10) rfl (by kernel_rfl) (by kernel_rfl) (by kernel_rfl) (fun _ _ _ h => h) (Or.inl ⟨by rfl, ?hy10⟩) (by assumption) ?rest10
  case hy10 => (intro w hSw; (try dsimp only at hSw); have ecrb00 := hSw.cell crb00 id; have ecrb01 := hSw.cell crb01 id; have ecrb09 := hSw.cell crb09 id; go_simp <;> with_reducible rfl)
  try simp only [Act.put, List.setIfInBounds_toArray, List.set_cons_zero, List.set_cons_succ]
  refine wpAnyH_ready (rs := [2]) (by kernel_rfl) (by simp) ?_
  refine AllReadyH.cons (o := { dst := some 21, op := Go.Op.call { callee := Go.Callee.value (Go.Operand.func 65), args := #[Go.Operand.tmp 20, Go.Operand.const (Go.Value.int Go.IntKind.i64 1)], argTypes := #[26, 3] }, type := 9, pos := "ref.go:39", after := #[{ on := 1, ground := Go.Ground.data }], guard := none }) rfl (fun K hK => ?_) AllReadyH.nil
  go_simp
  refine (text_any tos 1 (by omega) (by omega) (by omega) _).mono ?_
  rintro e v0 ⟨rfl, hx⟩
  have hS1 := hS0.trans hx
  clear hx
  refine hK.out _ _ hS1 (fun _ => ?_)
  refine wpAnyH_take (i := 3) (oi := { dst := some 22, op := Go.Op.binOp Go.BinOp.add 9 (Go.Operand.const (Go.Value.string { data := #[69] })) (Go.Operand.tmp 21) 9, type := 9, pos := "ref.go:39", after := #[{ on := 2, ground := Go.Ground.data }], guard := none }) (v := ?v11) rfl (by kernel_rfl) (by kernel_rfl) (by kernel_rfl) (fun _ _ _ h => h) (Or.inl ⟨by rfl, ?hy11⟩) (by assumption) ?rest11
  case hy11 => (intro w hSw; (try dsimp only at hSw); have ecrb00 := hSw.cell crb00 id; have ecrb01 := hSw.cell crb01 id; have ecrb09 := hSw.cell crb09 id; go_simp <;> with_reducible rfl)
  try simp only [Act.put, List.setIfInBounds_toArray, List.set_cons_zero, List.set_cons_succ]
  refine wpAnyH_ready (rs := [9]) (by kernel_rfl) (by simp) ?_
  refine AllReadyH.cons (o := { dst := some 28, op := Go.Op.call { callee := Go.Callee.value (Go.Operand.func 65), args := #[Go.Operand.tmp 27, Go.Operand.const (Go.Value.int Go.IntKind.i64 2)], argTypes := #[26, 3] }, type := 9, pos := "ref.go:39", after := #[{ on := 8, ground := Go.Ground.data }, { on := 2, ground := Go.Ground.chain }], guard := none }) rfl (fun K hK => ?_) AllReadyH.nil
  go_simp
  refine (text_any (20 + (b.length : Int)) 2 (by omega) (by omega) (by omega) _).mono ?_
  rintro e v1 ⟨rfl, hx⟩
  have hS2 := hS1.trans hx
  clear hx
  refine hK.out _ _ hS2 (fun _ => ?_)
  refine wpAnyH_take (i := 10) (oi := { dst := some 29, op := Go.Op.binOp Go.BinOp.add 9 (Go.Operand.tmp 22) (Go.Operand.tmp 28) 9, type := 9, pos := "ref.go:39", after := #[{ on := 3, ground := Go.Ground.data }, { on := 9, ground := Go.Ground.data }], guard := none }) (v := ?v12) rfl (by kernel_rfl) (by kernel_rfl) (by kernel_rfl) (fun _ _ _ h => h) (Or.inl ⟨by rfl, ?hy12⟩) (by assumption) ?rest12
  case hy12 => (intro w hSw; (try dsimp only at hSw); have ecrb00 := hSw.cell crb00 id; have ecrb01 := hSw.cell crb01 id; have ecrb09 := hSw.cell crb09 id; go_simp <;> with_reducible rfl)
  try simp only [Act.put, List.setIfInBounds_toArray, List.set_cons_zero, List.set_cons_succ]
  refine wpAnyH_ready (rs := [13]) (by kernel_rfl) (by simp) ?_
  refine AllReadyH.cons (o := { dst := some 32, op := Go.Op.call { callee := Go.Callee.value (Go.Operand.func 65), args := #[Go.Operand.tmp 31, Go.Operand.const (Go.Value.int Go.IntKind.i64 2)], argTypes := #[26, 3] }, type := 9, pos := "ref.go:39", after := #[{ on := 12, ground := Go.Ground.data }, { on := 9, ground := Go.Ground.chain }], guard := none }) rfl (fun K hK => ?_) AllReadyH.nil
  go_simp
  refine (text_any ident 2 (by omega) (by omega) (by omega) _).mono ?_
  rintro e v2 ⟨rfl, hx⟩
  have hS3 := hS2.trans hx
  clear hx
  refine hK.out _ _ hS3 (fun _ => ?_)
  refine wpAnyH_take (i := 14) (oi := { dst := some 33, op := Go.Op.binOp Go.BinOp.add 9 (Go.Operand.tmp 29) (Go.Operand.tmp 32) 9, type := 9, pos := "ref.go:39", after := #[{ on := 10, ground := Go.Ground.data }, { on := 13, ground := Go.Ground.data }], guard := none }) (v := ?v13) rfl (by kernel_rfl) (by kernel_rfl) (by kernel_rfl) (fun _ _ _ h => h) (Or.inl ⟨by rfl, ?hy13⟩) (by assumption) ?rest13
  case hy13 => (intro w hSw; (try dsimp only at hSw); have ecrb00 := hSw.cell crb00 id; have ecrb01 := hSw.cell crb01 id; have ecrb09 := hSw.cell crb09 id; go_simp <;> with_reducible rfl)
  try simp only [Act.put, List.setIfInBounds_toArray, List.set_cons_zero, List.set_cons_succ]
  refine wpAnyH_ready (rs := [16]) (by kernel_rfl) (by simp) ?_
  refine AllReadyH.cons (o := { dst := some 35, op := Go.Op.call { callee := Go.Callee.value (Go.Operand.func 65), args := #[Go.Operand.tmp 34, Go.Operand.const (Go.Value.int Go.IntKind.i64 2)], argTypes := #[26, 3] }, type := 9, pos := "ref.go:39", after := #[{ on := 15, ground := Go.Ground.data }, { on := 13, ground := Go.Ground.chain }], guard := none }) rfl (fun K hK => ?_) AllReadyH.nil
  go_simp
  refine (text_any (off / 8) 2 (by omega) (by omega) (by omega) _).mono ?_
  rintro e v3 ⟨rfl, hx⟩
  have hS4 := hS3.trans hx
  clear hx
  refine hK.out _ _ hS4 (fun _ => ?_)
  refine wpAnyH_take (i := 17) (oi := { dst := some 36, op := Go.Op.binOp Go.BinOp.add 9 (Go.Operand.tmp 33) (Go.Operand.tmp 35) 9, type := 9, pos := "ref.go:39", after := #[{ on := 14, ground := Go.Ground.data }, { on := 16, ground := Go.Ground.data }], guard := none }) (v := ?v14) rfl (by kernel_rfl) (by kernel_rfl) (by kernel_rfl) (fun _ _ _ h => h) (Or.inl ⟨by rfl, ?hy14⟩) (by assumption) ?rest14
  case hy14 => (intro w hSw; (try dsimp only at hSw); have ecrb00 := hSw.cell crb00 id; have ecrb01 := hSw.cell crb01 id; have ecrb09 := hSw.cell crb09 id; go_simp <;> with_reducible rfl)
  try simp only [Act.put, List.setIfInBounds_toArray, List.set_cons_zero, List.set_cons_succ]
  refine wpAnyH_take (i := 18) (oi := { dst := some 6, op := Go.Op.assign (Go.Operand.tmp 36), type := 9, pos := "ref.go:39", after := #[{ on := 17, ground := Go.Ground.data }, { on := 16, ground := Go.Ground.chain }, { on := 0, ground := Go.Ground.phase }, { on := 1, ground := Go.Ground.phase }, { on := 2, ground := Go.Ground.phase }, { on := 3, ground := Go.Ground.phase }, { on := 4, ground := Go.Ground.phase }, { on := 5, ground := Go.Ground.phase }, { on := 6, ground := Go.Ground.phase }, { on := 7, ground := Go.Ground.phase }, { on := 8, ground := Go.Ground.phase }, { on := 9, ground := Go.Ground.phase }, { on := 10, ground := Go.Ground.phase }, { on := 11, ground := Go.Ground.phase }, { on := 12, ground := Go.Ground.phase }, { on := 13, ground := Go.Ground.phase }, { on := 14, ground := Go.Ground.phase }, { on := 15, ground := Go.Ground.phase }, { on := 16, ground := Go.Ground.phase }, { on := 17, ground := Go.Ground.phase }], guard := none }) (v := ?v15) rfl (by kernel_rfl) (by kernel_rfl) (by kernel_rfl) (fun _ _ _ h => h) (Or.inl ⟨by rfl, ?hy15⟩) (by assumption) ?rest15
  case hy15 => (intro w hSw; (try dsimp only at hSw); have ecrb00 := hSw.cell crb00 id; have ecrb01 := hSw.cell crb01 id; have ecrb09 := hSw.cell crb09 id; go_simp <;> with_reducible rfl)
  try simp only [Act.put, List.setIfInBounds_toArray, List.set_cons_zero, List.set_cons_succ]
  refine wpAnyH_done (by kernel_rfl) ?_ _
  have hx := hS4
  clear hS0 hS1 hS2 hS3 hS4 crb00 crb01 crb02 crb03 crb04 crb05 crb06 crb07 crb08 crb09
  have HX_v3 := Lib.hid hx
  clear hx
  replace B_rb0 := Lib.hid ((HX_v3.out.block rb0 (row_lt B_rb0.out) id).trans B_rb0.out)
  have crb00 := row_cell (k := 0) (v := .int .u32 tos) B_rb0.out rfl
  have crb01 := row_cell (k := 1) (v := .int .u32 ident) B_rb0.out rfl
  have crb02 := row_cell (k := 2) (v := .bool false) B_rb0.out rfl
  have crb03 := row_cell (k := 3) (v := .bool false) B_rb0.out rfl
  have crb04 := row_cell (k := 4) (v := .int .i64 off) B_rb0.out rfl
  have crb05 := row_cell (k := 5) (v := .int .u32 ttl) B_rb0.out rfl
  have crb06 := row_cell (k := 6) (v := .int .u32 pr) B_rb0.out rfl
  have crb07 := row_cell (k := 7) (v := .int .u32 src) B_rb0.out rfl
  have crb08 := row_cell (k := 8) (v := .int .u32 dst) B_rb0.out rfl
  have crb09 := row_cell (k := 9) (v := .string (bs b)) B_rb0.out rfl
  go_upto_region 7 with fail
  have hS0 : Ex (fun _ => False) v3 v3.drew := (Ex.refl _ v3).drew
  refine wp_region_held_drew (S := fun W => Ex (fun _ => False) v3 W) (by kernel_rfl) hS0 (fun _ => ?_)
  refine wpAnyH_take (i := 0) (oi := { dst := some 37, op := Go.Op.move (Go.Operand.tmp 6), type := 9, pos := "ref.go:40", after := #[], guard := none }) (v := ?v16) rfl (by kernel_rfl) (by kernel_rfl) (by kernel_rfl) (fun _ _ _ h => h) (Or.inl ⟨by rfl, ?hy16⟩) (by assumption) ?rest16
  case hy16 => (intro w hSw; (try dsimp only at hSw); have ecrb05 := hSw.cell crb05 id; have ecrb06 := hSw.cell crb06 id; have ecrb07 := hSw.cell crb07 id; have ecrb08 := hSw.cell crb08 id; go_simp <;> with_reducible rfl)
  try simp only [Act.put, List.setIfInBounds_toArray, List.set_cons_zero, List.set_cons_succ]
  refine wpAnyH_take (i := 1) (oi := { dst := some 38, op := Go.Op.fieldAddr 55 (Go.Operand.tmp 2) 5, type := 0, pos := "ref.go:40", after := #[], guard := none }) (v := ?v17) rfl (by kernel_rfl) (by kernel_rfl) (by kernel_rfl) (fun _ _ _ h => h) (Or.inl ⟨by rfl, ?hy17⟩) (by assumption) ?rest17
  case hy17 => (intro w hSw; (try dsimp only at hSw); have ecrb05 := hSw.cell crb05 id; have ecrb06 := hSw.cell crb06 id; have ecrb07 := hSw.cell crb07 id; have ecrb08 := hSw.cell crb08 id; go_simp <;> with_reducible rfl)
  try simp only [Act.put, List.setIfInBounds_toArray, List.set_cons_zero, List.set_cons_succ]
  refine wpAnyH_take (i := 2) (oi := { dst := some 39, op := Go.Op.load 26 (Go.Operand.tmp 38), type := 26, pos := "ref.go:40", after := #[{ on := 1, ground := Go.Ground.data }], guard := none }) (v := ?v18) rfl (by kernel_rfl) (by kernel_rfl) (by kernel_rfl) (fun _ _ _ h => h) (Or.inl ⟨by rfl, ?hy18⟩) (by assumption) ?rest18
  case hy18 => (intro w hSw; (try dsimp only at hSw); have ecrb05 := hSw.cell crb05 id; have ecrb06 := hSw.cell crb06 id; have ecrb07 := hSw.cell crb07 id; have ecrb08 := hSw.cell crb08 id; go_simp <;> with_reducible rfl)
  try simp only [Act.put, List.setIfInBounds_toArray, List.set_cons_zero, List.set_cons_succ]
  refine wpAnyH_take (i := 5) (oi := { dst := some 42, op := Go.Op.fieldAddr 55 (Go.Operand.tmp 2) 6, type := 0, pos := "ref.go:40", after := #[], guard := none }) (v := ?v19) rfl (by kernel_rfl) (by kernel_rfl) (by kernel_rfl) (fun _ _ _ h => h) (Or.inl ⟨by rfl, ?hy19⟩) (by assumption) ?rest19
  case hy19 => (intro w hSw; (try dsimp only at hSw); have ecrb05 := hSw.cell crb05 id; have ecrb06 := hSw.cell crb06 id; have ecrb07 := hSw.cell crb07 id; have ecrb08 := hSw.cell crb08 id; go_simp <;> with_reducible rfl)
  try simp only [Act.put, List.setIfInBounds_toArray, List.set_cons_zero, List.set_cons_succ]
  refine wpAnyH_take (i := 6) (oi := { dst := some 43, op := Go.Op.load 26 (Go.Operand.tmp 42), type := 26, pos := "ref.go:40", after := #[{ on := 5, ground := Go.Ground.data }], guard := none }) (v := ?v20) rfl (by kernel_rfl) (by kernel_rfl) (by kernel_rfl) (fun _ _ _ h => h) (Or.inl ⟨by rfl, ?hy20⟩) (by assumption) ?rest20
  case hy20 => (intro w hSw; (try dsimp only at hSw); have ecrb05 := hSw.cell crb05 id; have ecrb06 := hSw.cell crb06 id; have ecrb07 := hSw.cell crb07 id; have ecrb08 := hSw.cell crb08 id; go_simp <;> with_reducible rfl)
  try simp only [Act.put, List.setIfInBounds_toArray, List.set_cons_zero, List.set_cons_succ]
  refine wpAnyH_take (i := 9) (oi := { dst := some 46, op := Go.Op.move (Go.Operand.tmp 1), type := 26, pos := "ref.go:40", after := #[], guard := none }) (v := ?v21) rfl (by kernel_rfl) (by kernel_rfl) (by kernel_rfl) (fun _ _ _ h => h) (Or.inl ⟨by rfl, ?hy21⟩) (by assumption) ?rest21
  case hy21 => (intro w hSw; (try dsimp only at hSw); have ecrb05 := hSw.cell crb05 id; have ecrb06 := hSw.cell crb06 id; have ecrb07 := hSw.cell crb07 id; have ecrb08 := hSw.cell crb08 id; go_simp <;> with_reducible rfl)
  try simp only [Act.put, List.setIfInBounds_toArray, List.set_cons_zero, List.set_cons_succ]
  refine wpAnyH_take (i := 12) (oi := { dst := some 49, op := Go.Op.fieldAddr 55 (Go.Operand.tmp 2) 7, type := 0, pos := "ref.go:40", after := #[], guard := none }) (v := ?v22) rfl (by kernel_rfl) (by kernel_rfl) (by kernel_rfl) (fun _ _ _ h => h) (Or.inl ⟨by rfl, ?hy22⟩) (by assumption) ?rest22
  case hy22 => (intro w hSw; (try dsimp only at hSw); have ecrb05 := hSw.cell crb05 id; have ecrb06 := hSw.cell crb06 id; have ecrb07 := hSw.cell crb07 id; have ecrb08 := hSw.cell crb08 id; go_simp <;> with_reducible rfl)
  try simp only [Act.put, List.setIfInBounds_toArray, List.set_cons_zero, List.set_cons_succ]
  refine wpAnyH_take (i := 13) (oi := { dst := some 50, op := Go.Op.load 26 (Go.Operand.tmp 49), type := 26, pos := "ref.go:40", after := #[{ on := 12, ground := Go.Ground.data }], guard := none }) (v := ?v23) rfl (by kernel_rfl) (by kernel_rfl) (by kernel_rfl) (fun _ _ _ h => h) (Or.inl ⟨by rfl, ?hy23⟩) (by assumption) ?rest23
  case hy23 => (intro w hSw; (try dsimp only at hSw); have ecrb05 := hSw.cell crb05 id; have ecrb06 := hSw.cell crb06 id; have ecrb07 := hSw.cell crb07 id; have ecrb08 := hSw.cell crb08 id; go_simp <;> with_reducible rfl)
  try simp only [Act.put, List.setIfInBounds_toArray, List.set_cons_zero, List.set_cons_succ]
  refine wpAnyH_take (i := 16) (oi := { dst := some 53, op := Go.Op.fieldAddr 55 (Go.Operand.tmp 2) 8, type := 0, pos := "ref.go:40", after := #[], guard := none }) (v := ?v24) rfl (by kernel_rfl) (by kernel_rfl) (by kernel_rfl) (fun _ _ _ h => h) (Or.inl ⟨by rfl, ?hy24⟩) (by assumption) ?rest24
  case hy24 => (intro w hSw; (try dsimp only at hSw); have ecrb05 := hSw.cell crb05 id; have ecrb06 := hSw.cell crb06 id; have ecrb07 := hSw.cell crb07 id; have ecrb08 := hSw.cell crb08 id; go_simp <;> with_reducible rfl)
  try simp only [Act.put, List.setIfInBounds_toArray, List.set_cons_zero, List.set_cons_succ]
  refine wpAnyH_take (i := 17) (oi := { dst := some 54, op := Go.Op.load 26 (Go.Operand.tmp 53), type := 26, pos := "ref.go:40", after := #[{ on := 16, ground := Go.Ground.data }], guard := none }) (v := ?v25) rfl (by kernel_rfl) (by kernel_rfl) (by kernel_rfl) (fun _ _ _ h => h) (Or.inl ⟨by rfl, ?hy25⟩) (by assumption) ?rest25
  case hy25 => (intro w hSw; (try dsimp only at hSw); have ecrb05 := hSw.cell crb05 id; have ecrb06 := hSw.cell crb06 id; have ecrb07 := hSw.cell crb07 id; have ecrb08 := hSw.cell crb08 id; go_simp <;> with_reducible rfl)
  try simp only [Act.put, List.setIfInBounds_toArray, List.set_cons_zero, List.set_cons_succ]
  refine wpAnyH_ready (rs := [3]) (by kernel_rfl) (by simp) ?_
  refine AllReadyH.cons (o := { dst := some 40, op := Go.Op.call { callee := Go.Callee.value (Go.Operand.func 65), args := #[Go.Operand.tmp 39, Go.Operand.const (Go.Value.int Go.IntKind.i64 1)], argTypes := #[26, 3] }, type := 9, pos := "ref.go:40", after := #[{ on := 2, ground := Go.Ground.data }], guard := none }) rfl (fun K hK => ?_) AllReadyH.nil
  go_simp
  refine (text_any ttl 1 (by omega) (by omega) (by omega) _).mono ?_
  rintro e v0 ⟨rfl, hx⟩
  have hS1 := hS0.trans hx
  clear hx
  refine hK.out _ _ hS1 (fun _ => ?_)
  refine wpAnyH_take (i := 4) (oi := { dst := some 41, op := Go.Op.binOp Go.BinOp.add 9 (Go.Operand.tmp 37) (Go.Operand.tmp 40) 9, type := 9, pos := "ref.go:40", after := #[{ on := 0, ground := Go.Ground.data }, { on := 3, ground := Go.Ground.data }], guard := none }) (v := ?v26) rfl (by kernel_rfl) (by kernel_rfl) (by kernel_rfl) (fun _ _ _ h => h) (Or.inl ⟨by rfl, ?hy26⟩) (by assumption) ?rest26
  case hy26 => (intro w hSw; (try dsimp only at hSw); have ecrb05 := hSw.cell crb05 id; have ecrb06 := hSw.cell crb06 id; have ecrb07 := hSw.cell crb07 id; have ecrb08 := hSw.cell crb08 id; go_simp <;> with_reducible rfl)
  try simp only [Act.put, List.setIfInBounds_toArray, List.set_cons_zero, List.set_cons_succ]
  refine wpAnyH_ready (rs := [7]) (by kernel_rfl) (by simp) ?_
  refine AllReadyH.cons (o := { dst := some 44, op := Go.Op.call { callee := Go.Callee.value (Go.Operand.func 65), args := #[Go.Operand.tmp 43, Go.Operand.const (Go.Value.int Go.IntKind.i64 1)], argTypes := #[26, 3] }, type := 9, pos := "ref.go:40", after := #[{ on := 6, ground := Go.Ground.data }, { on := 3, ground := Go.Ground.chain }], guard := none }) rfl (fun K hK => ?_) AllReadyH.nil
  go_simp
  refine (text_any pr 1 (by omega) (by omega) (by omega) _).mono ?_
  rintro e v1 ⟨rfl, hx⟩
  have hS2 := hS1.trans hx
  clear hx
  refine hK.out _ _ hS2 (fun _ => ?_)
  refine wpAnyH_take (i := 8) (oi := { dst := some 45, op := Go.Op.binOp Go.BinOp.add 9 (Go.Operand.tmp 41) (Go.Operand.tmp 44) 9, type := 9, pos := "ref.go:40", after := #[{ on := 4, ground := Go.Ground.data }, { on := 7, ground := Go.Ground.data }], guard := none }) (v := ?v27) rfl (by kernel_rfl) (by kernel_rfl) (by kernel_rfl) (fun _ _ _ h => h) (Or.inl ⟨by rfl, ?hy27⟩) (by assumption) ?rest27
  case hy27 => (intro w hSw; (try dsimp only at hSw); have ecrb05 := hSw.cell crb05 id; have ecrb06 := hSw.cell crb06 id; have ecrb07 := hSw.cell crb07 id; have ecrb08 := hSw.cell crb08 id; go_simp <;> with_reducible rfl)
  try simp only [Act.put, List.setIfInBounds_toArray, List.set_cons_zero, List.set_cons_succ]
  refine wpAnyH_ready (rs := [10]) (by kernel_rfl) (by simp) ?_
  refine AllReadyH.cons (o := { dst := some 47, op := Go.Op.call { callee := Go.Callee.value (Go.Operand.func 65), args := #[Go.Operand.tmp 46, Go.Operand.const (Go.Value.int Go.IntKind.i64 2)], argTypes := #[26, 3] }, type := 9, pos := "ref.go:40", after := #[{ on := 9, ground := Go.Ground.data }, { on := 7, ground := Go.Ground.chain }], guard := none }) rfl (fun K hK => ?_) AllReadyH.nil
  go_simp
  refine (text_any s 2 (by omega) (by omega) (by omega) _).mono ?_
  rintro e v2 ⟨rfl, hx⟩
  have hS3 := hS2.trans hx
  clear hx
  refine hK.out _ _ hS3 (fun _ => ?_)
  refine wpAnyH_take (i := 11) (oi := { dst := some 48, op := Go.Op.binOp Go.BinOp.add 9 (Go.Operand.tmp 45) (Go.Operand.tmp 47) 9, type := 9, pos := "ref.go:40", after := #[{ on := 8, ground := Go.Ground.data }, { on := 10, ground := Go.Ground.data }], guard := none }) (v := ?v28) rfl (by kernel_rfl) (by kernel_rfl) (by kernel_rfl) (fun _ _ _ h => h) (Or.inl ⟨by rfl, ?hy28⟩) (by assumption) ?rest28
  case hy28 => (intro w hSw; (try dsimp only at hSw); have ecrb05 := hSw.cell crb05 id; have ecrb06 := hSw.cell crb06 id; have ecrb07 := hSw.cell crb07 id; have ecrb08 := hSw.cell crb08 id; go_simp <;> with_reducible rfl)
  try simp only [Act.put, List.setIfInBounds_toArray, List.set_cons_zero, List.set_cons_succ]
  refine wpAnyH_ready (rs := [14]) (by kernel_rfl) (by simp) ?_
  refine AllReadyH.cons (o := { dst := some 51, op := Go.Op.call { callee := Go.Callee.value (Go.Operand.func 65), args := #[Go.Operand.tmp 50, Go.Operand.const (Go.Value.int Go.IntKind.i64 4)], argTypes := #[26, 3] }, type := 9, pos := "ref.go:40", after := #[{ on := 13, ground := Go.Ground.data }, { on := 10, ground := Go.Ground.chain }], guard := none }) rfl (fun K hK => ?_) AllReadyH.nil
  go_simp
  refine (text_any src 4 (by omega) (by omega) (by omega) _).mono ?_
  rintro e v3 ⟨rfl, hx⟩
  have hS4 := hS3.trans hx
  clear hx
  refine hK.out _ _ hS4 (fun _ => ?_)
  refine wpAnyH_take (i := 15) (oi := { dst := some 52, op := Go.Op.binOp Go.BinOp.add 9 (Go.Operand.tmp 48) (Go.Operand.tmp 51) 9, type := 9, pos := "ref.go:40", after := #[{ on := 11, ground := Go.Ground.data }, { on := 14, ground := Go.Ground.data }], guard := none }) (v := ?v29) rfl (by kernel_rfl) (by kernel_rfl) (by kernel_rfl) (fun _ _ _ h => h) (Or.inl ⟨by rfl, ?hy29⟩) (by assumption) ?rest29
  case hy29 => (intro w hSw; (try dsimp only at hSw); have ecrb05 := hSw.cell crb05 id; have ecrb06 := hSw.cell crb06 id; have ecrb07 := hSw.cell crb07 id; have ecrb08 := hSw.cell crb08 id; go_simp <;> with_reducible rfl)
  try simp only [Act.put, List.setIfInBounds_toArray, List.set_cons_zero, List.set_cons_succ]
  refine wpAnyH_ready (rs := [18]) (by kernel_rfl) (by simp) ?_
  refine AllReadyH.cons (o := { dst := some 55, op := Go.Op.call { callee := Go.Callee.value (Go.Operand.func 65), args := #[Go.Operand.tmp 54, Go.Operand.const (Go.Value.int Go.IntKind.i64 4)], argTypes := #[26, 3] }, type := 9, pos := "ref.go:40", after := #[{ on := 17, ground := Go.Ground.data }, { on := 14, ground := Go.Ground.chain }], guard := none }) rfl (fun K hK => ?_) AllReadyH.nil
  go_simp
  refine (text_any dst 4 (by omega) (by omega) (by omega) _).mono ?_
  rintro e v4 ⟨rfl, hx⟩
  have hS5 := hS4.trans hx
  clear hx
  refine hK.out _ _ hS5 (fun _ => ?_)
  refine wpAnyH_take (i := 19) (oi := { dst := some 56, op := Go.Op.binOp Go.BinOp.add 9 (Go.Operand.tmp 52) (Go.Operand.tmp 55) 9, type := 9, pos := "ref.go:40", after := #[{ on := 15, ground := Go.Ground.data }, { on := 18, ground := Go.Ground.data }], guard := none }) (v := ?v30) rfl (by kernel_rfl) (by kernel_rfl) (by kernel_rfl) (fun _ _ _ h => h) (Or.inl ⟨by rfl, ?hy30⟩) (by assumption) ?rest30
  case hy30 => (intro w hSw; (try dsimp only at hSw); have ecrb05 := hSw.cell crb05 id; have ecrb06 := hSw.cell crb06 id; have ecrb07 := hSw.cell crb07 id; have ecrb08 := hSw.cell crb08 id; go_simp <;> with_reducible rfl)
  try simp only [Act.put, List.setIfInBounds_toArray, List.set_cons_zero, List.set_cons_succ]
  refine wpAnyH_take (i := 20) (oi := { dst := some 4, op := Go.Op.assign (Go.Operand.tmp 56), type := 9, pos := "ref.go:40", after := #[{ on := 19, ground := Go.Ground.data }, { on := 18, ground := Go.Ground.chain }, { on := 0, ground := Go.Ground.phase }, { on := 1, ground := Go.Ground.phase }, { on := 2, ground := Go.Ground.phase }, { on := 3, ground := Go.Ground.phase }, { on := 4, ground := Go.Ground.phase }, { on := 5, ground := Go.Ground.phase }, { on := 6, ground := Go.Ground.phase }, { on := 7, ground := Go.Ground.phase }, { on := 8, ground := Go.Ground.phase }, { on := 9, ground := Go.Ground.phase }, { on := 10, ground := Go.Ground.phase }, { on := 11, ground := Go.Ground.phase }, { on := 12, ground := Go.Ground.phase }, { on := 13, ground := Go.Ground.phase }, { on := 14, ground := Go.Ground.phase }, { on := 15, ground := Go.Ground.phase }, { on := 16, ground := Go.Ground.phase }, { on := 17, ground := Go.Ground.phase }, { on := 18, ground := Go.Ground.phase }, { on := 19, ground := Go.Ground.phase }], guard := none }) (v := ?v31) rfl (by kernel_rfl) (by kernel_rfl) (by kernel_rfl) (fun _ _ _ h => h) (Or.inl ⟨by rfl, ?hy31⟩) (by assumption) ?rest31
  case hy31 => (intro w hSw; (try dsimp only at hSw); have ecrb05 := hSw.cell crb05 id; have ecrb06 := hSw.cell crb06 id; have ecrb07 := hSw.cell crb07 id; have ecrb08 := hSw.cell crb08 id; go_simp <;> with_reducible rfl)
  try simp only [Act.put, List.setIfInBounds_toArray, List.set_cons_zero, List.set_cons_succ]
  refine wpAnyH_done (by kernel_rfl) ?_ _
  have hx := hS5
  clear hS0 hS1 hS2 hS3 hS4 hS5 crb00 crb01 crb02 crb03 crb04 crb05 crb06 crb07 crb08 crb09
  have HX_v4 := Lib.hid hx
  clear hx
  go_wp2_with fail
  go_ret
  rw [← HFIN.out]
  exact ⟨rfl, ((HX_w1.out.trans HX_v3.out).trans HX_v4.out)⟩
set_option maxRecDepth 100000 in
set_option maxHeartbeats 4000000 in
theorem rhead_ft (tos ident off ttl pr src dst s : Int) (b : List UInt8) (w : World) (ok : (⟨tos, ident, false, true, off, ttl, pr, src, dst, b⟩ : Pk).ok) (hright : (⟨tos, ident, false, true, off, ttl, pr, src, dst, b⟩ : Pk).right = 0) (hs : 0 ≤ s ∧ s ≤ 65535) :
    Calls Tryd.prog 57 #[.agg #[.int .u32 tos, .int .u32 ident, .bool false, .bool true, .int .i64 off, .int .u32 ttl, .int .u32 pr, .int .u32 src, .int .u32 dst, .string (bs b)], .int .u32 s] w fun e w' => e = .returned (.string (bs ((⟨tos, ident, false, true, off, ttl, pr, src, dst, b⟩ : Pk).hd s).bytes)) ∧ Ex (fun _ => False) w w' := by
  obtain ⟨k1, k2, _, _, k5⟩ := Pk.right_zero hright
  obtain ⟨o0, o1, _, o3, o4, o5, o6⟩ := ok
  simp only at k1 k2 k5 o0 o1 o3 o4 o5 o6
  obtain ⟨o00, o01⟩ := o0
  obtain ⟨o10, o11⟩ := o1
  obtain ⟨o30, o31⟩ := o3
  obtain ⟨o40, o41⟩ := o4
  obtain ⟨o50, o51⟩ := o5
  obtain ⟨o60, o61⟩ := o6
  obtain ⟨s0, s1⟩ := hs
  have k6 : off ≤ 65515 := by omega
  have k7 : (b.length : Int) ≤ 65515 := by omega
  have hbits : (⟨tos, ident, false, true, off, ttl, pr, src, dst, b⟩ : Pk).bits = off / 8 + 8192 := by show off / 8 + 0 + 8192 = off / 8 + 8192; omega
  have hz := bs_size b
  have q1 := IntWalk.u32_in (off / 8) (by omega)
  have q2 := IntWalk.u32_in (20 + (b.length : Int)) (by omega)
  have q3 := IntWalk.i64_in (20 + (b.length : Int)) (by omega)
  have q4 := IntWalk.u32_in (off / 8 + 8192) (by omega)
  have q5 := IntWalk.u32_in (off / 8 + 8192) (by omega)
  have hfin : [69] ++ txt tos 1 ++ txt (20 + (b.length : Int)) 2 ++ txt ident 2 ++ txt (off / 8 + 8192) 2 ++ txt ttl 1 ++ txt pr 1 ++ txt s 2 ++ txt src 4 ++ txt dst 4 = ((⟨tos, ident, false, true, off, ttl, pr, src, dst, b⟩ : Pk).hd s).bytes := by
    rw [← hbits]
    have h69 : by8 69 = 69 := by decide
    show _ = by8 69 :: _
    rw [h69]
    rfl
  have HFIN := Lib.hid hfin
  have K2 := Lib.hid k2
  clear hbits hfin hright k2
  have b69 : bs [69] = ⟨#[69]⟩ := rfl
  obtain ⟨L1, hL1⟩ : ∃ L, [69] ++ txt tos 1 = L := ⟨_, rfl⟩
  have a1 := bs_append [69] (txt tos 1)
  rw [hL1] at a1
  have z1 : (bs L1).size = 2 := by rw [bs_size, ← hL1, List.length_append, txt_len]; rfl
  have y1 : (bs (txt tos 1)).size = 1 := by rw [bs_size, txt_len]
  rw [hL1] at HFIN
  obtain ⟨L2, hL2⟩ : ∃ L, L1 ++ txt (20 + (b.length : Int)) 2 = L := ⟨_, rfl⟩
  have a2 := bs_append L1 (txt (20 + (b.length : Int)) 2)
  rw [hL2] at a2
  have z2 : (bs L2).size = 4 := by rw [bs_size, ← hL2, List.length_append, txt_len]; have := z1; rw [bs_size] at this; omega
  have y2 : (bs (txt (20 + (b.length : Int)) 2)).size = 2 := by rw [bs_size, txt_len]
  rw [hL2] at HFIN
  obtain ⟨L3, hL3⟩ : ∃ L, L2 ++ txt ident 2 = L := ⟨_, rfl⟩
  have a3 := bs_append L2 (txt ident 2)
  rw [hL3] at a3
  have z3 : (bs L3).size = 6 := by rw [bs_size, ← hL3, List.length_append, txt_len]; have := z2; rw [bs_size] at this; omega
  have y3 : (bs (txt ident 2)).size = 2 := by rw [bs_size, txt_len]
  rw [hL3] at HFIN
  obtain ⟨L4, hL4⟩ : ∃ L, L3 ++ txt (off / 8 + 8192) 2 = L := ⟨_, rfl⟩
  have a4 := bs_append L3 (txt (off / 8 + 8192) 2)
  rw [hL4] at a4
  have z4 : (bs L4).size = 8 := by rw [bs_size, ← hL4, List.length_append, txt_len]; have := z3; rw [bs_size] at this; omega
  have y4 : (bs (txt (off / 8 + 8192) 2)).size = 2 := by rw [bs_size, txt_len]
  rw [hL4] at HFIN
  obtain ⟨L5, hL5⟩ : ∃ L, L4 ++ txt ttl 1 = L := ⟨_, rfl⟩
  have a5 := bs_append L4 (txt ttl 1)
  rw [hL5] at a5
  have z5 : (bs L5).size = 9 := by rw [bs_size, ← hL5, List.length_append, txt_len]; have := z4; rw [bs_size] at this; omega
  have y5 : (bs (txt ttl 1)).size = 1 := by rw [bs_size, txt_len]
  rw [hL5] at HFIN
  obtain ⟨L6, hL6⟩ : ∃ L, L5 ++ txt pr 1 = L := ⟨_, rfl⟩
  have a6 := bs_append L5 (txt pr 1)
  rw [hL6] at a6
  have z6 : (bs L6).size = 10 := by rw [bs_size, ← hL6, List.length_append, txt_len]; have := z5; rw [bs_size] at this; omega
  have y6 : (bs (txt pr 1)).size = 1 := by rw [bs_size, txt_len]
  rw [hL6] at HFIN
  obtain ⟨L7, hL7⟩ : ∃ L, L6 ++ txt s 2 = L := ⟨_, rfl⟩
  have a7 := bs_append L6 (txt s 2)
  rw [hL7] at a7
  have z7 : (bs L7).size = 12 := by rw [bs_size, ← hL7, List.length_append, txt_len]; have := z6; rw [bs_size] at this; omega
  have y7 : (bs (txt s 2)).size = 2 := by rw [bs_size, txt_len]
  rw [hL7] at HFIN
  obtain ⟨L8, hL8⟩ : ∃ L, L7 ++ txt src 4 = L := ⟨_, rfl⟩
  have a8 := bs_append L7 (txt src 4)
  rw [hL8] at a8
  have z8 : (bs L8).size = 16 := by rw [bs_size, ← hL8, List.length_append, txt_len]; have := z7; rw [bs_size] at this; omega
  have y8 : (bs (txt src 4)).size = 4 := by rw [bs_size, txt_len]
  rw [hL8] at HFIN
  obtain ⟨L9, hL9⟩ : ∃ L, L8 ++ txt dst 4 = L := ⟨_, rfl⟩
  have a9 := bs_append L8 (txt dst 4)
  rw [hL9] at a9
  have z9 : (bs L9).size = 20 := by rw [bs_size, ← hL9, List.length_append, txt_len]; have := z8; rw [bs_size] at this; omega
  have y9 : (bs (txt dst 4)).size = 4 := by rw [bs_size, txt_len]
  rw [hL9] at HFIN
  rw [b69] at a1
  clear hL1 hL2 hL3 hL4 hL5 hL6 hL7 hL8 hL9
  go_enter Tryd.func57, Tryd.ntmps57
  go_upto_region 1 with fail
  have hx : Ex (fun _ => False) w (w.alloc (.cells #[.int .u32 tos, .int .u32 ident, .bool false, .bool true, .int .i64 off, .int .u32 ttl, .int .u32 pr, .int .u32 src, .int .u32 dst, .string (bs b)] 55)) := (Ex.refl _ w).alloc _
  have hb : (w.alloc (.cells #[.int .u32 tos, .int .u32 ident, .bool false, .bool true, .int .i64 off, .int .u32 ttl, .int .u32 pr, .int .u32 src, .int .u32 dst, .string (bs b)] 55)).heap[w.heap.size]? = some (.cells #[.int .u32 tos, .int .u32 ident, .bool false, .bool true, .int .i64 off, .int .u32 ttl, .int .u32 pr, .int .u32 src, .int .u32 dst, .string (bs b)] 55) := heap_alloc_new w _
  obtain ⟨rb0, hrb0⟩ : ∃ rb0, rb0 = w.heap.size := ⟨_, rfl⟩
  have hb_rb0 : w.heap.size ≤ rb0 := by omega
  rw [← hrb0] at hb
  try simp only [← hrb0]
  generalize w.alloc (.cells #[.int .u32 tos, .int .u32 ident, .bool false, .bool true, .int .i64 off, .int .u32 ttl, .int .u32 pr, .int .u32 src, .int .u32 dst, .string (bs b)] 55) = w1 at hx hb ⊢
  clear hrb0
  have HX_w1 := Lib.hid hx
  clear hx
  have B_rb0 := Lib.hid hb
  clear hb
  have crb00 := row_cell (k := 0) (v := .int .u32 tos) B_rb0.out rfl
  have crb01 := row_cell (k := 1) (v := .int .u32 ident) B_rb0.out rfl
  have crb02 := row_cell (k := 2) (v := .bool false) B_rb0.out rfl
  have crb03 := row_cell (k := 3) (v := .bool true) B_rb0.out rfl
  have crb04 := row_cell (k := 4) (v := .int .i64 off) B_rb0.out rfl
  have crb05 := row_cell (k := 5) (v := .int .u32 ttl) B_rb0.out rfl
  have crb06 := row_cell (k := 6) (v := .int .u32 pr) B_rb0.out rfl
  have crb07 := row_cell (k := 7) (v := .int .u32 src) B_rb0.out rfl
  have crb08 := row_cell (k := 8) (v := .int .u32 dst) B_rb0.out rfl
  have crb09 := row_cell (k := 9) (v := .string (bs b)) B_rb0.out rfl
  go_upto_region 6 with fail
  have hS0 : Ex (fun _ => False) w1 w1.drew := (Ex.refl _ w1).drew
  refine wp_region_held_drew (S := fun W => Ex (fun _ => False) w1 W) (by kernel_rfl) hS0 (fun _ => ?_)
  refine wpAnyH_take (i := 0) (oi := { dst := some 19, op := Go.Op.fieldAddr 55 (Go.Operand.tmp 2) 0, type := 0, pos := "ref.go:39", after := #[], guard := none }) (v := ?v32) rfl (by kernel_rfl) (by kernel_rfl) (by kernel_rfl) (fun _ _ _ h => h) (Or.inl ⟨by rfl, ?hy32⟩) (by assumption) ?rest32
  case hy32 => (intro w hSw; (try dsimp only at hSw); have ecrb00 := hSw.cell crb00 id; have ecrb01 := hSw.cell crb01 id; have ecrb09 := hSw.cell crb09 id; go_simp <;> with_reducible rfl)
  try simp only [Act.put, List.setIfInBounds_toArray, List.set_cons_zero, List.set_cons_succ]
  refine wpAnyH_take (i := 1) (oi := { dst := some 20, op := Go.Op.load 26 (Go.Operand.tmp 19), type := 26, pos := "ref.go:39", after := #[{ on := 0, ground := Go.Ground.data }], guard := none }) (v := ?v33) rfl (by kernel_rfl) (by kernel_rfl) (by kernel_rfl) (fun _ _ _ h => h) (Or.inl ⟨by rfl, ?hy33⟩) (by assumption) ?rest33
  case hy33 => (intro w hSw; (try dsimp only at hSw); have ecrb00 := hSw.cell crb00 id; have ecrb01 := hSw.cell crb01 id; have ecrb09 := hSw.cell crb09 id; go_simp <;> with_reducible rfl)
  try simp only [Act.put, List.setIfInBounds_toArray, List.set_cons_zero, List.set_cons_succ]
  refine wpAnyH_take (i := 4) (oi := { dst := some 23, op := Go.Op.fieldAddr 55 (Go.Operand.tmp 2) 9, type := 0, pos := "ref.go:39", after := #[], guard := none }) (v := ?v34) rfl (by kernel_rfl) (by kernel_rfl) (by kernel_rfl) (fun _ _ _ h => h) (Or.inl ⟨by rfl, ?hy34⟩) (by assumption) ?rest34
  case hy34 => (intro w hSw; (try dsimp only at hSw); have ecrb00 := hSw.cell crb00 id; have ecrb01 := hSw.cell crb01 id; have ecrb09 := hSw.cell crb09 id; go_simp <;> with_reducible rfl)
  try simp only [Act.put, List.setIfInBounds_toArray, List.set_cons_zero, List.set_cons_succ]
  refine wpAnyH_take (i := 5) (oi := { dst := some 24, op := Go.Op.load 9 (Go.Operand.tmp 23), type := 9, pos := "ref.go:39", after := #[{ on := 4, ground := Go.Ground.data }], guard := none }) (v := ?v35) rfl (by kernel_rfl) (by kernel_rfl) (by kernel_rfl) (fun _ _ _ h => h) (Or.inl ⟨by rfl, ?hy35⟩) (by assumption) ?rest35
  case hy35 => (intro w hSw; (try dsimp only at hSw); have ecrb00 := hSw.cell crb00 id; have ecrb01 := hSw.cell crb01 id; have ecrb09 := hSw.cell crb09 id; go_simp <;> with_reducible rfl)
  try simp only [Act.put, List.setIfInBounds_toArray, List.set_cons_zero, List.set_cons_succ]
  refine wpAnyH_take (i := 6) (oi := { dst := some 25, op := Go.Op.call { callee := Go.Callee.builtin Go.Builtin.len, args := #[Go.Operand.tmp 24], argTypes := #[9] }, type := 3, pos := "ref.go:39", after := #[{ on := 5, ground := Go.Ground.data }], guard := none }) (v := ?v36) rfl (by kernel_rfl) (by kernel_rfl) (by kernel_rfl) (fun _ _ _ h => h) (Or.inl ⟨by rfl, ?hy36⟩) (by assumption) ?rest36
  case hy36 => (intro w hSw; (try dsimp only at hSw); have ecrb00 := hSw.cell crb00 id; have ecrb01 := hSw.cell crb01 id; have ecrb09 := hSw.cell crb09 id; go_simp <;> with_reducible rfl)
  try simp only [Act.put, List.setIfInBounds_toArray, List.set_cons_zero, List.set_cons_succ]
  refine wpAnyH_take (i := 7) (oi := { dst := some 26, op := Go.Op.binOp Go.BinOp.add 3 (Go.Operand.const (Go.Value.int Go.IntKind.i64 20)) (Go.Operand.tmp 25) 3, type := 3, pos := "ref.go:39", after := #[{ on := 6, ground := Go.Ground.data }], guard := none }) (v := ?v37) rfl (by kernel_rfl) (by kernel_rfl) (by kernel_rfl) (fun _ _ _ h => h) (Or.inl ⟨by rfl, ?hy37⟩) (by assumption) ?rest37
  case hy37 => (intro w hSw; (try dsimp only at hSw); have ecrb00 := hSw.cell crb00 id; have ecrb01 := hSw.cell crb01 id; have ecrb09 := hSw.cell crb09 id; go_simp <;> with_reducible rfl)
  try simp only [Act.put, List.setIfInBounds_toArray, List.set_cons_zero, List.set_cons_succ]
  refine wpAnyH_take (i := 8) (oi := { dst := some 27, op := Go.Op.convert 3 26 (Go.Operand.tmp 26), type := 26, pos := "ref.go:39", after := #[{ on := 7, ground := Go.Ground.data }], guard := none }) (v := ?v38) rfl (by kernel_rfl) (by kernel_rfl) (by kernel_rfl) (fun _ _ _ h => h) (Or.inl ⟨by rfl, ?hy38⟩) (by assumption) ?rest38
  case hy38 => (intro w hSw; (try dsimp only at hSw); have ecrb00 := hSw.cell crb00 id; have ecrb01 := hSw.cell crb01 id; have ecrb09 := hSw.cell crb09 id; go_simp <;> with_reducible rfl)
  try simp only [Act.put, List.setIfInBounds_toArray, List.set_cons_zero, List.set_cons_succ]
  refine wpAnyH_take (i := 11) (oi := { dst := some 30, op := Go.Op.fieldAddr 55 (Go.Operand.tmp 2) 1, type := 0, pos := "ref.go:39", after := #[], guard := none }) (v := ?v39) rfl (by kernel_rfl) (by kernel_rfl) (by kernel_rfl) (fun _ _ _ h => h) (Or.inl ⟨by rfl, ?hy39⟩) (by assumption) ?rest39
  case hy39 => (intro w hSw; (try dsimp only at hSw); have ecrb00 := hSw.cell crb00 id; have ecrb01 := hSw.cell crb01 id; have ecrb09 := hSw.cell crb09 id; go_simp <;> with_reducible rfl)
  try simp only [Act.put, List.setIfInBounds_toArray, List.set_cons_zero, List.set_cons_succ]
  refine wpAnyH_take (i := 12) (oi := { dst := some 31, op := Go.Op.load 26 (Go.Operand.tmp 30), type := 26, pos := "ref.go:39", after := #[{ on := 11, ground := Go.Ground.data }], guard := none }) (v := ?v40) rfl (by kernel_rfl) (by kernel_rfl) (by kernel_rfl) (fun _ _ _ h => h) (Or.inl ⟨by rfl, ?hy40⟩) (by assumption) ?rest40
  case hy40 => (intro w hSw; (try dsimp only at hSw); have ecrb00 := hSw.cell crb00 id; have ecrb01 := hSw.cell crb01 id; have ecrb09 := hSw.cell crb09 id; go_simp <;> with_reducible rfl)
  try simp only [Act.put, List.setIfInBounds_toArray, List.set_cons_zero, List.set_cons_succ]
  refine wpAnyH_take (i := 15) (oi := { dst := some 34, op := Go.Op.move (Go.Operand.tmp 5), type := 26, pos := "ref.go:39", after := #[], guard := none }) (v := ?v41) rfl (by kernel_rfl) (by kernel_rfl) (by kernel_rfl) (fun _ _ _ h => h) (Or.inl ⟨by rfl, ?hy41⟩) (by assumption) ?rest41
  case hy41 => (intro w hSw; (try dsimp only at hSw); have ecrb00 := hSw.cell crb00 id; have ecrb01 := hSw.cell crb01 id; have ecrb09 := hSw.cell crb09 id; go_simp <;> with_reducible rfl)
  try simp only [Act.put, List.setIfInBounds_toArray, List.set_cons_zero, List.set_cons_succ]
  refine wpAnyH_ready (rs := [2]) (by kernel_rfl) (by simp) ?_
  refine AllReadyH.cons (o := { dst := some 21, op := Go.Op.call { callee := Go.Callee.value (Go.Operand.func 65), args := #[Go.Operand.tmp 20, Go.Operand.const (Go.Value.int Go.IntKind.i64 1)], argTypes := #[26, 3] }, type := 9, pos := "ref.go:39", after := #[{ on := 1, ground := Go.Ground.data }], guard := none }) rfl (fun K hK => ?_) AllReadyH.nil
  go_simp
  refine (text_any tos 1 (by omega) (by omega) (by omega) _).mono ?_
  rintro e v0 ⟨rfl, hx⟩
  have hS1 := hS0.trans hx
  clear hx
  refine hK.out _ _ hS1 (fun _ => ?_)
  refine wpAnyH_take (i := 3) (oi := { dst := some 22, op := Go.Op.binOp Go.BinOp.add 9 (Go.Operand.const (Go.Value.string { data := #[69] })) (Go.Operand.tmp 21) 9, type := 9, pos := "ref.go:39", after := #[{ on := 2, ground := Go.Ground.data }], guard := none }) (v := ?v42) rfl (by kernel_rfl) (by kernel_rfl) (by kernel_rfl) (fun _ _ _ h => h) (Or.inl ⟨by rfl, ?hy42⟩) (by assumption) ?rest42
  case hy42 => (intro w hSw; (try dsimp only at hSw); have ecrb00 := hSw.cell crb00 id; have ecrb01 := hSw.cell crb01 id; have ecrb09 := hSw.cell crb09 id; go_simp <;> with_reducible rfl)
  try simp only [Act.put, List.setIfInBounds_toArray, List.set_cons_zero, List.set_cons_succ]
  refine wpAnyH_ready (rs := [9]) (by kernel_rfl) (by simp) ?_
  refine AllReadyH.cons (o := { dst := some 28, op := Go.Op.call { callee := Go.Callee.value (Go.Operand.func 65), args := #[Go.Operand.tmp 27, Go.Operand.const (Go.Value.int Go.IntKind.i64 2)], argTypes := #[26, 3] }, type := 9, pos := "ref.go:39", after := #[{ on := 8, ground := Go.Ground.data }, { on := 2, ground := Go.Ground.chain }], guard := none }) rfl (fun K hK => ?_) AllReadyH.nil
  go_simp
  refine (text_any (20 + (b.length : Int)) 2 (by omega) (by omega) (by omega) _).mono ?_
  rintro e v1 ⟨rfl, hx⟩
  have hS2 := hS1.trans hx
  clear hx
  refine hK.out _ _ hS2 (fun _ => ?_)
  refine wpAnyH_take (i := 10) (oi := { dst := some 29, op := Go.Op.binOp Go.BinOp.add 9 (Go.Operand.tmp 22) (Go.Operand.tmp 28) 9, type := 9, pos := "ref.go:39", after := #[{ on := 3, ground := Go.Ground.data }, { on := 9, ground := Go.Ground.data }], guard := none }) (v := ?v43) rfl (by kernel_rfl) (by kernel_rfl) (by kernel_rfl) (fun _ _ _ h => h) (Or.inl ⟨by rfl, ?hy43⟩) (by assumption) ?rest43
  case hy43 => (intro w hSw; (try dsimp only at hSw); have ecrb00 := hSw.cell crb00 id; have ecrb01 := hSw.cell crb01 id; have ecrb09 := hSw.cell crb09 id; go_simp <;> with_reducible rfl)
  try simp only [Act.put, List.setIfInBounds_toArray, List.set_cons_zero, List.set_cons_succ]
  refine wpAnyH_ready (rs := [13]) (by kernel_rfl) (by simp) ?_
  refine AllReadyH.cons (o := { dst := some 32, op := Go.Op.call { callee := Go.Callee.value (Go.Operand.func 65), args := #[Go.Operand.tmp 31, Go.Operand.const (Go.Value.int Go.IntKind.i64 2)], argTypes := #[26, 3] }, type := 9, pos := "ref.go:39", after := #[{ on := 12, ground := Go.Ground.data }, { on := 9, ground := Go.Ground.chain }], guard := none }) rfl (fun K hK => ?_) AllReadyH.nil
  go_simp
  refine (text_any ident 2 (by omega) (by omega) (by omega) _).mono ?_
  rintro e v2 ⟨rfl, hx⟩
  have hS3 := hS2.trans hx
  clear hx
  refine hK.out _ _ hS3 (fun _ => ?_)
  refine wpAnyH_take (i := 14) (oi := { dst := some 33, op := Go.Op.binOp Go.BinOp.add 9 (Go.Operand.tmp 29) (Go.Operand.tmp 32) 9, type := 9, pos := "ref.go:39", after := #[{ on := 10, ground := Go.Ground.data }, { on := 13, ground := Go.Ground.data }], guard := none }) (v := ?v44) rfl (by kernel_rfl) (by kernel_rfl) (by kernel_rfl) (fun _ _ _ h => h) (Or.inl ⟨by rfl, ?hy44⟩) (by assumption) ?rest44
  case hy44 => (intro w hSw; (try dsimp only at hSw); have ecrb00 := hSw.cell crb00 id; have ecrb01 := hSw.cell crb01 id; have ecrb09 := hSw.cell crb09 id; go_simp <;> with_reducible rfl)
  try simp only [Act.put, List.setIfInBounds_toArray, List.set_cons_zero, List.set_cons_succ]
  refine wpAnyH_ready (rs := [16]) (by kernel_rfl) (by simp) ?_
  refine AllReadyH.cons (o := { dst := some 35, op := Go.Op.call { callee := Go.Callee.value (Go.Operand.func 65), args := #[Go.Operand.tmp 34, Go.Operand.const (Go.Value.int Go.IntKind.i64 2)], argTypes := #[26, 3] }, type := 9, pos := "ref.go:39", after := #[{ on := 15, ground := Go.Ground.data }, { on := 13, ground := Go.Ground.chain }], guard := none }) rfl (fun K hK => ?_) AllReadyH.nil
  go_simp
  refine (text_any (off / 8 + 8192) 2 (by omega) (by omega) (by omega) _).mono ?_
  rintro e v3 ⟨rfl, hx⟩
  have hS4 := hS3.trans hx
  clear hx
  refine hK.out _ _ hS4 (fun _ => ?_)
  refine wpAnyH_take (i := 17) (oi := { dst := some 36, op := Go.Op.binOp Go.BinOp.add 9 (Go.Operand.tmp 33) (Go.Operand.tmp 35) 9, type := 9, pos := "ref.go:39", after := #[{ on := 14, ground := Go.Ground.data }, { on := 16, ground := Go.Ground.data }], guard := none }) (v := ?v45) rfl (by kernel_rfl) (by kernel_rfl) (by kernel_rfl) (fun _ _ _ h => h) (Or.inl ⟨by rfl, ?hy45⟩) (by assumption) ?rest45
  case hy45 => (intro w hSw; (try dsimp only at hSw); have ecrb00 := hSw.cell crb00 id; have ecrb01 := hSw.cell crb01 id; have ecrb09 := hSw.cell crb09 id; go_simp <;> with_reducible rfl)
  try simp only [Act.put, List.setIfInBounds_toArray, List.set_cons_zero, List.set_cons_succ]
  refine wpAnyH_take (i := 18) (oi := { dst := some 6, op := Go.Op.assign (Go.Operand.tmp 36), type := 9, pos := "ref.go:39", after := #[{ on := 17, ground := Go.Ground.data }, { on := 16, ground := Go.Ground.chain }, { on := 0, ground := Go.Ground.phase }, { on := 1, ground := Go.Ground.phase }, { on := 2, ground := Go.Ground.phase }, { on := 3, ground := Go.Ground.phase }, { on := 4, ground := Go.Ground.phase }, { on := 5, ground := Go.Ground.phase }, { on := 6, ground := Go.Ground.phase }, { on := 7, ground := Go.Ground.phase }, { on := 8, ground := Go.Ground.phase }, { on := 9, ground := Go.Ground.phase }, { on := 10, ground := Go.Ground.phase }, { on := 11, ground := Go.Ground.phase }, { on := 12, ground := Go.Ground.phase }, { on := 13, ground := Go.Ground.phase }, { on := 14, ground := Go.Ground.phase }, { on := 15, ground := Go.Ground.phase }, { on := 16, ground := Go.Ground.phase }, { on := 17, ground := Go.Ground.phase }], guard := none }) (v := ?v46) rfl (by kernel_rfl) (by kernel_rfl) (by kernel_rfl) (fun _ _ _ h => h) (Or.inl ⟨by rfl, ?hy46⟩) (by assumption) ?rest46
  case hy46 => (intro w hSw; (try dsimp only at hSw); have ecrb00 := hSw.cell crb00 id; have ecrb01 := hSw.cell crb01 id; have ecrb09 := hSw.cell crb09 id; go_simp <;> with_reducible rfl)
  try simp only [Act.put, List.setIfInBounds_toArray, List.set_cons_zero, List.set_cons_succ]
  refine wpAnyH_done (by kernel_rfl) ?_ _
  have hx := hS4
  clear hS0 hS1 hS2 hS3 hS4 crb00 crb01 crb02 crb03 crb04 crb05 crb06 crb07 crb08 crb09
  have HX_v3 := Lib.hid hx
  clear hx
  replace B_rb0 := Lib.hid ((HX_v3.out.block rb0 (row_lt B_rb0.out) id).trans B_rb0.out)
  have crb00 := row_cell (k := 0) (v := .int .u32 tos) B_rb0.out rfl
  have crb01 := row_cell (k := 1) (v := .int .u32 ident) B_rb0.out rfl
  have crb02 := row_cell (k := 2) (v := .bool false) B_rb0.out rfl
  have crb03 := row_cell (k := 3) (v := .bool true) B_rb0.out rfl
  have crb04 := row_cell (k := 4) (v := .int .i64 off) B_rb0.out rfl
  have crb05 := row_cell (k := 5) (v := .int .u32 ttl) B_rb0.out rfl
  have crb06 := row_cell (k := 6) (v := .int .u32 pr) B_rb0.out rfl
  have crb07 := row_cell (k := 7) (v := .int .u32 src) B_rb0.out rfl
  have crb08 := row_cell (k := 8) (v := .int .u32 dst) B_rb0.out rfl
  have crb09 := row_cell (k := 9) (v := .string (bs b)) B_rb0.out rfl
  go_upto_region 7 with fail
  have hS0 : Ex (fun _ => False) v3 v3.drew := (Ex.refl _ v3).drew
  refine wp_region_held_drew (S := fun W => Ex (fun _ => False) v3 W) (by kernel_rfl) hS0 (fun _ => ?_)
  refine wpAnyH_take (i := 0) (oi := { dst := some 37, op := Go.Op.move (Go.Operand.tmp 6), type := 9, pos := "ref.go:40", after := #[], guard := none }) (v := ?v47) rfl (by kernel_rfl) (by kernel_rfl) (by kernel_rfl) (fun _ _ _ h => h) (Or.inl ⟨by rfl, ?hy47⟩) (by assumption) ?rest47
  case hy47 => (intro w hSw; (try dsimp only at hSw); have ecrb05 := hSw.cell crb05 id; have ecrb06 := hSw.cell crb06 id; have ecrb07 := hSw.cell crb07 id; have ecrb08 := hSw.cell crb08 id; go_simp <;> with_reducible rfl)
  try simp only [Act.put, List.setIfInBounds_toArray, List.set_cons_zero, List.set_cons_succ]
  refine wpAnyH_take (i := 1) (oi := { dst := some 38, op := Go.Op.fieldAddr 55 (Go.Operand.tmp 2) 5, type := 0, pos := "ref.go:40", after := #[], guard := none }) (v := ?v48) rfl (by kernel_rfl) (by kernel_rfl) (by kernel_rfl) (fun _ _ _ h => h) (Or.inl ⟨by rfl, ?hy48⟩) (by assumption) ?rest48
  case hy48 => (intro w hSw; (try dsimp only at hSw); have ecrb05 := hSw.cell crb05 id; have ecrb06 := hSw.cell crb06 id; have ecrb07 := hSw.cell crb07 id; have ecrb08 := hSw.cell crb08 id; go_simp <;> with_reducible rfl)
  try simp only [Act.put, List.setIfInBounds_toArray, List.set_cons_zero, List.set_cons_succ]
  refine wpAnyH_take (i := 2) (oi := { dst := some 39, op := Go.Op.load 26 (Go.Operand.tmp 38), type := 26, pos := "ref.go:40", after := #[{ on := 1, ground := Go.Ground.data }], guard := none }) (v := ?v49) rfl (by kernel_rfl) (by kernel_rfl) (by kernel_rfl) (fun _ _ _ h => h) (Or.inl ⟨by rfl, ?hy49⟩) (by assumption) ?rest49
  case hy49 => (intro w hSw; (try dsimp only at hSw); have ecrb05 := hSw.cell crb05 id; have ecrb06 := hSw.cell crb06 id; have ecrb07 := hSw.cell crb07 id; have ecrb08 := hSw.cell crb08 id; go_simp <;> with_reducible rfl)
  try simp only [Act.put, List.setIfInBounds_toArray, List.set_cons_zero, List.set_cons_succ]
  refine wpAnyH_take (i := 5) (oi := { dst := some 42, op := Go.Op.fieldAddr 55 (Go.Operand.tmp 2) 6, type := 0, pos := "ref.go:40", after := #[], guard := none }) (v := ?v50) rfl (by kernel_rfl) (by kernel_rfl) (by kernel_rfl) (fun _ _ _ h => h) (Or.inl ⟨by rfl, ?hy50⟩) (by assumption) ?rest50
  case hy50 => (intro w hSw; (try dsimp only at hSw); have ecrb05 := hSw.cell crb05 id; have ecrb06 := hSw.cell crb06 id; have ecrb07 := hSw.cell crb07 id; have ecrb08 := hSw.cell crb08 id; go_simp <;> with_reducible rfl)
  try simp only [Act.put, List.setIfInBounds_toArray, List.set_cons_zero, List.set_cons_succ]
  refine wpAnyH_take (i := 6) (oi := { dst := some 43, op := Go.Op.load 26 (Go.Operand.tmp 42), type := 26, pos := "ref.go:40", after := #[{ on := 5, ground := Go.Ground.data }], guard := none }) (v := ?v51) rfl (by kernel_rfl) (by kernel_rfl) (by kernel_rfl) (fun _ _ _ h => h) (Or.inl ⟨by rfl, ?hy51⟩) (by assumption) ?rest51
  case hy51 => (intro w hSw; (try dsimp only at hSw); have ecrb05 := hSw.cell crb05 id; have ecrb06 := hSw.cell crb06 id; have ecrb07 := hSw.cell crb07 id; have ecrb08 := hSw.cell crb08 id; go_simp <;> with_reducible rfl)
  try simp only [Act.put, List.setIfInBounds_toArray, List.set_cons_zero, List.set_cons_succ]
  refine wpAnyH_take (i := 9) (oi := { dst := some 46, op := Go.Op.move (Go.Operand.tmp 1), type := 26, pos := "ref.go:40", after := #[], guard := none }) (v := ?v52) rfl (by kernel_rfl) (by kernel_rfl) (by kernel_rfl) (fun _ _ _ h => h) (Or.inl ⟨by rfl, ?hy52⟩) (by assumption) ?rest52
  case hy52 => (intro w hSw; (try dsimp only at hSw); have ecrb05 := hSw.cell crb05 id; have ecrb06 := hSw.cell crb06 id; have ecrb07 := hSw.cell crb07 id; have ecrb08 := hSw.cell crb08 id; go_simp <;> with_reducible rfl)
  try simp only [Act.put, List.setIfInBounds_toArray, List.set_cons_zero, List.set_cons_succ]
  refine wpAnyH_take (i := 12) (oi := { dst := some 49, op := Go.Op.fieldAddr 55 (Go.Operand.tmp 2) 7, type := 0, pos := "ref.go:40", after := #[], guard := none }) (v := ?v53) rfl (by kernel_rfl) (by kernel_rfl) (by kernel_rfl) (fun _ _ _ h => h) (Or.inl ⟨by rfl, ?hy53⟩) (by assumption) ?rest53
  case hy53 => (intro w hSw; (try dsimp only at hSw); have ecrb05 := hSw.cell crb05 id; have ecrb06 := hSw.cell crb06 id; have ecrb07 := hSw.cell crb07 id; have ecrb08 := hSw.cell crb08 id; go_simp <;> with_reducible rfl)
  try simp only [Act.put, List.setIfInBounds_toArray, List.set_cons_zero, List.set_cons_succ]
  refine wpAnyH_take (i := 13) (oi := { dst := some 50, op := Go.Op.load 26 (Go.Operand.tmp 49), type := 26, pos := "ref.go:40", after := #[{ on := 12, ground := Go.Ground.data }], guard := none }) (v := ?v54) rfl (by kernel_rfl) (by kernel_rfl) (by kernel_rfl) (fun _ _ _ h => h) (Or.inl ⟨by rfl, ?hy54⟩) (by assumption) ?rest54
  case hy54 => (intro w hSw; (try dsimp only at hSw); have ecrb05 := hSw.cell crb05 id; have ecrb06 := hSw.cell crb06 id; have ecrb07 := hSw.cell crb07 id; have ecrb08 := hSw.cell crb08 id; go_simp <;> with_reducible rfl)
  try simp only [Act.put, List.setIfInBounds_toArray, List.set_cons_zero, List.set_cons_succ]
  refine wpAnyH_take (i := 16) (oi := { dst := some 53, op := Go.Op.fieldAddr 55 (Go.Operand.tmp 2) 8, type := 0, pos := "ref.go:40", after := #[], guard := none }) (v := ?v55) rfl (by kernel_rfl) (by kernel_rfl) (by kernel_rfl) (fun _ _ _ h => h) (Or.inl ⟨by rfl, ?hy55⟩) (by assumption) ?rest55
  case hy55 => (intro w hSw; (try dsimp only at hSw); have ecrb05 := hSw.cell crb05 id; have ecrb06 := hSw.cell crb06 id; have ecrb07 := hSw.cell crb07 id; have ecrb08 := hSw.cell crb08 id; go_simp <;> with_reducible rfl)
  try simp only [Act.put, List.setIfInBounds_toArray, List.set_cons_zero, List.set_cons_succ]
  refine wpAnyH_take (i := 17) (oi := { dst := some 54, op := Go.Op.load 26 (Go.Operand.tmp 53), type := 26, pos := "ref.go:40", after := #[{ on := 16, ground := Go.Ground.data }], guard := none }) (v := ?v56) rfl (by kernel_rfl) (by kernel_rfl) (by kernel_rfl) (fun _ _ _ h => h) (Or.inl ⟨by rfl, ?hy56⟩) (by assumption) ?rest56
  case hy56 => (intro w hSw; (try dsimp only at hSw); have ecrb05 := hSw.cell crb05 id; have ecrb06 := hSw.cell crb06 id; have ecrb07 := hSw.cell crb07 id; have ecrb08 := hSw.cell crb08 id; go_simp <;> with_reducible rfl)
  try simp only [Act.put, List.setIfInBounds_toArray, List.set_cons_zero, List.set_cons_succ]
  refine wpAnyH_ready (rs := [3]) (by kernel_rfl) (by simp) ?_
  refine AllReadyH.cons (o := { dst := some 40, op := Go.Op.call { callee := Go.Callee.value (Go.Operand.func 65), args := #[Go.Operand.tmp 39, Go.Operand.const (Go.Value.int Go.IntKind.i64 1)], argTypes := #[26, 3] }, type := 9, pos := "ref.go:40", after := #[{ on := 2, ground := Go.Ground.data }], guard := none }) rfl (fun K hK => ?_) AllReadyH.nil
  go_simp
  refine (text_any ttl 1 (by omega) (by omega) (by omega) _).mono ?_
  rintro e v0 ⟨rfl, hx⟩
  have hS1 := hS0.trans hx
  clear hx
  refine hK.out _ _ hS1 (fun _ => ?_)
  refine wpAnyH_take (i := 4) (oi := { dst := some 41, op := Go.Op.binOp Go.BinOp.add 9 (Go.Operand.tmp 37) (Go.Operand.tmp 40) 9, type := 9, pos := "ref.go:40", after := #[{ on := 0, ground := Go.Ground.data }, { on := 3, ground := Go.Ground.data }], guard := none }) (v := ?v57) rfl (by kernel_rfl) (by kernel_rfl) (by kernel_rfl) (fun _ _ _ h => h) (Or.inl ⟨by rfl, ?hy57⟩) (by assumption) ?rest57
  case hy57 => (intro w hSw; (try dsimp only at hSw); have ecrb05 := hSw.cell crb05 id; have ecrb06 := hSw.cell crb06 id; have ecrb07 := hSw.cell crb07 id; have ecrb08 := hSw.cell crb08 id; go_simp <;> with_reducible rfl)
  try simp only [Act.put, List.setIfInBounds_toArray, List.set_cons_zero, List.set_cons_succ]
  refine wpAnyH_ready (rs := [7]) (by kernel_rfl) (by simp) ?_
  refine AllReadyH.cons (o := { dst := some 44, op := Go.Op.call { callee := Go.Callee.value (Go.Operand.func 65), args := #[Go.Operand.tmp 43, Go.Operand.const (Go.Value.int Go.IntKind.i64 1)], argTypes := #[26, 3] }, type := 9, pos := "ref.go:40", after := #[{ on := 6, ground := Go.Ground.data }, { on := 3, ground := Go.Ground.chain }], guard := none }) rfl (fun K hK => ?_) AllReadyH.nil
  go_simp
  refine (text_any pr 1 (by omega) (by omega) (by omega) _).mono ?_
  rintro e v1 ⟨rfl, hx⟩
  have hS2 := hS1.trans hx
  clear hx
  refine hK.out _ _ hS2 (fun _ => ?_)
  refine wpAnyH_take (i := 8) (oi := { dst := some 45, op := Go.Op.binOp Go.BinOp.add 9 (Go.Operand.tmp 41) (Go.Operand.tmp 44) 9, type := 9, pos := "ref.go:40", after := #[{ on := 4, ground := Go.Ground.data }, { on := 7, ground := Go.Ground.data }], guard := none }) (v := ?v58) rfl (by kernel_rfl) (by kernel_rfl) (by kernel_rfl) (fun _ _ _ h => h) (Or.inl ⟨by rfl, ?hy58⟩) (by assumption) ?rest58
  case hy58 => (intro w hSw; (try dsimp only at hSw); have ecrb05 := hSw.cell crb05 id; have ecrb06 := hSw.cell crb06 id; have ecrb07 := hSw.cell crb07 id; have ecrb08 := hSw.cell crb08 id; go_simp <;> with_reducible rfl)
  try simp only [Act.put, List.setIfInBounds_toArray, List.set_cons_zero, List.set_cons_succ]
  refine wpAnyH_ready (rs := [10]) (by kernel_rfl) (by simp) ?_
  refine AllReadyH.cons (o := { dst := some 47, op := Go.Op.call { callee := Go.Callee.value (Go.Operand.func 65), args := #[Go.Operand.tmp 46, Go.Operand.const (Go.Value.int Go.IntKind.i64 2)], argTypes := #[26, 3] }, type := 9, pos := "ref.go:40", after := #[{ on := 9, ground := Go.Ground.data }, { on := 7, ground := Go.Ground.chain }], guard := none }) rfl (fun K hK => ?_) AllReadyH.nil
  go_simp
  refine (text_any s 2 (by omega) (by omega) (by omega) _).mono ?_
  rintro e v2 ⟨rfl, hx⟩
  have hS3 := hS2.trans hx
  clear hx
  refine hK.out _ _ hS3 (fun _ => ?_)
  refine wpAnyH_take (i := 11) (oi := { dst := some 48, op := Go.Op.binOp Go.BinOp.add 9 (Go.Operand.tmp 45) (Go.Operand.tmp 47) 9, type := 9, pos := "ref.go:40", after := #[{ on := 8, ground := Go.Ground.data }, { on := 10, ground := Go.Ground.data }], guard := none }) (v := ?v59) rfl (by kernel_rfl) (by kernel_rfl) (by kernel_rfl) (fun _ _ _ h => h) (Or.inl ⟨by rfl, ?hy59⟩) (by assumption) ?rest59
  case hy59 => (intro w hSw; (try dsimp only at hSw); have ecrb05 := hSw.cell crb05 id; have ecrb06 := hSw.cell crb06 id; have ecrb07 := hSw.cell crb07 id; have ecrb08 := hSw.cell crb08 id; go_simp <;> with_reducible rfl)
  try simp only [Act.put, List.setIfInBounds_toArray, List.set_cons_zero, List.set_cons_succ]
  refine wpAnyH_ready (rs := [14]) (by kernel_rfl) (by simp) ?_
  refine AllReadyH.cons (o := { dst := some 51, op := Go.Op.call { callee := Go.Callee.value (Go.Operand.func 65), args := #[Go.Operand.tmp 50, Go.Operand.const (Go.Value.int Go.IntKind.i64 4)], argTypes := #[26, 3] }, type := 9, pos := "ref.go:40", after := #[{ on := 13, ground := Go.Ground.data }, { on := 10, ground := Go.Ground.chain }], guard := none }) rfl (fun K hK => ?_) AllReadyH.nil
  go_simp
  refine (text_any src 4 (by omega) (by omega) (by omega) _).mono ?_
  rintro e v3 ⟨rfl, hx⟩
  have hS4 := hS3.trans hx
  clear hx
  refine hK.out _ _ hS4 (fun _ => ?_)
  refine wpAnyH_take (i := 15) (oi := { dst := some 52, op := Go.Op.binOp Go.BinOp.add 9 (Go.Operand.tmp 48) (Go.Operand.tmp 51) 9, type := 9, pos := "ref.go:40", after := #[{ on := 11, ground := Go.Ground.data }, { on := 14, ground := Go.Ground.data }], guard := none }) (v := ?v60) rfl (by kernel_rfl) (by kernel_rfl) (by kernel_rfl) (fun _ _ _ h => h) (Or.inl ⟨by rfl, ?hy60⟩) (by assumption) ?rest60
  case hy60 => (intro w hSw; (try dsimp only at hSw); have ecrb05 := hSw.cell crb05 id; have ecrb06 := hSw.cell crb06 id; have ecrb07 := hSw.cell crb07 id; have ecrb08 := hSw.cell crb08 id; go_simp <;> with_reducible rfl)
  try simp only [Act.put, List.setIfInBounds_toArray, List.set_cons_zero, List.set_cons_succ]
  refine wpAnyH_ready (rs := [18]) (by kernel_rfl) (by simp) ?_
  refine AllReadyH.cons (o := { dst := some 55, op := Go.Op.call { callee := Go.Callee.value (Go.Operand.func 65), args := #[Go.Operand.tmp 54, Go.Operand.const (Go.Value.int Go.IntKind.i64 4)], argTypes := #[26, 3] }, type := 9, pos := "ref.go:40", after := #[{ on := 17, ground := Go.Ground.data }, { on := 14, ground := Go.Ground.chain }], guard := none }) rfl (fun K hK => ?_) AllReadyH.nil
  go_simp
  refine (text_any dst 4 (by omega) (by omega) (by omega) _).mono ?_
  rintro e v4 ⟨rfl, hx⟩
  have hS5 := hS4.trans hx
  clear hx
  refine hK.out _ _ hS5 (fun _ => ?_)
  refine wpAnyH_take (i := 19) (oi := { dst := some 56, op := Go.Op.binOp Go.BinOp.add 9 (Go.Operand.tmp 52) (Go.Operand.tmp 55) 9, type := 9, pos := "ref.go:40", after := #[{ on := 15, ground := Go.Ground.data }, { on := 18, ground := Go.Ground.data }], guard := none }) (v := ?v61) rfl (by kernel_rfl) (by kernel_rfl) (by kernel_rfl) (fun _ _ _ h => h) (Or.inl ⟨by rfl, ?hy61⟩) (by assumption) ?rest61
  case hy61 => (intro w hSw; (try dsimp only at hSw); have ecrb05 := hSw.cell crb05 id; have ecrb06 := hSw.cell crb06 id; have ecrb07 := hSw.cell crb07 id; have ecrb08 := hSw.cell crb08 id; go_simp <;> with_reducible rfl)
  try simp only [Act.put, List.setIfInBounds_toArray, List.set_cons_zero, List.set_cons_succ]
  refine wpAnyH_take (i := 20) (oi := { dst := some 4, op := Go.Op.assign (Go.Operand.tmp 56), type := 9, pos := "ref.go:40", after := #[{ on := 19, ground := Go.Ground.data }, { on := 18, ground := Go.Ground.chain }, { on := 0, ground := Go.Ground.phase }, { on := 1, ground := Go.Ground.phase }, { on := 2, ground := Go.Ground.phase }, { on := 3, ground := Go.Ground.phase }, { on := 4, ground := Go.Ground.phase }, { on := 5, ground := Go.Ground.phase }, { on := 6, ground := Go.Ground.phase }, { on := 7, ground := Go.Ground.phase }, { on := 8, ground := Go.Ground.phase }, { on := 9, ground := Go.Ground.phase }, { on := 10, ground := Go.Ground.phase }, { on := 11, ground := Go.Ground.phase }, { on := 12, ground := Go.Ground.phase }, { on := 13, ground := Go.Ground.phase }, { on := 14, ground := Go.Ground.phase }, { on := 15, ground := Go.Ground.phase }, { on := 16, ground := Go.Ground.phase }, { on := 17, ground := Go.Ground.phase }, { on := 18, ground := Go.Ground.phase }, { on := 19, ground := Go.Ground.phase }], guard := none }) (v := ?v62) rfl (by kernel_rfl) (by kernel_rfl) (by kernel_rfl) (fun _ _ _ h => h) (Or.inl ⟨by rfl, ?hy62⟩) (by assumption) ?rest62
  case hy62 => (intro w hSw; (try dsimp only at hSw); have ecrb05 := hSw.cell crb05 id; have ecrb06 := hSw.cell crb06 id; have ecrb07 := hSw.cell crb07 id; have ecrb08 := hSw.cell crb08 id; go_simp <;> with_reducible rfl)
  try simp only [Act.put, List.setIfInBounds_toArray, List.set_cons_zero, List.set_cons_succ]
  refine wpAnyH_done (by kernel_rfl) ?_ _
  have hx := hS5
  clear hS0 hS1 hS2 hS3 hS4 hS5 crb00 crb01 crb02 crb03 crb04 crb05 crb06 crb07 crb08 crb09
  have HX_v4 := Lib.hid hx
  clear hx
  go_wp2_with fail
  go_ret
  rw [← HFIN.out]
  exact ⟨rfl, ((HX_w1.out.trans HX_v3.out).trans HX_v4.out)⟩
set_option maxRecDepth 100000 in
set_option maxHeartbeats 4000000 in
theorem rhead_tf (tos ident off ttl pr src dst s : Int) (b : List UInt8) (w : World) (ok : (⟨tos, ident, true, false, off, ttl, pr, src, dst, b⟩ : Pk).ok) (hright : (⟨tos, ident, true, false, off, ttl, pr, src, dst, b⟩ : Pk).right = 0) (hs : 0 ≤ s ∧ s ≤ 65535) :
    Calls Tryd.prog 57 #[.agg #[.int .u32 tos, .int .u32 ident, .bool true, .bool false, .int .i64 off, .int .u32 ttl, .int .u32 pr, .int .u32 src, .int .u32 dst, .string (bs b)], .int .u32 s] w fun e w' => e = .returned (.string (bs ((⟨tos, ident, true, false, off, ttl, pr, src, dst, b⟩ : Pk).hd s).bytes)) ∧ Ex (fun _ => False) w w' := by
  obtain ⟨k1, k2, _, _, k5⟩ := Pk.right_zero hright
  obtain ⟨o0, o1, _, o3, o4, o5, o6⟩ := ok
  simp only at k1 k2 k5 o0 o1 o3 o4 o5 o6
  obtain ⟨o00, o01⟩ := o0
  obtain ⟨o10, o11⟩ := o1
  obtain ⟨o30, o31⟩ := o3
  obtain ⟨o40, o41⟩ := o4
  obtain ⟨o50, o51⟩ := o5
  obtain ⟨o60, o61⟩ := o6
  obtain ⟨s0, s1⟩ := hs
  have k6 : off ≤ 65515 := by omega
  have k7 : (b.length : Int) ≤ 65515 := by omega
  have hbits : (⟨tos, ident, true, false, off, ttl, pr, src, dst, b⟩ : Pk).bits = off / 8 + 16384 := by show off / 8 + 16384 + 0 = off / 8 + 16384; omega
  have hz := bs_size b
  have q1 := IntWalk.u32_in (off / 8) (by omega)
  have q2 := IntWalk.u32_in (20 + (b.length : Int)) (by omega)
  have q3 := IntWalk.i64_in (20 + (b.length : Int)) (by omega)
  have q4 := IntWalk.u32_in (off / 8 + 8192) (by omega)
  have q5 := IntWalk.u32_in (off / 8 + 16384) (by omega)
  have hfin : [69] ++ txt tos 1 ++ txt (20 + (b.length : Int)) 2 ++ txt ident 2 ++ txt (off / 8 + 16384) 2 ++ txt ttl 1 ++ txt pr 1 ++ txt s 2 ++ txt src 4 ++ txt dst 4 = ((⟨tos, ident, true, false, off, ttl, pr, src, dst, b⟩ : Pk).hd s).bytes := by
    rw [← hbits]
    have h69 : by8 69 = 69 := by decide
    show _ = by8 69 :: _
    rw [h69]
    rfl
  have HFIN := Lib.hid hfin
  have K2 := Lib.hid k2
  clear hbits hfin hright k2
  have b69 : bs [69] = ⟨#[69]⟩ := rfl
  obtain ⟨L1, hL1⟩ : ∃ L, [69] ++ txt tos 1 = L := ⟨_, rfl⟩
  have a1 := bs_append [69] (txt tos 1)
  rw [hL1] at a1
  have z1 : (bs L1).size = 2 := by rw [bs_size, ← hL1, List.length_append, txt_len]; rfl
  have y1 : (bs (txt tos 1)).size = 1 := by rw [bs_size, txt_len]
  rw [hL1] at HFIN
  obtain ⟨L2, hL2⟩ : ∃ L, L1 ++ txt (20 + (b.length : Int)) 2 = L := ⟨_, rfl⟩
  have a2 := bs_append L1 (txt (20 + (b.length : Int)) 2)
  rw [hL2] at a2
  have z2 : (bs L2).size = 4 := by rw [bs_size, ← hL2, List.length_append, txt_len]; have := z1; rw [bs_size] at this; omega
  have y2 : (bs (txt (20 + (b.length : Int)) 2)).size = 2 := by rw [bs_size, txt_len]
  rw [hL2] at HFIN
  obtain ⟨L3, hL3⟩ : ∃ L, L2 ++ txt ident 2 = L := ⟨_, rfl⟩
  have a3 := bs_append L2 (txt ident 2)
  rw [hL3] at a3
  have z3 : (bs L3).size = 6 := by rw [bs_size, ← hL3, List.length_append, txt_len]; have := z2; rw [bs_size] at this; omega
  have y3 : (bs (txt ident 2)).size = 2 := by rw [bs_size, txt_len]
  rw [hL3] at HFIN
  obtain ⟨L4, hL4⟩ : ∃ L, L3 ++ txt (off / 8 + 16384) 2 = L := ⟨_, rfl⟩
  have a4 := bs_append L3 (txt (off / 8 + 16384) 2)
  rw [hL4] at a4
  have z4 : (bs L4).size = 8 := by rw [bs_size, ← hL4, List.length_append, txt_len]; have := z3; rw [bs_size] at this; omega
  have y4 : (bs (txt (off / 8 + 16384) 2)).size = 2 := by rw [bs_size, txt_len]
  rw [hL4] at HFIN
  obtain ⟨L5, hL5⟩ : ∃ L, L4 ++ txt ttl 1 = L := ⟨_, rfl⟩
  have a5 := bs_append L4 (txt ttl 1)
  rw [hL5] at a5
  have z5 : (bs L5).size = 9 := by rw [bs_size, ← hL5, List.length_append, txt_len]; have := z4; rw [bs_size] at this; omega
  have y5 : (bs (txt ttl 1)).size = 1 := by rw [bs_size, txt_len]
  rw [hL5] at HFIN
  obtain ⟨L6, hL6⟩ : ∃ L, L5 ++ txt pr 1 = L := ⟨_, rfl⟩
  have a6 := bs_append L5 (txt pr 1)
  rw [hL6] at a6
  have z6 : (bs L6).size = 10 := by rw [bs_size, ← hL6, List.length_append, txt_len]; have := z5; rw [bs_size] at this; omega
  have y6 : (bs (txt pr 1)).size = 1 := by rw [bs_size, txt_len]
  rw [hL6] at HFIN
  obtain ⟨L7, hL7⟩ : ∃ L, L6 ++ txt s 2 = L := ⟨_, rfl⟩
  have a7 := bs_append L6 (txt s 2)
  rw [hL7] at a7
  have z7 : (bs L7).size = 12 := by rw [bs_size, ← hL7, List.length_append, txt_len]; have := z6; rw [bs_size] at this; omega
  have y7 : (bs (txt s 2)).size = 2 := by rw [bs_size, txt_len]
  rw [hL7] at HFIN
  obtain ⟨L8, hL8⟩ : ∃ L, L7 ++ txt src 4 = L := ⟨_, rfl⟩
  have a8 := bs_append L7 (txt src 4)
  rw [hL8] at a8
  have z8 : (bs L8).size = 16 := by rw [bs_size, ← hL8, List.length_append, txt_len]; have := z7; rw [bs_size] at this; omega
  have y8 : (bs (txt src 4)).size = 4 := by rw [bs_size, txt_len]
  rw [hL8] at HFIN
  obtain ⟨L9, hL9⟩ : ∃ L, L8 ++ txt dst 4 = L := ⟨_, rfl⟩
  have a9 := bs_append L8 (txt dst 4)
  rw [hL9] at a9
  have z9 : (bs L9).size = 20 := by rw [bs_size, ← hL9, List.length_append, txt_len]; have := z8; rw [bs_size] at this; omega
  have y9 : (bs (txt dst 4)).size = 4 := by rw [bs_size, txt_len]
  rw [hL9] at HFIN
  rw [b69] at a1
  clear hL1 hL2 hL3 hL4 hL5 hL6 hL7 hL8 hL9
  go_enter Tryd.func57, Tryd.ntmps57
  go_upto_region 1 with fail
  have hx : Ex (fun _ => False) w (w.alloc (.cells #[.int .u32 tos, .int .u32 ident, .bool true, .bool false, .int .i64 off, .int .u32 ttl, .int .u32 pr, .int .u32 src, .int .u32 dst, .string (bs b)] 55)) := (Ex.refl _ w).alloc _
  have hb : (w.alloc (.cells #[.int .u32 tos, .int .u32 ident, .bool true, .bool false, .int .i64 off, .int .u32 ttl, .int .u32 pr, .int .u32 src, .int .u32 dst, .string (bs b)] 55)).heap[w.heap.size]? = some (.cells #[.int .u32 tos, .int .u32 ident, .bool true, .bool false, .int .i64 off, .int .u32 ttl, .int .u32 pr, .int .u32 src, .int .u32 dst, .string (bs b)] 55) := heap_alloc_new w _
  obtain ⟨rb0, hrb0⟩ : ∃ rb0, rb0 = w.heap.size := ⟨_, rfl⟩
  have hb_rb0 : w.heap.size ≤ rb0 := by omega
  rw [← hrb0] at hb
  try simp only [← hrb0]
  generalize w.alloc (.cells #[.int .u32 tos, .int .u32 ident, .bool true, .bool false, .int .i64 off, .int .u32 ttl, .int .u32 pr, .int .u32 src, .int .u32 dst, .string (bs b)] 55) = w1 at hx hb ⊢
  clear hrb0
  have HX_w1 := Lib.hid hx
  clear hx
  have B_rb0 := Lib.hid hb
  clear hb
  have crb00 := row_cell (k := 0) (v := .int .u32 tos) B_rb0.out rfl
  have crb01 := row_cell (k := 1) (v := .int .u32 ident) B_rb0.out rfl
  have crb02 := row_cell (k := 2) (v := .bool true) B_rb0.out rfl
  have crb03 := row_cell (k := 3) (v := .bool false) B_rb0.out rfl
  have crb04 := row_cell (k := 4) (v := .int .i64 off) B_rb0.out rfl
  have crb05 := row_cell (k := 5) (v := .int .u32 ttl) B_rb0.out rfl
  have crb06 := row_cell (k := 6) (v := .int .u32 pr) B_rb0.out rfl
  have crb07 := row_cell (k := 7) (v := .int .u32 src) B_rb0.out rfl
  have crb08 := row_cell (k := 8) (v := .int .u32 dst) B_rb0.out rfl
  have crb09 := row_cell (k := 9) (v := .string (bs b)) B_rb0.out rfl
  go_upto_region 6 with fail
  have hS0 : Ex (fun _ => False) w1 w1.drew := (Ex.refl _ w1).drew
  refine wp_region_held_drew (S := fun W => Ex (fun _ => False) w1 W) (by kernel_rfl) hS0 (fun _ => ?_)
  refine wpAnyH_take (i := 0) (oi := { dst := some 19, op := Go.Op.fieldAddr 55 (Go.Operand.tmp 2) 0, type := 0, pos := "ref.go:39", after := #[], guard := none }) (v := ?v63) rfl (by kernel_rfl) (by kernel_rfl) (by kernel_rfl) (fun _ _ _ h => h) (Or.inl ⟨by rfl, ?hy63⟩) (by assumption) ?rest63
  case hy63 => (intro w hSw; (try dsimp only at hSw); have ecrb00 := hSw.cell crb00 id; have ecrb01 := hSw.cell crb01 id; have ecrb09 := hSw.cell crb09 id; go_simp <;> with_reducible rfl)
  try simp only [Act.put, List.setIfInBounds_toArray, List.set_cons_zero, List.set_cons_succ]
  refine wpAnyH_take (i := 1) (oi := { dst := some 20, op := Go.Op.load 26 (Go.Operand.tmp 19), type := 26, pos := "ref.go:39", after := #[{ on := 0, ground := Go.Ground.data }], guard := none }) (v := ?v64) rfl (by kernel_rfl) (by kernel_rfl) (by kernel_rfl) (fun _ _ _ h => h) (Or.inl ⟨by rfl, ?hy64⟩) (by assumption) ?rest64
  case hy64 => (intro w hSw; (try dsimp only at hSw); have ecrb00 := hSw.cell crb00 id; have ecrb01 := hSw.cell crb01 id; have ecrb09 := hSw.cell crb09 id; go_simp <;> with_reducible rfl)
  try simp only [Act.put, List.setIfInBounds_toArray, List.set_cons_zero, List.set_cons_succ]
  refine wpAnyH_take (i := 4) (oi := { dst := some 23, op := Go.Op.fieldAddr 55 (Go.Operand.tmp 2) 9, type := 0, pos := "ref.go:39", after := #[], guard := none }) (v := ?v65) rfl (by kernel_rfl) (by kernel_rfl) (by kernel_rfl) (fun _ _ _ h => h) (Or.inl ⟨by rfl, ?hy65⟩) (by assumption) ?rest65
  case hy65 => (intro w hSw; (try dsimp only at hSw); have ecrb00 := hSw.cell crb00 id; have ecrb01 := hSw.cell crb01 id; have ecrb09 := hSw.cell crb09 id; go_simp <;> with_reducible rfl)
  try simp only [Act.put, List.setIfInBounds_toArray, List.set_cons_zero, List.set_cons_succ]
  refine wpAnyH_take (i := 5) (oi := { dst := some 24, op := Go.Op.load 9 (Go.Operand.tmp 23), type := 9, pos := "ref.go:39", after := #[{ on := 4, ground := Go.Ground.data }], guard := none }) (v := ?v66) rfl (by kernel_rfl) (by kernel_rfl) (by kernel_rfl) (fun _ _ _ h => h) (Or.inl ⟨by rfl, ?hy66⟩) (by assumption) ?rest66
  case hy66 => (intro w hSw; (try dsimp only at hSw); have ecrb00 := hSw.cell crb00 id; have ecrb01 := hSw.cell crb01 id; have ecrb09 := hSw.cell crb09 id; go_simp <;> with_reducible rfl)
  try simp only [Act.put, List.setIfInBounds_toArray, List.set_cons_zero, List.set_cons_succ]
  refine wpAnyH_take (i := 6) (oi := { dst := some 25, op := Go.Op.call { callee := Go.Callee.builtin Go.Builtin.len, args := #[Go.Operand.tmp 24], argTypes := #[9] }, type := 3, pos := "ref.go:39", after := #[{ on := 5, ground := Go.Ground.data }], guard := none }) (v := ?v67) rfl (by kernel_rfl) (by kernel_rfl) (by kernel_rfl) (fun _ _ _ h => h) (Or.inl ⟨by rfl, ?hy67⟩) (by assumption) ?rest67
  case hy67 => (intro w hSw; (try dsimp only at hSw); have ecrb00 := hSw.cell crb00 id; have ecrb01 := hSw.cell crb01 id; have ecrb09 := hSw.cell crb09 id; go_simp <;> with_reducible rfl)
  try simp only [Act.put, List.setIfInBounds_toArray, List.set_cons_zero, List.set_cons_succ]
  refine wpAnyH_take (i := 7) (oi := { dst := some 26, op := Go.Op.binOp Go.BinOp.add 3 (Go.Operand.const (Go.Value.int Go.IntKind.i64 20)) (Go.Operand.tmp 25) 3, type := 3, pos := "ref.go:39", after := #[{ on := 6, ground := Go.Ground.data }], guard := none }) (v := ?v68) rfl (by kernel_rfl) (by kernel_rfl) (by kernel_rfl) (fun _ _ _ h => h) (Or.inl ⟨by rfl, ?hy68⟩) (by assumption) ?rest68
  case hy68 => (intro w hSw; (try dsimp only at hSw); have ecrb00 := hSw.cell crb00 id; have ecrb01 := hSw.cell crb01 id; have ecrb09 := hSw.cell crb09 id; go_simp <;> with_reducible rfl)
  try simp only [Act.put, List.setIfInBounds_toArray, List.set_cons_zero, List.set_cons_succ]
  refine wpAnyH_take (i := 8) (oi := { dst := some 27, op := Go.Op.convert 3 26 (Go.Operand.tmp 26), type := 26, pos := "ref.go:39", after := #[{ on := 7, ground := Go.Ground.data }], guard := none }) (v := ?v69) rfl (by kernel_rfl) (by kernel_rfl) (by kernel_rfl) (fun _ _ _ h => h) (Or.inl ⟨by rfl, ?hy69⟩) (by assumption) ?rest69
  case hy69 => (intro w hSw; (try dsimp only at hSw); have ecrb00 := hSw.cell crb00 id; have ecrb01 := hSw.cell crb01 id; have ecrb09 := hSw.cell crb09 id; go_simp <;> with_reducible rfl)
  try simp only [Act.put, List.setIfInBounds_toArray, List.set_cons_zero, List.set_cons_succ]
  refine wpAnyH_take (i := 11) (oi := { dst := some 30, op := Go.Op.fieldAddr 55 (Go.Operand.tmp 2) 1, type := 0, pos := "ref.go:39", after := #[], guard := none }) (v := ?v70) rfl (by kernel_rfl) (by kernel_rfl) (by kernel_rfl) (fun _ _ _ h => h) (Or.inl ⟨by rfl, ?hy70⟩) (by assumption) ?rest70
  case hy70 => (intro w hSw; (try dsimp only at hSw); have ecrb00 := hSw.cell crb00 id; have ecrb01 := hSw.cell crb01 id; have ecrb09 := hSw.cell crb09 id; go_simp <;> with_reducible rfl)
  try simp only [Act.put, List.setIfInBounds_toArray, List.set_cons_zero, List.set_cons_succ]
  refine wpAnyH_take (i := 12) (oi := { dst := some 31, op := Go.Op.load 26 (Go.Operand.tmp 30), type := 26, pos := "ref.go:39", after := #[{ on := 11, ground := Go.Ground.data }], guard := none }) (v := ?v71) rfl (by kernel_rfl) (by kernel_rfl) (by kernel_rfl) (fun _ _ _ h => h) (Or.inl ⟨by rfl, ?hy71⟩) (by assumption) ?rest71
  case hy71 => (intro w hSw; (try dsimp only at hSw); have ecrb00 := hSw.cell crb00 id; have ecrb01 := hSw.cell crb01 id; have ecrb09 := hSw.cell crb09 id; go_simp <;> with_reducible rfl)
  try simp only [Act.put, List.setIfInBounds_toArray, List.set_cons_zero, List.set_cons_succ]
  refine wpAnyH_take (i := 15) (oi := { dst := some 34, op := Go.Op.move (Go.Operand.tmp 5), type := 26, pos := "ref.go:39", after := #[], guard := none }) (v := ?v72) rfl (by kernel_rfl) (by kernel_rfl) (by kernel_rfl) (fun _ _ _ h => h) (Or.inl ⟨by rfl, ?hy72⟩) (by assumption) ?rest72
  case hy72 => (intro w hSw; (try dsimp only at hSw); have ecrb00 := hSw.cell crb00 id; have ecrb01 := hSw.cell crb01 id; have ecrb09 := hSw.cell crb09 id; go_simp <;> with_reducible rfl)
  try simp only [Act.put, List.setIfInBounds_toArray, List.set_cons_zero, List.set_cons_succ]
  refine wpAnyH_ready (rs := [2]) (by kernel_rfl) (by simp) ?_
  refine AllReadyH.cons (o := { dst := some 21, op := Go.Op.call { callee := Go.Callee.value (Go.Operand.func 65), args := #[Go.Operand.tmp 20, Go.Operand.const (Go.Value.int Go.IntKind.i64 1)], argTypes := #[26, 3] }, type := 9, pos := "ref.go:39", after := #[{ on := 1, ground := Go.Ground.data }], guard := none }) rfl (fun K hK => ?_) AllReadyH.nil
  go_simp
  refine (text_any tos 1 (by omega) (by omega) (by omega) _).mono ?_
  rintro e v0 ⟨rfl, hx⟩
  have hS1 := hS0.trans hx
  clear hx
  refine hK.out _ _ hS1 (fun _ => ?_)
  refine wpAnyH_take (i := 3) (oi := { dst := some 22, op := Go.Op.binOp Go.BinOp.add 9 (Go.Operand.const (Go.Value.string { data := #[69] })) (Go.Operand.tmp 21) 9, type := 9, pos := "ref.go:39", after := #[{ on := 2, ground := Go.Ground.data }], guard := none }) (v := ?v73) rfl (by kernel_rfl) (by kernel_rfl) (by kernel_rfl) (fun _ _ _ h => h) (Or.inl ⟨by rfl, ?hy73⟩) (by assumption) ?rest73
  case hy73 => (intro w hSw; (try dsimp only at hSw); have ecrb00 := hSw.cell crb00 id; have ecrb01 := hSw.cell crb01 id; have ecrb09 := hSw.cell crb09 id; go_simp <;> with_reducible rfl)
  try simp only [Act.put, List.setIfInBounds_toArray, List.set_cons_zero, List.set_cons_succ]
  refine wpAnyH_ready (rs := [9]) (by kernel_rfl) (by simp) ?_
  refine AllReadyH.cons (o := { dst := some 28, op := Go.Op.call { callee := Go.Callee.value (Go.Operand.func 65), args := #[Go.Operand.tmp 27, Go.Operand.const (Go.Value.int Go.IntKind.i64 2)], argTypes := #[26, 3] }, type := 9, pos := "ref.go:39", after := #[{ on := 8, ground := Go.Ground.data }, { on := 2, ground := Go.Ground.chain }], guard := none }) rfl (fun K hK => ?_) AllReadyH.nil
  go_simp
  refine (text_any (20 + (b.length : Int)) 2 (by omega) (by omega) (by omega) _).mono ?_
  rintro e v1 ⟨rfl, hx⟩
  have hS2 := hS1.trans hx
  clear hx
  refine hK.out _ _ hS2 (fun _ => ?_)
  refine wpAnyH_take (i := 10) (oi := { dst := some 29, op := Go.Op.binOp Go.BinOp.add 9 (Go.Operand.tmp 22) (Go.Operand.tmp 28) 9, type := 9, pos := "ref.go:39", after := #[{ on := 3, ground := Go.Ground.data }, { on := 9, ground := Go.Ground.data }], guard := none }) (v := ?v74) rfl (by kernel_rfl) (by kernel_rfl) (by kernel_rfl) (fun _ _ _ h => h) (Or.inl ⟨by rfl, ?hy74⟩) (by assumption) ?rest74
  case hy74 => (intro w hSw; (try dsimp only at hSw); have ecrb00 := hSw.cell crb00 id; have ecrb01 := hSw.cell crb01 id; have ecrb09 := hSw.cell crb09 id; go_simp <;> with_reducible rfl)
  try simp only [Act.put, List.setIfInBounds_toArray, List.set_cons_zero, List.set_cons_succ]
  refine wpAnyH_ready (rs := [13]) (by kernel_rfl) (by simp) ?_
  refine AllReadyH.cons (o := { dst := some 32, op := Go.Op.call { callee := Go.Callee.value (Go.Operand.func 65), args := #[Go.Operand.tmp 31, Go.Operand.const (Go.Value.int Go.IntKind.i64 2)], argTypes := #[26, 3] }, type := 9, pos := "ref.go:39", after := #[{ on := 12, ground := Go.Ground.data }, { on := 9, ground := Go.Ground.chain }], guard := none }) rfl (fun K hK => ?_) AllReadyH.nil
  go_simp
  refine (text_any ident 2 (by omega) (by omega) (by omega) _).mono ?_
  rintro e v2 ⟨rfl, hx⟩
  have hS3 := hS2.trans hx
  clear hx
  refine hK.out _ _ hS3 (fun _ => ?_)
  refine wpAnyH_take (i := 14) (oi := { dst := some 33, op := Go.Op.binOp Go.BinOp.add 9 (Go.Operand.tmp 29) (Go.Operand.tmp 32) 9, type := 9, pos := "ref.go:39", after := #[{ on := 10, ground := Go.Ground.data }, { on := 13, ground := Go.Ground.data }], guard := none }) (v := ?v75) rfl (by kernel_rfl) (by kernel_rfl) (by kernel_rfl) (fun _ _ _ h => h) (Or.inl ⟨by rfl, ?hy75⟩) (by assumption) ?rest75
  case hy75 => (intro w hSw; (try dsimp only at hSw); have ecrb00 := hSw.cell crb00 id; have ecrb01 := hSw.cell crb01 id; have ecrb09 := hSw.cell crb09 id; go_simp <;> with_reducible rfl)
  try simp only [Act.put, List.setIfInBounds_toArray, List.set_cons_zero, List.set_cons_succ]
  refine wpAnyH_ready (rs := [16]) (by kernel_rfl) (by simp) ?_
  refine AllReadyH.cons (o := { dst := some 35, op := Go.Op.call { callee := Go.Callee.value (Go.Operand.func 65), args := #[Go.Operand.tmp 34, Go.Operand.const (Go.Value.int Go.IntKind.i64 2)], argTypes := #[26, 3] }, type := 9, pos := "ref.go:39", after := #[{ on := 15, ground := Go.Ground.data }, { on := 13, ground := Go.Ground.chain }], guard := none }) rfl (fun K hK => ?_) AllReadyH.nil
  go_simp
  refine (text_any (off / 8 + 16384) 2 (by omega) (by omega) (by omega) _).mono ?_
  rintro e v3 ⟨rfl, hx⟩
  have hS4 := hS3.trans hx
  clear hx
  refine hK.out _ _ hS4 (fun _ => ?_)
  refine wpAnyH_take (i := 17) (oi := { dst := some 36, op := Go.Op.binOp Go.BinOp.add 9 (Go.Operand.tmp 33) (Go.Operand.tmp 35) 9, type := 9, pos := "ref.go:39", after := #[{ on := 14, ground := Go.Ground.data }, { on := 16, ground := Go.Ground.data }], guard := none }) (v := ?v76) rfl (by kernel_rfl) (by kernel_rfl) (by kernel_rfl) (fun _ _ _ h => h) (Or.inl ⟨by rfl, ?hy76⟩) (by assumption) ?rest76
  case hy76 => (intro w hSw; (try dsimp only at hSw); have ecrb00 := hSw.cell crb00 id; have ecrb01 := hSw.cell crb01 id; have ecrb09 := hSw.cell crb09 id; go_simp <;> with_reducible rfl)
  try simp only [Act.put, List.setIfInBounds_toArray, List.set_cons_zero, List.set_cons_succ]
  refine wpAnyH_take (i := 18) (oi := { dst := some 6, op := Go.Op.assign (Go.Operand.tmp 36), type := 9, pos := "ref.go:39", after := #[{ on := 17, ground := Go.Ground.data }, { on := 16, ground := Go.Ground.chain }, { on := 0, ground := Go.Ground.phase }, { on := 1, ground := Go.Ground.phase }, { on := 2, ground := Go.Ground.phase }, { on := 3, ground := Go.Ground.phase }, { on := 4, ground := Go.Ground.phase }, { on := 5, ground := Go.Ground.phase }, { on := 6, ground := Go.Ground.phase }, { on := 7, ground := Go.Ground.phase }, { on := 8, ground := Go.Ground.phase }, { on := 9, ground := Go.Ground.phase }, { on := 10, ground := Go.Ground.phase }, { on := 11, ground := Go.Ground.phase }, { on := 12, ground := Go.Ground.phase }, { on := 13, ground := Go.Ground.phase }, { on := 14, ground := Go.Ground.phase }, { on := 15, ground := Go.Ground.phase }, { on := 16, ground := Go.Ground.phase }, { on := 17, ground := Go.Ground.phase }], guard := none }) (v := ?v77) rfl (by kernel_rfl) (by kernel_rfl) (by kernel_rfl) (fun _ _ _ h => h) (Or.inl ⟨by rfl, ?hy77⟩) (by assumption) ?rest77
  case hy77 => (intro w hSw; (try dsimp only at hSw); have ecrb00 := hSw.cell crb00 id; have ecrb01 := hSw.cell crb01 id; have ecrb09 := hSw.cell crb09 id; go_simp <;> with_reducible rfl)
  try simp only [Act.put, List.setIfInBounds_toArray, List.set_cons_zero, List.set_cons_succ]
  refine wpAnyH_done (by kernel_rfl) ?_ _
  have hx := hS4
  clear hS0 hS1 hS2 hS3 hS4 crb00 crb01 crb02 crb03 crb04 crb05 crb06 crb07 crb08 crb09
  have HX_v3 := Lib.hid hx
  clear hx
  replace B_rb0 := Lib.hid ((HX_v3.out.block rb0 (row_lt B_rb0.out) id).trans B_rb0.out)
  have crb00 := row_cell (k := 0) (v := .int .u32 tos) B_rb0.out rfl
  have crb01 := row_cell (k := 1) (v := .int .u32 ident) B_rb0.out rfl
  have crb02 := row_cell (k := 2) (v := .bool true) B_rb0.out rfl
  have crb03 := row_cell (k := 3) (v := .bool false) B_rb0.out rfl
  have crb04 := row_cell (k := 4) (v := .int .i64 off) B_rb0.out rfl
  have crb05 := row_cell (k := 5) (v := .int .u32 ttl) B_rb0.out rfl
  have crb06 := row_cell (k := 6) (v := .int .u32 pr) B_rb0.out rfl
  have crb07 := row_cell (k := 7) (v := .int .u32 src) B_rb0.out rfl
  have crb08 := row_cell (k := 8) (v := .int .u32 dst) B_rb0.out rfl
  have crb09 := row_cell (k := 9) (v := .string (bs b)) B_rb0.out rfl
  go_upto_region 7 with fail
  have hS0 : Ex (fun _ => False) v3 v3.drew := (Ex.refl _ v3).drew
  refine wp_region_held_drew (S := fun W => Ex (fun _ => False) v3 W) (by kernel_rfl) hS0 (fun _ => ?_)
  refine wpAnyH_take (i := 0) (oi := { dst := some 37, op := Go.Op.move (Go.Operand.tmp 6), type := 9, pos := "ref.go:40", after := #[], guard := none }) (v := ?v78) rfl (by kernel_rfl) (by kernel_rfl) (by kernel_rfl) (fun _ _ _ h => h) (Or.inl ⟨by rfl, ?hy78⟩) (by assumption) ?rest78
  case hy78 => (intro w hSw; (try dsimp only at hSw); have ecrb05 := hSw.cell crb05 id; have ecrb06 := hSw.cell crb06 id; have ecrb07 := hSw.cell crb07 id; have ecrb08 := hSw.cell crb08 id; go_simp <;> with_reducible rfl)
  try simp only [Act.put, List.setIfInBounds_toArray, List.set_cons_zero, List.set_cons_succ]
  refine wpAnyH_take (i := 1) (oi := { dst := some 38, op := Go.Op.fieldAddr 55 (Go.Operand.tmp 2) 5, type := 0, pos := "ref.go:40", after := #[], guard := none }) (v := ?v79) rfl (by kernel_rfl) (by kernel_rfl) (by kernel_rfl) (fun _ _ _ h => h) (Or.inl ⟨by rfl, ?hy79⟩) (by assumption) ?rest79
  case hy79 => (intro w hSw; (try dsimp only at hSw); have ecrb05 := hSw.cell crb05 id; have ecrb06 := hSw.cell crb06 id; have ecrb07 := hSw.cell crb07 id; have ecrb08 := hSw.cell crb08 id; go_simp <;> with_reducible rfl)
  try simp only [Act.put, List.setIfInBounds_toArray, List.set_cons_zero, List.set_cons_succ]
  refine wpAnyH_take (i := 2) (oi := { dst := some 39, op := Go.Op.load 26 (Go.Operand.tmp 38), type := 26, pos := "ref.go:40", after := #[{ on := 1, ground := Go.Ground.data }], guard := none }) (v := ?v80) rfl (by kernel_rfl) (by kernel_rfl) (by kernel_rfl) (fun _ _ _ h => h) (Or.inl ⟨by rfl, ?hy80⟩) (by assumption) ?rest80
  case hy80 => (intro w hSw; (try dsimp only at hSw); have ecrb05 := hSw.cell crb05 id; have ecrb06 := hSw.cell crb06 id; have ecrb07 := hSw.cell crb07 id; have ecrb08 := hSw.cell crb08 id; go_simp <;> with_reducible rfl)
  try simp only [Act.put, List.setIfInBounds_toArray, List.set_cons_zero, List.set_cons_succ]
  refine wpAnyH_take (i := 5) (oi := { dst := some 42, op := Go.Op.fieldAddr 55 (Go.Operand.tmp 2) 6, type := 0, pos := "ref.go:40", after := #[], guard := none }) (v := ?v81) rfl (by kernel_rfl) (by kernel_rfl) (by kernel_rfl) (fun _ _ _ h => h) (Or.inl ⟨by rfl, ?hy81⟩) (by assumption) ?rest81
  case hy81 => (intro w hSw; (try dsimp only at hSw); have ecrb05 := hSw.cell crb05 id; have ecrb06 := hSw.cell crb06 id; have ecrb07 := hSw.cell crb07 id; have ecrb08 := hSw.cell crb08 id; go_simp <;> with_reducible rfl)
  try simp only [Act.put, List.setIfInBounds_toArray, List.set_cons_zero, List.set_cons_succ]
  refine wpAnyH_take (i := 6) (oi := { dst := some 43, op := Go.Op.load 26 (Go.Operand.tmp 42), type := 26, pos := "ref.go:40", after := #[{ on := 5, ground := Go.Ground.data }], guard := none }) (v := ?v82) rfl (by kernel_rfl) (by kernel_rfl) (by kernel_rfl) (fun _ _ _ h => h) (Or.inl ⟨by rfl, ?hy82⟩) (by assumption) ?rest82
  case hy82 => (intro w hSw; (try dsimp only at hSw); have ecrb05 := hSw.cell crb05 id; have ecrb06 := hSw.cell crb06 id; have ecrb07 := hSw.cell crb07 id; have ecrb08 := hSw.cell crb08 id; go_simp <;> with_reducible rfl)
  try simp only [Act.put, List.setIfInBounds_toArray, List.set_cons_zero, List.set_cons_succ]
  refine wpAnyH_take (i := 9) (oi := { dst := some 46, op := Go.Op.move (Go.Operand.tmp 1), type := 26, pos := "ref.go:40", after := #[], guard := none }) (v := ?v83) rfl (by kernel_rfl) (by kernel_rfl) (by kernel_rfl) (fun _ _ _ h => h) (Or.inl ⟨by rfl, ?hy83⟩) (by assumption) ?rest83
  case hy83 => (intro w hSw; (try dsimp only at hSw); have ecrb05 := hSw.cell crb05 id; have ecrb06 := hSw.cell crb06 id; have ecrb07 := hSw.cell crb07 id; have ecrb08 := hSw.cell crb08 id; go_simp <;> with_reducible rfl)
  try simp only [Act.put, List.setIfInBounds_toArray, List.set_cons_zero, List.set_cons_succ]
  refine wpAnyH_take (i := 12) (oi := { dst := some 49, op := Go.Op.fieldAddr 55 (Go.Operand.tmp 2) 7, type := 0, pos := "ref.go:40", after := #[], guard := none }) (v := ?v84) rfl (by kernel_rfl) (by kernel_rfl) (by kernel_rfl) (fun _ _ _ h => h) (Or.inl ⟨by rfl, ?hy84⟩) (by assumption) ?rest84
  case hy84 => (intro w hSw; (try dsimp only at hSw); have ecrb05 := hSw.cell crb05 id; have ecrb06 := hSw.cell crb06 id; have ecrb07 := hSw.cell crb07 id; have ecrb08 := hSw.cell crb08 id; go_simp <;> with_reducible rfl)
  try simp only [Act.put, List.setIfInBounds_toArray, List.set_cons_zero, List.set_cons_succ]
  refine wpAnyH_take (i := 13) (oi := { dst := some 50, op := Go.Op.load 26 (Go.Operand.tmp 49), type := 26, pos := "ref.go:40", after := #[{ on := 12, ground := Go.Ground.data }], guard := none }) (v := ?v85) rfl (by kernel_rfl) (by kernel_rfl) (by kernel_rfl) (fun _ _ _ h => h) (Or.inl ⟨by rfl, ?hy85⟩) (by assumption) ?rest85
  case hy85 => (intro w hSw; (try dsimp only at hSw); have ecrb05 := hSw.cell crb05 id; have ecrb06 := hSw.cell crb06 id; have ecrb07 := hSw.cell crb07 id; have ecrb08 := hSw.cell crb08 id; go_simp <;> with_reducible rfl)
  try simp only [Act.put, List.setIfInBounds_toArray, List.set_cons_zero, List.set_cons_succ]
  refine wpAnyH_take (i := 16) (oi := { dst := some 53, op := Go.Op.fieldAddr 55 (Go.Operand.tmp 2) 8, type := 0, pos := "ref.go:40", after := #[], guard := none }) (v := ?v86) rfl (by kernel_rfl) (by kernel_rfl) (by kernel_rfl) (fun _ _ _ h => h) (Or.inl ⟨by rfl, ?hy86⟩) (by assumption) ?rest86
  case hy86 => (intro w hSw; (try dsimp only at hSw); have ecrb05 := hSw.cell crb05 id; have ecrb06 := hSw.cell crb06 id; have ecrb07 := hSw.cell crb07 id; have ecrb08 := hSw.cell crb08 id; go_simp <;> with_reducible rfl)
  try simp only [Act.put, List.setIfInBounds_toArray, List.set_cons_zero, List.set_cons_succ]
  refine wpAnyH_take (i := 17) (oi := { dst := some 54, op := Go.Op.load 26 (Go.Operand.tmp 53), type := 26, pos := "ref.go:40", after := #[{ on := 16, ground := Go.Ground.data }], guard := none }) (v := ?v87) rfl (by kernel_rfl) (by kernel_rfl) (by kernel_rfl) (fun _ _ _ h => h) (Or.inl ⟨by rfl, ?hy87⟩) (by assumption) ?rest87
  case hy87 => (intro w hSw; (try dsimp only at hSw); have ecrb05 := hSw.cell crb05 id; have ecrb06 := hSw.cell crb06 id; have ecrb07 := hSw.cell crb07 id; have ecrb08 := hSw.cell crb08 id; go_simp <;> with_reducible rfl)
  try simp only [Act.put, List.setIfInBounds_toArray, List.set_cons_zero, List.set_cons_succ]
  refine wpAnyH_ready (rs := [3]) (by kernel_rfl) (by simp) ?_
  refine AllReadyH.cons (o := { dst := some 40, op := Go.Op.call { callee := Go.Callee.value (Go.Operand.func 65), args := #[Go.Operand.tmp 39, Go.Operand.const (Go.Value.int Go.IntKind.i64 1)], argTypes := #[26, 3] }, type := 9, pos := "ref.go:40", after := #[{ on := 2, ground := Go.Ground.data }], guard := none }) rfl (fun K hK => ?_) AllReadyH.nil
  go_simp
  refine (text_any ttl 1 (by omega) (by omega) (by omega) _).mono ?_
  rintro e v0 ⟨rfl, hx⟩
  have hS1 := hS0.trans hx
  clear hx
  refine hK.out _ _ hS1 (fun _ => ?_)
  refine wpAnyH_take (i := 4) (oi := { dst := some 41, op := Go.Op.binOp Go.BinOp.add 9 (Go.Operand.tmp 37) (Go.Operand.tmp 40) 9, type := 9, pos := "ref.go:40", after := #[{ on := 0, ground := Go.Ground.data }, { on := 3, ground := Go.Ground.data }], guard := none }) (v := ?v88) rfl (by kernel_rfl) (by kernel_rfl) (by kernel_rfl) (fun _ _ _ h => h) (Or.inl ⟨by rfl, ?hy88⟩) (by assumption) ?rest88
  case hy88 => (intro w hSw; (try dsimp only at hSw); have ecrb05 := hSw.cell crb05 id; have ecrb06 := hSw.cell crb06 id; have ecrb07 := hSw.cell crb07 id; have ecrb08 := hSw.cell crb08 id; go_simp <;> with_reducible rfl)
  try simp only [Act.put, List.setIfInBounds_toArray, List.set_cons_zero, List.set_cons_succ]
  refine wpAnyH_ready (rs := [7]) (by kernel_rfl) (by simp) ?_
  refine AllReadyH.cons (o := { dst := some 44, op := Go.Op.call { callee := Go.Callee.value (Go.Operand.func 65), args := #[Go.Operand.tmp 43, Go.Operand.const (Go.Value.int Go.IntKind.i64 1)], argTypes := #[26, 3] }, type := 9, pos := "ref.go:40", after := #[{ on := 6, ground := Go.Ground.data }, { on := 3, ground := Go.Ground.chain }], guard := none }) rfl (fun K hK => ?_) AllReadyH.nil
  go_simp
  refine (text_any pr 1 (by omega) (by omega) (by omega) _).mono ?_
  rintro e v1 ⟨rfl, hx⟩
  have hS2 := hS1.trans hx
  clear hx
  refine hK.out _ _ hS2 (fun _ => ?_)
  refine wpAnyH_take (i := 8) (oi := { dst := some 45, op := Go.Op.binOp Go.BinOp.add 9 (Go.Operand.tmp 41) (Go.Operand.tmp 44) 9, type := 9, pos := "ref.go:40", after := #[{ on := 4, ground := Go.Ground.data }, { on := 7, ground := Go.Ground.data }], guard := none }) (v := ?v89) rfl (by kernel_rfl) (by kernel_rfl) (by kernel_rfl) (fun _ _ _ h => h) (Or.inl ⟨by rfl, ?hy89⟩) (by assumption) ?rest89
  case hy89 => (intro w hSw; (try dsimp only at hSw); have ecrb05 := hSw.cell crb05 id; have ecrb06 := hSw.cell crb06 id; have ecrb07 := hSw.cell crb07 id; have ecrb08 := hSw.cell crb08 id; go_simp <;> with_reducible rfl)
  try simp only [Act.put, List.setIfInBounds_toArray, List.set_cons_zero, List.set_cons_succ]
  refine wpAnyH_ready (rs := [10]) (by kernel_rfl) (by simp) ?_
  refine AllReadyH.cons (o := { dst := some 47, op := Go.Op.call { callee := Go.Callee.value (Go.Operand.func 65), args := #[Go.Operand.tmp 46, Go.Operand.const (Go.Value.int Go.IntKind.i64 2)], argTypes := #[26, 3] }, type := 9, pos := "ref.go:40", after := #[{ on := 9, ground := Go.Ground.data }, { on := 7, ground := Go.Ground.chain }], guard := none }) rfl (fun K hK => ?_) AllReadyH.nil
  go_simp
  refine (text_any s 2 (by omega) (by omega) (by omega) _).mono ?_
  rintro e v2 ⟨rfl, hx⟩
  have hS3 := hS2.trans hx
  clear hx
  refine hK.out _ _ hS3 (fun _ => ?_)
  refine wpAnyH_take (i := 11) (oi := { dst := some 48, op := Go.Op.binOp Go.BinOp.add 9 (Go.Operand.tmp 45) (Go.Operand.tmp 47) 9, type := 9, pos := "ref.go:40", after := #[{ on := 8, ground := Go.Ground.data }, { on := 10, ground := Go.Ground.data }], guard := none }) (v := ?v90) rfl (by kernel_rfl) (by kernel_rfl) (by kernel_rfl) (fun _ _ _ h => h) (Or.inl ⟨by rfl, ?hy90⟩) (by assumption) ?rest90
  case hy90 => (intro w hSw; (try dsimp only at hSw); have ecrb05 := hSw.cell crb05 id; have ecrb06 := hSw.cell crb06 id; have ecrb07 := hSw.cell crb07 id; have ecrb08 := hSw.cell crb08 id; go_simp <;> with_reducible rfl)
  try simp only [Act.put, List.setIfInBounds_toArray, List.set_cons_zero, List.set_cons_succ]
  refine wpAnyH_ready (rs := [14]) (by kernel_rfl) (by simp) ?_
  refine AllReadyH.cons (o := { dst := some 51, op := Go.Op.call { callee := Go.Callee.value (Go.Operand.func 65), args := #[Go.Operand.tmp 50, Go.Operand.const (Go.Value.int Go.IntKind.i64 4)], argTypes := #[26, 3] }, type := 9, pos := "ref.go:40", after := #[{ on := 13, ground := Go.Ground.data }, { on := 10, ground := Go.Ground.chain }], guard := none }) rfl (fun K hK => ?_) AllReadyH.nil
  go_simp
  refine (text_any src 4 (by omega) (by omega) (by omega) _).mono ?_
  rintro e v3 ⟨rfl, hx⟩
  have hS4 := hS3.trans hx
  clear hx
  refine hK.out _ _ hS4 (fun _ => ?_)
  refine wpAnyH_take (i := 15) (oi := { dst := some 52, op := Go.Op.binOp Go.BinOp.add 9 (Go.Operand.tmp 48) (Go.Operand.tmp 51) 9, type := 9, pos := "ref.go:40", after := #[{ on := 11, ground := Go.Ground.data }, { on := 14, ground := Go.Ground.data }], guard := none }) (v := ?v91) rfl (by kernel_rfl) (by kernel_rfl) (by kernel_rfl) (fun _ _ _ h => h) (Or.inl ⟨by rfl, ?hy91⟩) (by assumption) ?rest91
  case hy91 => (intro w hSw; (try dsimp only at hSw); have ecrb05 := hSw.cell crb05 id; have ecrb06 := hSw.cell crb06 id; have ecrb07 := hSw.cell crb07 id; have ecrb08 := hSw.cell crb08 id; go_simp <;> with_reducible rfl)
  try simp only [Act.put, List.setIfInBounds_toArray, List.set_cons_zero, List.set_cons_succ]
  refine wpAnyH_ready (rs := [18]) (by kernel_rfl) (by simp) ?_
  refine AllReadyH.cons (o := { dst := some 55, op := Go.Op.call { callee := Go.Callee.value (Go.Operand.func 65), args := #[Go.Operand.tmp 54, Go.Operand.const (Go.Value.int Go.IntKind.i64 4)], argTypes := #[26, 3] }, type := 9, pos := "ref.go:40", after := #[{ on := 17, ground := Go.Ground.data }, { on := 14, ground := Go.Ground.chain }], guard := none }) rfl (fun K hK => ?_) AllReadyH.nil
  go_simp
  refine (text_any dst 4 (by omega) (by omega) (by omega) _).mono ?_
  rintro e v4 ⟨rfl, hx⟩
  have hS5 := hS4.trans hx
  clear hx
  refine hK.out _ _ hS5 (fun _ => ?_)
  refine wpAnyH_take (i := 19) (oi := { dst := some 56, op := Go.Op.binOp Go.BinOp.add 9 (Go.Operand.tmp 52) (Go.Operand.tmp 55) 9, type := 9, pos := "ref.go:40", after := #[{ on := 15, ground := Go.Ground.data }, { on := 18, ground := Go.Ground.data }], guard := none }) (v := ?v92) rfl (by kernel_rfl) (by kernel_rfl) (by kernel_rfl) (fun _ _ _ h => h) (Or.inl ⟨by rfl, ?hy92⟩) (by assumption) ?rest92
  case hy92 => (intro w hSw; (try dsimp only at hSw); have ecrb05 := hSw.cell crb05 id; have ecrb06 := hSw.cell crb06 id; have ecrb07 := hSw.cell crb07 id; have ecrb08 := hSw.cell crb08 id; go_simp <;> with_reducible rfl)
  try simp only [Act.put, List.setIfInBounds_toArray, List.set_cons_zero, List.set_cons_succ]
  refine wpAnyH_take (i := 20) (oi := { dst := some 4, op := Go.Op.assign (Go.Operand.tmp 56), type := 9, pos := "ref.go:40", after := #[{ on := 19, ground := Go.Ground.data }, { on := 18, ground := Go.Ground.chain }, { on := 0, ground := Go.Ground.phase }, { on := 1, ground := Go.Ground.phase }, { on := 2, ground := Go.Ground.phase }, { on := 3, ground := Go.Ground.phase }, { on := 4, ground := Go.Ground.phase }, { on := 5, ground := Go.Ground.phase }, { on := 6, ground := Go.Ground.phase }, { on := 7, ground := Go.Ground.phase }, { on := 8, ground := Go.Ground.phase }, { on := 9, ground := Go.Ground.phase }, { on := 10, ground := Go.Ground.phase }, { on := 11, ground := Go.Ground.phase }, { on := 12, ground := Go.Ground.phase }, { on := 13, ground := Go.Ground.phase }, { on := 14, ground := Go.Ground.phase }, { on := 15, ground := Go.Ground.phase }, { on := 16, ground := Go.Ground.phase }, { on := 17, ground := Go.Ground.phase }, { on := 18, ground := Go.Ground.phase }, { on := 19, ground := Go.Ground.phase }], guard := none }) (v := ?v93) rfl (by kernel_rfl) (by kernel_rfl) (by kernel_rfl) (fun _ _ _ h => h) (Or.inl ⟨by rfl, ?hy93⟩) (by assumption) ?rest93
  case hy93 => (intro w hSw; (try dsimp only at hSw); have ecrb05 := hSw.cell crb05 id; have ecrb06 := hSw.cell crb06 id; have ecrb07 := hSw.cell crb07 id; have ecrb08 := hSw.cell crb08 id; go_simp <;> with_reducible rfl)
  try simp only [Act.put, List.setIfInBounds_toArray, List.set_cons_zero, List.set_cons_succ]
  refine wpAnyH_done (by kernel_rfl) ?_ _
  have hx := hS5
  clear hS0 hS1 hS2 hS3 hS4 hS5 crb00 crb01 crb02 crb03 crb04 crb05 crb06 crb07 crb08 crb09
  have HX_v4 := Lib.hid hx
  clear hx
  go_wp2_with fail
  go_ret
  rw [← HFIN.out]
  exact ⟨rfl, ((HX_w1.out.trans HX_v3.out).trans HX_v4.out)⟩
set_option maxRecDepth 100000 in
set_option maxHeartbeats 4000000 in
theorem rhead_tt (tos ident off ttl pr src dst s : Int) (b : List UInt8) (w : World) (ok : (⟨tos, ident, true, true, off, ttl, pr, src, dst, b⟩ : Pk).ok) (hright : (⟨tos, ident, true, true, off, ttl, pr, src, dst, b⟩ : Pk).right = 0) (hs : 0 ≤ s ∧ s ≤ 65535) :
    Calls Tryd.prog 57 #[.agg #[.int .u32 tos, .int .u32 ident, .bool true, .bool true, .int .i64 off, .int .u32 ttl, .int .u32 pr, .int .u32 src, .int .u32 dst, .string (bs b)], .int .u32 s] w fun e w' => e = .returned (.string (bs ((⟨tos, ident, true, true, off, ttl, pr, src, dst, b⟩ : Pk).hd s).bytes)) ∧ Ex (fun _ => False) w w' := by
  obtain ⟨k1, k2, _, _, k5⟩ := Pk.right_zero hright
  obtain ⟨o0, o1, _, o3, o4, o5, o6⟩ := ok
  simp only at k1 k2 k5 o0 o1 o3 o4 o5 o6
  obtain ⟨o00, o01⟩ := o0
  obtain ⟨o10, o11⟩ := o1
  obtain ⟨o30, o31⟩ := o3
  obtain ⟨o40, o41⟩ := o4
  obtain ⟨o50, o51⟩ := o5
  obtain ⟨o60, o61⟩ := o6
  obtain ⟨s0, s1⟩ := hs
  have k6 : off ≤ 65515 := by omega
  have k7 : (b.length : Int) ≤ 65515 := by omega
  have hbits : (⟨tos, ident, true, true, off, ttl, pr, src, dst, b⟩ : Pk).bits = off / 8 + 8192 + 16384 := by show off / 8 + 16384 + 8192 = off / 8 + 8192 + 16384; omega
  have hz := bs_size b
  have q1 := IntWalk.u32_in (off / 8) (by omega)
  have q2 := IntWalk.u32_in (20 + (b.length : Int)) (by omega)
  have q3 := IntWalk.i64_in (20 + (b.length : Int)) (by omega)
  have q4 := IntWalk.u32_in (off / 8 + 8192) (by omega)
  have q5 := IntWalk.u32_in (off / 8 + 8192 + 16384) (by omega)
  have hfin : [69] ++ txt tos 1 ++ txt (20 + (b.length : Int)) 2 ++ txt ident 2 ++ txt (off / 8 + 8192 + 16384) 2 ++ txt ttl 1 ++ txt pr 1 ++ txt s 2 ++ txt src 4 ++ txt dst 4 = ((⟨tos, ident, true, true, off, ttl, pr, src, dst, b⟩ : Pk).hd s).bytes := by
    rw [← hbits]
    have h69 : by8 69 = 69 := by decide
    show _ = by8 69 :: _
    rw [h69]
    rfl
  have HFIN := Lib.hid hfin
  have K2 := Lib.hid k2
  clear hbits hfin hright k2
  have b69 : bs [69] = ⟨#[69]⟩ := rfl
  obtain ⟨L1, hL1⟩ : ∃ L, [69] ++ txt tos 1 = L := ⟨_, rfl⟩
  have a1 := bs_append [69] (txt tos 1)
  rw [hL1] at a1
  have z1 : (bs L1).size = 2 := by rw [bs_size, ← hL1, List.length_append, txt_len]; rfl
  have y1 : (bs (txt tos 1)).size = 1 := by rw [bs_size, txt_len]
  rw [hL1] at HFIN
  obtain ⟨L2, hL2⟩ : ∃ L, L1 ++ txt (20 + (b.length : Int)) 2 = L := ⟨_, rfl⟩
  have a2 := bs_append L1 (txt (20 + (b.length : Int)) 2)
  rw [hL2] at a2
  have z2 : (bs L2).size = 4 := by rw [bs_size, ← hL2, List.length_append, txt_len]; have := z1; rw [bs_size] at this; omega
  have y2 : (bs (txt (20 + (b.length : Int)) 2)).size = 2 := by rw [bs_size, txt_len]
  rw [hL2] at HFIN
  obtain ⟨L3, hL3⟩ : ∃ L, L2 ++ txt ident 2 = L := ⟨_, rfl⟩
  have a3 := bs_append L2 (txt ident 2)
  rw [hL3] at a3
  have z3 : (bs L3).size = 6 := by rw [bs_size, ← hL3, List.length_append, txt_len]; have := z2; rw [bs_size] at this; omega
  have y3 : (bs (txt ident 2)).size = 2 := by rw [bs_size, txt_len]
  rw [hL3] at HFIN
  obtain ⟨L4, hL4⟩ : ∃ L, L3 ++ txt (off / 8 + 8192 + 16384) 2 = L := ⟨_, rfl⟩
  have a4 := bs_append L3 (txt (off / 8 + 8192 + 16384) 2)
  rw [hL4] at a4
  have z4 : (bs L4).size = 8 := by rw [bs_size, ← hL4, List.length_append, txt_len]; have := z3; rw [bs_size] at this; omega
  have y4 : (bs (txt (off / 8 + 8192 + 16384) 2)).size = 2 := by rw [bs_size, txt_len]
  rw [hL4] at HFIN
  obtain ⟨L5, hL5⟩ : ∃ L, L4 ++ txt ttl 1 = L := ⟨_, rfl⟩
  have a5 := bs_append L4 (txt ttl 1)
  rw [hL5] at a5
  have z5 : (bs L5).size = 9 := by rw [bs_size, ← hL5, List.length_append, txt_len]; have := z4; rw [bs_size] at this; omega
  have y5 : (bs (txt ttl 1)).size = 1 := by rw [bs_size, txt_len]
  rw [hL5] at HFIN
  obtain ⟨L6, hL6⟩ : ∃ L, L5 ++ txt pr 1 = L := ⟨_, rfl⟩
  have a6 := bs_append L5 (txt pr 1)
  rw [hL6] at a6
  have z6 : (bs L6).size = 10 := by rw [bs_size, ← hL6, List.length_append, txt_len]; have := z5; rw [bs_size] at this; omega
  have y6 : (bs (txt pr 1)).size = 1 := by rw [bs_size, txt_len]
  rw [hL6] at HFIN
  obtain ⟨L7, hL7⟩ : ∃ L, L6 ++ txt s 2 = L := ⟨_, rfl⟩
  have a7 := bs_append L6 (txt s 2)
  rw [hL7] at a7
  have z7 : (bs L7).size = 12 := by rw [bs_size, ← hL7, List.length_append, txt_len]; have := z6; rw [bs_size] at this; omega
  have y7 : (bs (txt s 2)).size = 2 := by rw [bs_size, txt_len]
  rw [hL7] at HFIN
  obtain ⟨L8, hL8⟩ : ∃ L, L7 ++ txt src 4 = L := ⟨_, rfl⟩
  have a8 := bs_append L7 (txt src 4)
  rw [hL8] at a8
  have z8 : (bs L8).size = 16 := by rw [bs_size, ← hL8, List.length_append, txt_len]; have := z7; rw [bs_size] at this; omega
  have y8 : (bs (txt src 4)).size = 4 := by rw [bs_size, txt_len]
  rw [hL8] at HFIN
  obtain ⟨L9, hL9⟩ : ∃ L, L8 ++ txt dst 4 = L := ⟨_, rfl⟩
  have a9 := bs_append L8 (txt dst 4)
  rw [hL9] at a9
  have z9 : (bs L9).size = 20 := by rw [bs_size, ← hL9, List.length_append, txt_len]; have := z8; rw [bs_size] at this; omega
  have y9 : (bs (txt dst 4)).size = 4 := by rw [bs_size, txt_len]
  rw [hL9] at HFIN
  rw [b69] at a1
  clear hL1 hL2 hL3 hL4 hL5 hL6 hL7 hL8 hL9
  go_enter Tryd.func57, Tryd.ntmps57
  go_upto_region 1 with fail
  have hx : Ex (fun _ => False) w (w.alloc (.cells #[.int .u32 tos, .int .u32 ident, .bool true, .bool true, .int .i64 off, .int .u32 ttl, .int .u32 pr, .int .u32 src, .int .u32 dst, .string (bs b)] 55)) := (Ex.refl _ w).alloc _
  have hb : (w.alloc (.cells #[.int .u32 tos, .int .u32 ident, .bool true, .bool true, .int .i64 off, .int .u32 ttl, .int .u32 pr, .int .u32 src, .int .u32 dst, .string (bs b)] 55)).heap[w.heap.size]? = some (.cells #[.int .u32 tos, .int .u32 ident, .bool true, .bool true, .int .i64 off, .int .u32 ttl, .int .u32 pr, .int .u32 src, .int .u32 dst, .string (bs b)] 55) := heap_alloc_new w _
  obtain ⟨rb0, hrb0⟩ : ∃ rb0, rb0 = w.heap.size := ⟨_, rfl⟩
  have hb_rb0 : w.heap.size ≤ rb0 := by omega
  rw [← hrb0] at hb
  try simp only [← hrb0]
  generalize w.alloc (.cells #[.int .u32 tos, .int .u32 ident, .bool true, .bool true, .int .i64 off, .int .u32 ttl, .int .u32 pr, .int .u32 src, .int .u32 dst, .string (bs b)] 55) = w1 at hx hb ⊢
  clear hrb0
  have HX_w1 := Lib.hid hx
  clear hx
  have B_rb0 := Lib.hid hb
  clear hb
  have crb00 := row_cell (k := 0) (v := .int .u32 tos) B_rb0.out rfl
  have crb01 := row_cell (k := 1) (v := .int .u32 ident) B_rb0.out rfl
  have crb02 := row_cell (k := 2) (v := .bool true) B_rb0.out rfl
  have crb03 := row_cell (k := 3) (v := .bool true) B_rb0.out rfl
  have crb04 := row_cell (k := 4) (v := .int .i64 off) B_rb0.out rfl
  have crb05 := row_cell (k := 5) (v := .int .u32 ttl) B_rb0.out rfl
  have crb06 := row_cell (k := 6) (v := .int .u32 pr) B_rb0.out rfl
  have crb07 := row_cell (k := 7) (v := .int .u32 src) B_rb0.out rfl
  have crb08 := row_cell (k := 8) (v := .int .u32 dst) B_rb0.out rfl
  have crb09 := row_cell (k := 9) (v := .string (bs b)) B_rb0.out rfl
  go_upto_region 6 with fail
  have hS0 : Ex (fun _ => False) w1 w1.drew := (Ex.refl _ w1).drew
  refine wp_region_held_drew (S := fun W => Ex (fun _ => False) w1 W) (by kernel_rfl) hS0 (fun _ => ?_)
  refine wpAnyH_take (i := 0) (oi := { dst := some 19, op := Go.Op.fieldAddr 55 (Go.Operand.tmp 2) 0, type := 0, pos := "ref.go:39", after := #[], guard := none }) (v := ?v94) rfl (by kernel_rfl) (by kernel_rfl) (by kernel_rfl) (fun _ _ _ h => h) (Or.inl ⟨by rfl, ?hy94⟩) (by assumption) ?rest94
  case hy94 => (intro w hSw; (try dsimp only at hSw); have ecrb00 := hSw.cell crb00 id; have ecrb01 := hSw.cell crb01 id; have ecrb09 := hSw.cell crb09 id; go_simp <;> with_reducible rfl)
  try simp only [Act.put, List.setIfInBounds_toArray, List.set_cons_zero, List.set_cons_succ]
  refine wpAnyH_take (i := 1) (oi := { dst := some 20, op := Go.Op.load 26 (Go.Operand.tmp 19), type := 26, pos := "ref.go:39", after := #[{ on := 0, ground := Go.Ground.data }], guard := none }) (v := ?v95) rfl (by kernel_rfl) (by kernel_rfl) (by kernel_rfl) (fun _ _ _ h => h) (Or.inl ⟨by rfl, ?hy95⟩) (by assumption) ?rest95
  case hy95 => (intro w hSw; (try dsimp only at hSw); have ecrb00 := hSw.cell crb00 id; have ecrb01 := hSw.cell crb01 id; have ecrb09 := hSw.cell crb09 id; go_simp <;> with_reducible rfl)
  try simp only [Act.put, List.setIfInBounds_toArray, List.set_cons_zero, List.set_cons_succ]
  refine wpAnyH_take (i := 4) (oi := { dst := some 23, op := Go.Op.fieldAddr 55 (Go.Operand.tmp 2) 9, type := 0, pos := "ref.go:39", after := #[], guard := none }) (v := ?v96) rfl (by kernel_rfl) (by kernel_rfl) (by kernel_rfl) (fun _ _ _ h => h) (Or.inl ⟨by rfl, ?hy96⟩) (by assumption) ?rest96
  case hy96 => (intro w hSw; (try dsimp only at hSw); have ecrb00 := hSw.cell crb00 id; have ecrb01 := hSw.cell crb01 id; have ecrb09 := hSw.cell crb09 id; go_simp <;> with_reducible rfl)
  try simp only [Act.put, List.setIfInBounds_toArray, List.set_cons_zero, List.set_cons_succ]
  refine wpAnyH_take (i := 5) (oi := { dst := some 24, op := Go.Op.load 9 (Go.Operand.tmp 23), type := 9, pos := "ref.go:39", after := #[{ on := 4, ground := Go.Ground.data }], guard := none }) (v := ?v97) rfl (by kernel_rfl) (by kernel_rfl) (by kernel_rfl) (fun _ _ _ h => h) (Or.inl ⟨by rfl, ?hy97⟩) (by assumption) ?rest97
  case hy97 => (intro w hSw; (try dsimp only at hSw); have ecrb00 := hSw.cell crb00 id; have ecrb01 := hSw.cell crb01 id; have ecrb09 := hSw.cell crb09 id; go_simp <;> with_reducible rfl)
  try simp only [Act.put, List.setIfInBounds_toArray, List.set_cons_zero, List.set_cons_succ]
  refine wpAnyH_take (i := 6) (oi := { dst := some 25, op := Go.Op.call { callee := Go.Callee.builtin Go.Builtin.len, args := #[Go.Operand.tmp 24], argTypes := #[9] }, type := 3, pos := "ref.go:39", after := #[{ on := 5, ground := Go.Ground.data }], guard := none }) (v := ?v98) rfl (by kernel_rfl) (by kernel_rfl) (by kernel_rfl) (fun _ _ _ h => h) (Or.inl ⟨by rfl, ?hy98⟩) (by assumption) ?rest98
  case hy98 => (intro w hSw; (try dsimp only at hSw); have ecrb00 := hSw.cell crb00 id; have ecrb01 := hSw.cell crb01 id; have ecrb09 := hSw.cell crb09 id; go_simp <;> with_reducible rfl)
  try simp only [Act.put, List.setIfInBounds_toArray, List.set_cons_zero, List.set_cons_succ]
  refine wpAnyH_take (i := 7) (oi := { dst := some 26, op := Go.Op.binOp Go.BinOp.add 3 (Go.Operand.const (Go.Value.int Go.IntKind.i64 20)) (Go.Operand.tmp 25) 3, type := 3, pos := "ref.go:39", after := #[{ on := 6, ground := Go.Ground.data }], guard := none }) (v := ?v99) rfl (by kernel_rfl) (by kernel_rfl) (by kernel_rfl) (fun _ _ _ h => h) (Or.inl ⟨by rfl, ?hy99⟩) (by assumption) ?rest99
  case hy99 => (intro w hSw; (try dsimp only at hSw); have ecrb00 := hSw.cell crb00 id; have ecrb01 := hSw.cell crb01 id; have ecrb09 := hSw.cell crb09 id; go_simp <;> with_reducible rfl)
  try simp only [Act.put, List.setIfInBounds_toArray, List.set_cons_zero, List.set_cons_succ]
  refine wpAnyH_take (i := 8) (oi := { dst := some 27, op := Go.Op.convert 3 26 (Go.Operand.tmp 26), type := 26, pos := "ref.go:39", after := #[{ on := 7, ground := Go.Ground.data }], guard := none }) (v := ?v100) rfl (by kernel_rfl) (by kernel_rfl) (by kernel_rfl) (fun _ _ _ h => h) (Or.inl ⟨by rfl, ?hy100⟩) (by assumption) ?rest100
  case hy100 => (intro w hSw; (try dsimp only at hSw); have ecrb00 := hSw.cell crb00 id; have ecrb01 := hSw.cell crb01 id; have ecrb09 := hSw.cell crb09 id; go_simp <;> with_reducible rfl)
  try simp only [Act.put, List.setIfInBounds_toArray, List.set_cons_zero, List.set_cons_succ]
  refine wpAnyH_take (i := 11) (oi := { dst := some 30, op := Go.Op.fieldAddr 55 (Go.Operand.tmp 2) 1, type := 0, pos := "ref.go:39", after := #[], guard := none }) (v := ?v101) rfl (by kernel_rfl) (by kernel_rfl) (by kernel_rfl) (fun _ _ _ h => h) (Or.inl ⟨by rfl, ?hy101⟩) (by assumption) ?rest101
  case hy101 => (intro w hSw; (try dsimp only at hSw); have ecrb00 := hSw.cell crb00 id; have ecrb01 := hSw.cell crb01 id; have ecrb09 := hSw.cell crb09 id; go_simp <;> with_reducible rfl)
  try simp only [Act.put, List.setIfInBounds_toArray, List.set_cons_zero, List.set_cons_succ]
  refine wpAnyH_take (i := 12) (oi := { dst := some 31, op := Go.Op.load 26 (Go.Operand.tmp 30), type := 26, pos := "ref.go:39", after := #[{ on := 11, ground := Go.Ground.data }], guard := none }) (v := ?v102) rfl (by kernel_rfl) (by kernel_rfl) (by kernel_rfl) (fun _ _ _ h => h) (Or.inl ⟨by rfl, ?hy102⟩) (by assumption) ?rest102
  case hy102 => (intro w hSw; (try dsimp only at hSw); have ecrb00 := hSw.cell crb00 id; have ecrb01 := hSw.cell crb01 id; have ecrb09 := hSw.cell crb09 id; go_simp <;> with_reducible rfl)
  try simp only [Act.put, List.setIfInBounds_toArray, List.set_cons_zero, List.set_cons_succ]
  refine wpAnyH_take (i := 15) (oi := { dst := some 34, op := Go.Op.move (Go.Operand.tmp 5), type := 26, pos := "ref.go:39", after := #[], guard := none }) (v := ?v103) rfl (by kernel_rfl) (by kernel_rfl) (by kernel_rfl) (fun _ _ _ h => h) (Or.inl ⟨by rfl, ?hy103⟩) (by assumption) ?rest103
  case hy103 => (intro w hSw; (try dsimp only at hSw); have ecrb00 := hSw.cell crb00 id; have ecrb01 := hSw.cell crb01 id; have ecrb09 := hSw.cell crb09 id; go_simp <;> with_reducible rfl)
  try simp only [Act.put, List.setIfInBounds_toArray, List.set_cons_zero, List.set_cons_succ]
  refine wpAnyH_ready (rs := [2]) (by kernel_rfl) (by simp) ?_
  refine AllReadyH.cons (o := { dst := some 21, op := Go.Op.call { callee := Go.Callee.value (Go.Operand.func 65), args := #[Go.Operand.tmp 20, Go.Operand.const (Go.Value.int Go.IntKind.i64 1)], argTypes := #[26, 3] }, type := 9, pos := "ref.go:39", after := #[{ on := 1, ground := Go.Ground.data }], guard := none }) rfl (fun K hK => ?_) AllReadyH.nil
  go_simp
  refine (text_any tos 1 (by omega) (by omega) (by omega) _).mono ?_
  rintro e v0 ⟨rfl, hx⟩
  have hS1 := hS0.trans hx
  clear hx
  refine hK.out _ _ hS1 (fun _ => ?_)
  refine wpAnyH_take (i := 3) (oi := { dst := some 22, op := Go.Op.binOp Go.BinOp.add 9 (Go.Operand.const (Go.Value.string { data := #[69] })) (Go.Operand.tmp 21) 9, type := 9, pos := "ref.go:39", after := #[{ on := 2, ground := Go.Ground.data }], guard := none }) (v := ?v104) rfl (by kernel_rfl) (by kernel_rfl) (by kernel_rfl) (fun _ _ _ h => h) (Or.inl ⟨by rfl, ?hy104⟩) (by assumption) ?rest104
  case hy104 => (intro w hSw; (try dsimp only at hSw); have ecrb00 := hSw.cell crb00 id; have ecrb01 := hSw.cell crb01 id; have ecrb09 := hSw.cell crb09 id; go_simp <;> with_reducible rfl)
  try simp only [Act.put, List.setIfInBounds_toArray, List.set_cons_zero, List.set_cons_succ]
  refine wpAnyH_ready (rs := [9]) (by kernel_rfl) (by simp) ?_
  refine AllReadyH.cons (o := { dst := some 28, op := Go.Op.call { callee := Go.Callee.value (Go.Operand.func 65), args := #[Go.Operand.tmp 27, Go.Operand.const (Go.Value.int Go.IntKind.i64 2)], argTypes := #[26, 3] }, type := 9, pos := "ref.go:39", after := #[{ on := 8, ground := Go.Ground.data }, { on := 2, ground := Go.Ground.chain }], guard := none }) rfl (fun K hK => ?_) AllReadyH.nil
  go_simp
  refine (text_any (20 + (b.length : Int)) 2 (by omega) (by omega) (by omega) _).mono ?_
  rintro e v1 ⟨rfl, hx⟩
  have hS2 := hS1.trans hx
  clear hx
  refine hK.out _ _ hS2 (fun _ => ?_)
  refine wpAnyH_take (i := 10) (oi := { dst := some 29, op := Go.Op.binOp Go.BinOp.add 9 (Go.Operand.tmp 22) (Go.Operand.tmp 28) 9, type := 9, pos := "ref.go:39", after := #[{ on := 3, ground := Go.Ground.data }, { on := 9, ground := Go.Ground.data }], guard := none }) (v := ?v105) rfl (by kernel_rfl) (by kernel_rfl) (by kernel_rfl) (fun _ _ _ h => h) (Or.inl ⟨by rfl, ?hy105⟩) (by assumption) ?rest105
  case hy105 => (intro w hSw; (try dsimp only at hSw); have ecrb00 := hSw.cell crb00 id; have ecrb01 := hSw.cell crb01 id; have ecrb09 := hSw.cell crb09 id; go_simp <;> with_reducible rfl)
  try simp only [Act.put, List.setIfInBounds_toArray, List.set_cons_zero, List.set_cons_succ]
  refine wpAnyH_ready (rs := [13]) (by kernel_rfl) (by simp) ?_
  refine AllReadyH.cons (o := { dst := some 32, op := Go.Op.call { callee := Go.Callee.value (Go.Operand.func 65), args := #[Go.Operand.tmp 31, Go.Operand.const (Go.Value.int Go.IntKind.i64 2)], argTypes := #[26, 3] }, type := 9, pos := "ref.go:39", after := #[{ on := 12, ground := Go.Ground.data }, { on := 9, ground := Go.Ground.chain }], guard := none }) rfl (fun K hK => ?_) AllReadyH.nil
  go_simp
  refine (text_any ident 2 (by omega) (by omega) (by omega) _).mono ?_
  rintro e v2 ⟨rfl, hx⟩
  have hS3 := hS2.trans hx
  clear hx
  refine hK.out _ _ hS3 (fun _ => ?_)
  refine wpAnyH_take (i := 14) (oi := { dst := some 33, op := Go.Op.binOp Go.BinOp.add 9 (Go.Operand.tmp 29) (Go.Operand.tmp 32) 9, type := 9, pos := "ref.go:39", after := #[{ on := 10, ground := Go.Ground.data }, { on := 13, ground := Go.Ground.data }], guard := none }) (v := ?v106) rfl (by kernel_rfl) (by kernel_rfl) (by kernel_rfl) (fun _ _ _ h => h) (Or.inl ⟨by rfl, ?hy106⟩) (by assumption) ?rest106
  case hy106 => (intro w hSw; (try dsimp only at hSw); have ecrb00 := hSw.cell crb00 id; have ecrb01 := hSw.cell crb01 id; have ecrb09 := hSw.cell crb09 id; go_simp <;> with_reducible rfl)
  try simp only [Act.put, List.setIfInBounds_toArray, List.set_cons_zero, List.set_cons_succ]
  refine wpAnyH_ready (rs := [16]) (by kernel_rfl) (by simp) ?_
  refine AllReadyH.cons (o := { dst := some 35, op := Go.Op.call { callee := Go.Callee.value (Go.Operand.func 65), args := #[Go.Operand.tmp 34, Go.Operand.const (Go.Value.int Go.IntKind.i64 2)], argTypes := #[26, 3] }, type := 9, pos := "ref.go:39", after := #[{ on := 15, ground := Go.Ground.data }, { on := 13, ground := Go.Ground.chain }], guard := none }) rfl (fun K hK => ?_) AllReadyH.nil
  go_simp
  refine (text_any (off / 8 + 8192 + 16384) 2 (by omega) (by omega) (by omega) _).mono ?_
  rintro e v3 ⟨rfl, hx⟩
  have hS4 := hS3.trans hx
  clear hx
  refine hK.out _ _ hS4 (fun _ => ?_)
  refine wpAnyH_take (i := 17) (oi := { dst := some 36, op := Go.Op.binOp Go.BinOp.add 9 (Go.Operand.tmp 33) (Go.Operand.tmp 35) 9, type := 9, pos := "ref.go:39", after := #[{ on := 14, ground := Go.Ground.data }, { on := 16, ground := Go.Ground.data }], guard := none }) (v := ?v107) rfl (by kernel_rfl) (by kernel_rfl) (by kernel_rfl) (fun _ _ _ h => h) (Or.inl ⟨by rfl, ?hy107⟩) (by assumption) ?rest107
  case hy107 => (intro w hSw; (try dsimp only at hSw); have ecrb00 := hSw.cell crb00 id; have ecrb01 := hSw.cell crb01 id; have ecrb09 := hSw.cell crb09 id; go_simp <;> with_reducible rfl)
  try simp only [Act.put, List.setIfInBounds_toArray, List.set_cons_zero, List.set_cons_succ]
  refine wpAnyH_take (i := 18) (oi := { dst := some 6, op := Go.Op.assign (Go.Operand.tmp 36), type := 9, pos := "ref.go:39", after := #[{ on := 17, ground := Go.Ground.data }, { on := 16, ground := Go.Ground.chain }, { on := 0, ground := Go.Ground.phase }, { on := 1, ground := Go.Ground.phase }, { on := 2, ground := Go.Ground.phase }, { on := 3, ground := Go.Ground.phase }, { on := 4, ground := Go.Ground.phase }, { on := 5, ground := Go.Ground.phase }, { on := 6, ground := Go.Ground.phase }, { on := 7, ground := Go.Ground.phase }, { on := 8, ground := Go.Ground.phase }, { on := 9, ground := Go.Ground.phase }, { on := 10, ground := Go.Ground.phase }, { on := 11, ground := Go.Ground.phase }, { on := 12, ground := Go.Ground.phase }, { on := 13, ground := Go.Ground.phase }, { on := 14, ground := Go.Ground.phase }, { on := 15, ground := Go.Ground.phase }, { on := 16, ground := Go.Ground.phase }, { on := 17, ground := Go.Ground.phase }], guard := none }) (v := ?v108) rfl (by kernel_rfl) (by kernel_rfl) (by kernel_rfl) (fun _ _ _ h => h) (Or.inl ⟨by rfl, ?hy108⟩) (by assumption) ?rest108
  case hy108 => (intro w hSw; (try dsimp only at hSw); have ecrb00 := hSw.cell crb00 id; have ecrb01 := hSw.cell crb01 id; have ecrb09 := hSw.cell crb09 id; go_simp <;> with_reducible rfl)
  try simp only [Act.put, List.setIfInBounds_toArray, List.set_cons_zero, List.set_cons_succ]
  refine wpAnyH_done (by kernel_rfl) ?_ _
  have hx := hS4
  clear hS0 hS1 hS2 hS3 hS4 crb00 crb01 crb02 crb03 crb04 crb05 crb06 crb07 crb08 crb09
  have HX_v3 := Lib.hid hx
  clear hx
  replace B_rb0 := Lib.hid ((HX_v3.out.block rb0 (row_lt B_rb0.out) id).trans B_rb0.out)
  have crb00 := row_cell (k := 0) (v := .int .u32 tos) B_rb0.out rfl
  have crb01 := row_cell (k := 1) (v := .int .u32 ident) B_rb0.out rfl
  have crb02 := row_cell (k := 2) (v := .bool true) B_rb0.out rfl
  have crb03 := row_cell (k := 3) (v := .bool true) B_rb0.out rfl
  have crb04 := row_cell (k := 4) (v := .int .i64 off) B_rb0.out rfl
  have crb05 := row_cell (k := 5) (v := .int .u32 ttl) B_rb0.out rfl
  have crb06 := row_cell (k := 6) (v := .int .u32 pr) B_rb0.out rfl
  have crb07 := row_cell (k := 7) (v := .int .u32 src) B_rb0.out rfl
  have crb08 := row_cell (k := 8) (v := .int .u32 dst) B_rb0.out rfl
  have crb09 := row_cell (k := 9) (v := .string (bs b)) B_rb0.out rfl
  go_upto_region 7 with fail
  have hS0 : Ex (fun _ => False) v3 v3.drew := (Ex.refl _ v3).drew
  refine wp_region_held_drew (S := fun W => Ex (fun _ => False) v3 W) (by kernel_rfl) hS0 (fun _ => ?_)
  refine wpAnyH_take (i := 0) (oi := { dst := some 37, op := Go.Op.move (Go.Operand.tmp 6), type := 9, pos := "ref.go:40", after := #[], guard := none }) (v := ?v109) rfl (by kernel_rfl) (by kernel_rfl) (by kernel_rfl) (fun _ _ _ h => h) (Or.inl ⟨by rfl, ?hy109⟩) (by assumption) ?rest109
  case hy109 => (intro w hSw; (try dsimp only at hSw); have ecrb05 := hSw.cell crb05 id; have ecrb06 := hSw.cell crb06 id; have ecrb07 := hSw.cell crb07 id; have ecrb08 := hSw.cell crb08 id; go_simp <;> with_reducible rfl)
  try simp only [Act.put, List.setIfInBounds_toArray, List.set_cons_zero, List.set_cons_succ]
  refine wpAnyH_take (i := 1) (oi := { dst := some 38, op := Go.Op.fieldAddr 55 (Go.Operand.tmp 2) 5, type := 0, pos := "ref.go:40", after := #[], guard := none }) (v := ?v110) rfl (by kernel_rfl) (by kernel_rfl) (by kernel_rfl) (fun _ _ _ h => h) (Or.inl ⟨by rfl, ?hy110⟩) (by assumption) ?rest110
  case hy110 => (intro w hSw; (try dsimp only at hSw); have ecrb05 := hSw.cell crb05 id; have ecrb06 := hSw.cell crb06 id; have ecrb07 := hSw.cell crb07 id; have ecrb08 := hSw.cell crb08 id; go_simp <;> with_reducible rfl)
  try simp only [Act.put, List.setIfInBounds_toArray, List.set_cons_zero, List.set_cons_succ]
  refine wpAnyH_take (i := 2) (oi := { dst := some 39, op := Go.Op.load 26 (Go.Operand.tmp 38), type := 26, pos := "ref.go:40", after := #[{ on := 1, ground := Go.Ground.data }], guard := none }) (v := ?v111) rfl (by kernel_rfl) (by kernel_rfl) (by kernel_rfl) (fun _ _ _ h => h) (Or.inl ⟨by rfl, ?hy111⟩) (by assumption) ?rest111
  case hy111 => (intro w hSw; (try dsimp only at hSw); have ecrb05 := hSw.cell crb05 id; have ecrb06 := hSw.cell crb06 id; have ecrb07 := hSw.cell crb07 id; have ecrb08 := hSw.cell crb08 id; go_simp <;> with_reducible rfl)
  try simp only [Act.put, List.setIfInBounds_toArray, List.set_cons_zero, List.set_cons_succ]
  refine wpAnyH_take (i := 5) (oi := { dst := some 42, op := Go.Op.fieldAddr 55 (Go.Operand.tmp 2) 6, type := 0, pos := "ref.go:40", after := #[], guard := none }) (v := ?v112) rfl (by kernel_rfl) (by kernel_rfl) (by kernel_rfl) (fun _ _ _ h => h) (Or.inl ⟨by rfl, ?hy112⟩) (by assumption) ?rest112
  case hy112 => (intro w hSw; (try dsimp only at hSw); have ecrb05 := hSw.cell crb05 id; have ecrb06 := hSw.cell crb06 id; have ecrb07 := hSw.cell crb07 id; have ecrb08 := hSw.cell crb08 id; go_simp <;> with_reducible rfl)
  try simp only [Act.put, List.setIfInBounds_toArray, List.set_cons_zero, List.set_cons_succ]
  refine wpAnyH_take (i := 6) (oi := { dst := some 43, op := Go.Op.load 26 (Go.Operand.tmp 42), type := 26, pos := "ref.go:40", after := #[{ on := 5, ground := Go.Ground.data }], guard := none }) (v := ?v113) rfl (by kernel_rfl) (by kernel_rfl) (by kernel_rfl) (fun _ _ _ h => h) (Or.inl ⟨by rfl, ?hy113⟩) (by assumption) ?rest113
  case hy113 => (intro w hSw; (try dsimp only at hSw); have ecrb05 := hSw.cell crb05 id; have ecrb06 := hSw.cell crb06 id; have ecrb07 := hSw.cell crb07 id; have ecrb08 := hSw.cell crb08 id; go_simp <;> with_reducible rfl)
  try simp only [Act.put, List.setIfInBounds_toArray, List.set_cons_zero, List.set_cons_succ]
  refine wpAnyH_take (i := 9) (oi := { dst := some 46, op := Go.Op.move (Go.Operand.tmp 1), type := 26, pos := "ref.go:40", after := #[], guard := none }) (v := ?v114) rfl (by kernel_rfl) (by kernel_rfl) (by kernel_rfl) (fun _ _ _ h => h) (Or.inl ⟨by rfl, ?hy114⟩) (by assumption) ?rest114
  case hy114 => (intro w hSw; (try dsimp only at hSw); have ecrb05 := hSw.cell crb05 id; have ecrb06 := hSw.cell crb06 id; have ecrb07 := hSw.cell crb07 id; have ecrb08 := hSw.cell crb08 id; go_simp <;> with_reducible rfl)
  try simp only [Act.put, List.setIfInBounds_toArray, List.set_cons_zero, List.set_cons_succ]
  refine wpAnyH_take (i := 12) (oi := { dst := some 49, op := Go.Op.fieldAddr 55 (Go.Operand.tmp 2) 7, type := 0, pos := "ref.go:40", after := #[], guard := none }) (v := ?v115) rfl (by kernel_rfl) (by kernel_rfl) (by kernel_rfl) (fun _ _ _ h => h) (Or.inl ⟨by rfl, ?hy115⟩) (by assumption) ?rest115
  case hy115 => (intro w hSw; (try dsimp only at hSw); have ecrb05 := hSw.cell crb05 id; have ecrb06 := hSw.cell crb06 id; have ecrb07 := hSw.cell crb07 id; have ecrb08 := hSw.cell crb08 id; go_simp <;> with_reducible rfl)
  try simp only [Act.put, List.setIfInBounds_toArray, List.set_cons_zero, List.set_cons_succ]
  refine wpAnyH_take (i := 13) (oi := { dst := some 50, op := Go.Op.load 26 (Go.Operand.tmp 49), type := 26, pos := "ref.go:40", after := #[{ on := 12, ground := Go.Ground.data }], guard := none }) (v := ?v116) rfl (by kernel_rfl) (by kernel_rfl) (by kernel_rfl) (fun _ _ _ h => h) (Or.inl ⟨by rfl, ?hy116⟩) (by assumption) ?rest116
  case hy116 => (intro w hSw; (try dsimp only at hSw); have ecrb05 := hSw.cell crb05 id; have ecrb06 := hSw.cell crb06 id; have ecrb07 := hSw.cell crb07 id; have ecrb08 := hSw.cell crb08 id; go_simp <;> with_reducible rfl)
  try simp only [Act.put, List.setIfInBounds_toArray, List.set_cons_zero, List.set_cons_succ]
  refine wpAnyH_take (i := 16) (oi := { dst := some 53, op := Go.Op.fieldAddr 55 (Go.Operand.tmp 2) 8, type := 0, pos := "ref.go:40", after := #[], guard := none }) (v := ?v117) rfl (by kernel_rfl) (by kernel_rfl) (by kernel_rfl) (fun _ _ _ h => h) (Or.inl ⟨by rfl, ?hy117⟩) (by assumption) ?rest117
  case hy117 => (intro w hSw; (try dsimp only at hSw); have ecrb05 := hSw.cell crb05 id; have ecrb06 := hSw.cell crb06 id; have ecrb07 := hSw.cell crb07 id; have ecrb08 := hSw.cell crb08 id; go_simp <;> with_reducible rfl)
  try simp only [Act.put, List.setIfInBounds_toArray, List.set_cons_zero, List.set_cons_succ]
  refine wpAnyH_take (i := 17) (oi := { dst := some 54, op := Go.Op.load 26 (Go.Operand.tmp 53), type := 26, pos := "ref.go:40", after := #[{ on := 16, ground := Go.Ground.data }], guard := none }) (v := ?v118) rfl (by kernel_rfl) (by kernel_rfl) (by kernel_rfl) (fun _ _ _ h => h) (Or.inl ⟨by rfl, ?hy118⟩) (by assumption) ?rest118
  case hy118 => (intro w hSw; (try dsimp only at hSw); have ecrb05 := hSw.cell crb05 id; have ecrb06 := hSw.cell crb06 id; have ecrb07 := hSw.cell crb07 id; have ecrb08 := hSw.cell crb08 id; go_simp <;> with_reducible rfl)
  try simp only [Act.put, List.setIfInBounds_toArray, List.set_cons_zero, List.set_cons_succ]
  refine wpAnyH_ready (rs := [3]) (by kernel_rfl) (by simp) ?_
  refine AllReadyH.cons (o := { dst := some 40, op := Go.Op.call { callee := Go.Callee.value (Go.Operand.func 65), args := #[Go.Operand.tmp 39, Go.Operand.const (Go.Value.int Go.IntKind.i64 1)], argTypes := #[26, 3] }, type := 9, pos := "ref.go:40", after := #[{ on := 2, ground := Go.Ground.data }], guard := none }) rfl (fun K hK => ?_) AllReadyH.nil
  go_simp
  refine (text_any ttl 1 (by omega) (by omega) (by omega) _).mono ?_
  rintro e v0 ⟨rfl, hx⟩
  have hS1 := hS0.trans hx
  clear hx
  refine hK.out _ _ hS1 (fun _ => ?_)
  refine wpAnyH_take (i := 4) (oi := { dst := some 41, op := Go.Op.binOp Go.BinOp.add 9 (Go.Operand.tmp 37) (Go.Operand.tmp 40) 9, type := 9, pos := "ref.go:40", after := #[{ on := 0, ground := Go.Ground.data }, { on := 3, ground := Go.Ground.data }], guard := none }) (v := ?v119) rfl (by kernel_rfl) (by kernel_rfl) (by kernel_rfl) (fun _ _ _ h => h) (Or.inl ⟨by rfl, ?hy119⟩) (by assumption) ?rest119
  case hy119 => (intro w hSw; (try dsimp only at hSw); have ecrb05 := hSw.cell crb05 id; have ecrb06 := hSw.cell crb06 id; have ecrb07 := hSw.cell crb07 id; have ecrb08 := hSw.cell crb08 id; go_simp <;> with_reducible rfl)
  try simp only [Act.put, List.setIfInBounds_toArray, List.set_cons_zero, List.set_cons_succ]
  refine wpAnyH_ready (rs := [7]) (by kernel_rfl) (by simp) ?_
  refine AllReadyH.cons (o := { dst := some 44, op := Go.Op.call { callee := Go.Callee.value (Go.Operand.func 65), args := #[Go.Operand.tmp 43, Go.Operand.const (Go.Value.int Go.IntKind.i64 1)], argTypes := #[26, 3] }, type := 9, pos := "ref.go:40", after := #[{ on := 6, ground := Go.Ground.data }, { on := 3, ground := Go.Ground.chain }], guard := none }) rfl (fun K hK => ?_) AllReadyH.nil
  go_simp
  refine (text_any pr 1 (by omega) (by omega) (by omega) _).mono ?_
  rintro e v1 ⟨rfl, hx⟩
  have hS2 := hS1.trans hx
  clear hx
  refine hK.out _ _ hS2 (fun _ => ?_)
  refine wpAnyH_take (i := 8) (oi := { dst := some 45, op := Go.Op.binOp Go.BinOp.add 9 (Go.Operand.tmp 41) (Go.Operand.tmp 44) 9, type := 9, pos := "ref.go:40", after := #[{ on := 4, ground := Go.Ground.data }, { on := 7, ground := Go.Ground.data }], guard := none }) (v := ?v120) rfl (by kernel_rfl) (by kernel_rfl) (by kernel_rfl) (fun _ _ _ h => h) (Or.inl ⟨by rfl, ?hy120⟩) (by assumption) ?rest120
  case hy120 => (intro w hSw; (try dsimp only at hSw); have ecrb05 := hSw.cell crb05 id; have ecrb06 := hSw.cell crb06 id; have ecrb07 := hSw.cell crb07 id; have ecrb08 := hSw.cell crb08 id; go_simp <;> with_reducible rfl)
  try simp only [Act.put, List.setIfInBounds_toArray, List.set_cons_zero, List.set_cons_succ]
  refine wpAnyH_ready (rs := [10]) (by kernel_rfl) (by simp) ?_
  refine AllReadyH.cons (o := { dst := some 47, op := Go.Op.call { callee := Go.Callee.value (Go.Operand.func 65), args := #[Go.Operand.tmp 46, Go.Operand.const (Go.Value.int Go.IntKind.i64 2)], argTypes := #[26, 3] }, type := 9, pos := "ref.go:40", after := #[{ on := 9, ground := Go.Ground.data }, { on := 7, ground := Go.Ground.chain }], guard := none }) rfl (fun K hK => ?_) AllReadyH.nil
  go_simp
  refine (text_any s 2 (by omega) (by omega) (by omega) _).mono ?_
  rintro e v2 ⟨rfl, hx⟩
  have hS3 := hS2.trans hx
  clear hx
  refine hK.out _ _ hS3 (fun _ => ?_)
  refine wpAnyH_take (i := 11) (oi := { dst := some 48, op := Go.Op.binOp Go.BinOp.add 9 (Go.Operand.tmp 45) (Go.Operand.tmp 47) 9, type := 9, pos := "ref.go:40", after := #[{ on := 8, ground := Go.Ground.data }, { on := 10, ground := Go.Ground.data }], guard := none }) (v := ?v121) rfl (by kernel_rfl) (by kernel_rfl) (by kernel_rfl) (fun _ _ _ h => h) (Or.inl ⟨by rfl, ?hy121⟩) (by assumption) ?rest121
  case hy121 => (intro w hSw; (try dsimp only at hSw); have ecrb05 := hSw.cell crb05 id; have ecrb06 := hSw.cell crb06 id; have ecrb07 := hSw.cell crb07 id; have ecrb08 := hSw.cell crb08 id; go_simp <;> with_reducible rfl)
  try simp only [Act.put, List.setIfInBounds_toArray, List.set_cons_zero, List.set_cons_succ]
  refine wpAnyH_ready (rs := [14]) (by kernel_rfl) (by simp) ?_
  refine AllReadyH.cons (o := { dst := some 51, op := Go.Op.call { callee := Go.Callee.value (Go.Operand.func 65), args := #[Go.Operand.tmp 50, Go.Operand.const (Go.Value.int Go.IntKind.i64 4)], argTypes := #[26, 3] }, type := 9, pos := "ref.go:40", after := #[{ on := 13, ground := Go.Ground.data }, { on := 10, ground := Go.Ground.chain }], guard := none }) rfl (fun K hK => ?_) AllReadyH.nil
  go_simp
  refine (text_any src 4 (by omega) (by omega) (by omega) _).mono ?_
  rintro e v3 ⟨rfl, hx⟩
  have hS4 := hS3.trans hx
  clear hx
  refine hK.out _ _ hS4 (fun _ => ?_)
  refine wpAnyH_take (i := 15) (oi := { dst := some 52, op := Go.Op.binOp Go.BinOp.add 9 (Go.Operand.tmp 48) (Go.Operand.tmp 51) 9, type := 9, pos := "ref.go:40", after := #[{ on := 11, ground := Go.Ground.data }, { on := 14, ground := Go.Ground.data }], guard := none }) (v := ?v122) rfl (by kernel_rfl) (by kernel_rfl) (by kernel_rfl) (fun _ _ _ h => h) (Or.inl ⟨by rfl, ?hy122⟩) (by assumption) ?rest122
  case hy122 => (intro w hSw; (try dsimp only at hSw); have ecrb05 := hSw.cell crb05 id; have ecrb06 := hSw.cell crb06 id; have ecrb07 := hSw.cell crb07 id; have ecrb08 := hSw.cell crb08 id; go_simp <;> with_reducible rfl)
  try simp only [Act.put, List.setIfInBounds_toArray, List.set_cons_zero, List.set_cons_succ]
  refine wpAnyH_ready (rs := [18]) (by kernel_rfl) (by simp) ?_
  refine AllReadyH.cons (o := { dst := some 55, op := Go.Op.call { callee := Go.Callee.value (Go.Operand.func 65), args := #[Go.Operand.tmp 54, Go.Operand.const (Go.Value.int Go.IntKind.i64 4)], argTypes := #[26, 3] }, type := 9, pos := "ref.go:40", after := #[{ on := 17, ground := Go.Ground.data }, { on := 14, ground := Go.Ground.chain }], guard := none }) rfl (fun K hK => ?_) AllReadyH.nil
  go_simp
  refine (text_any dst 4 (by omega) (by omega) (by omega) _).mono ?_
  rintro e v4 ⟨rfl, hx⟩
  have hS5 := hS4.trans hx
  clear hx
  refine hK.out _ _ hS5 (fun _ => ?_)
  refine wpAnyH_take (i := 19) (oi := { dst := some 56, op := Go.Op.binOp Go.BinOp.add 9 (Go.Operand.tmp 52) (Go.Operand.tmp 55) 9, type := 9, pos := "ref.go:40", after := #[{ on := 15, ground := Go.Ground.data }, { on := 18, ground := Go.Ground.data }], guard := none }) (v := ?v123) rfl (by kernel_rfl) (by kernel_rfl) (by kernel_rfl) (fun _ _ _ h => h) (Or.inl ⟨by rfl, ?hy123⟩) (by assumption) ?rest123
  case hy123 => (intro w hSw; (try dsimp only at hSw); have ecrb05 := hSw.cell crb05 id; have ecrb06 := hSw.cell crb06 id; have ecrb07 := hSw.cell crb07 id; have ecrb08 := hSw.cell crb08 id; go_simp <;> with_reducible rfl)
  try simp only [Act.put, List.setIfInBounds_toArray, List.set_cons_zero, List.set_cons_succ]
  refine wpAnyH_take (i := 20) (oi := { dst := some 4, op := Go.Op.assign (Go.Operand.tmp 56), type := 9, pos := "ref.go:40", after := #[{ on := 19, ground := Go.Ground.data }, { on := 18, ground := Go.Ground.chain }, { on := 0, ground := Go.Ground.phase }, { on := 1, ground := Go.Ground.phase }, { on := 2, ground := Go.Ground.phase }, { on := 3, ground := Go.Ground.phase }, { on := 4, ground := Go.Ground.phase }, { on := 5, ground := Go.Ground.phase }, { on := 6, ground := Go.Ground.phase }, { on := 7, ground := Go.Ground.phase }, { on := 8, ground := Go.Ground.phase }, { on := 9, ground := Go.Ground.phase }, { on := 10, ground := Go.Ground.phase }, { on := 11, ground := Go.Ground.phase }, { on := 12, ground := Go.Ground.phase }, { on := 13, ground := Go.Ground.phase }, { on := 14, ground := Go.Ground.phase }, { on := 15, ground := Go.Ground.phase }, { on := 16, ground := Go.Ground.phase }, { on := 17, ground := Go.Ground.phase }, { on := 18, ground := Go.Ground.phase }, { on := 19, ground := Go.Ground.phase }], guard := none }) (v := ?v124) rfl (by kernel_rfl) (by kernel_rfl) (by kernel_rfl) (fun _ _ _ h => h) (Or.inl ⟨by rfl, ?hy124⟩) (by assumption) ?rest124
  case hy124 => (intro w hSw; (try dsimp only at hSw); have ecrb05 := hSw.cell crb05 id; have ecrb06 := hSw.cell crb06 id; have ecrb07 := hSw.cell crb07 id; have ecrb08 := hSw.cell crb08 id; go_simp <;> with_reducible rfl)
  try simp only [Act.put, List.setIfInBounds_toArray, List.set_cons_zero, List.set_cons_succ]
  refine wpAnyH_done (by kernel_rfl) ?_ _
  have hx := hS5
  clear hS0 hS1 hS2 hS3 hS4 hS5 crb00 crb01 crb02 crb03 crb04 crb05 crb06 crb07 crb08 crb09
  have HX_v4 := Lib.hid hx
  clear hx
  go_wp2_with fail
  go_ret
  rw [← HFIN.out]
  exact ⟨rfl, ((HX_w1.out.trans HX_v3.out).trans HX_v4.out)⟩
theorem rhead_any (p : Pk) (s : Int) (w : World) (ok : p.ok) (hright : p.right = 0) (hs : 0 ≤ s ∧ s ≤ 65535) :
    Calls Tryd.prog 57 #[rpv p, .int .u32 s] w fun e w' => e = .returned (.string (bs (p.hd s).bytes)) ∧ Ex (fun _ => False) w w' := by
  obtain ⟨tos, id, df, mf, off, ttl, pr, src, dst, b⟩ := p
  cases df <;> cases mf
  · exact rhead_ff tos id off ttl pr src dst s b w ok hright hs
  · exact rhead_ft tos id off ttl pr src dst s b w ok hright hs
  · exact rhead_tf tos id off ttl pr src dst s b w ok hright hs
  · exact rhead_tt tos id off ttl pr src dst s b w ok hright hs
end Go.Proofs.YtfcfpkhcpijkfaaDoor
