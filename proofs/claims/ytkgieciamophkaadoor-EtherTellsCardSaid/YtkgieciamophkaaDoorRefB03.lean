/-
  The contract of the reference's Bytes of a frame. By an AI agent.
-/
import Derived.Test.YtkgieciamophkaaDoorBoth03
import Derived.Test.YtkgieciamophkaaDoorRef01
import Derived.Test.YtkgieciamophkaaDoorRefNum
import Derived.Deep.RegionHeld
import Derived.IntWalk
namespace Go.Proofs.YtkgieciamophkaaDoor
open Go.RowKit

theorem tx37 : bs (etx [lay3] 7) = ⟨#[101, 116, 104, 101, 114, 58, 32, 101, 114, 114, 111, 114, 32, 55]⟩ := by decide
theorem tx31 : bs (etx [lay3] 1) = ⟨#[101, 116, 104, 101, 114, 58, 32, 101, 114, 114, 111, 114, 32, 49]⟩ := by decide
/-- what Bytes comes to -/
def rb3 (m : List UInt8) : Value := if 9000 < m.length then .tuple #[.string ⟨#[]⟩, .string (bs (etx [lay3] 7))] else .tuple #[.string (bs m), .string ⟨#[]⟩]
set_option maxRecDepth 100000 in
theorem rb3_bad1 (d s b : List UInt8) (vl : Int) (ty : Nat) (w : World) (h : vl < -1) :
    Calls Tryd.prog 39 #[.agg #[.string (bs d), .string (bs s), .int .i64 vl, .int .u32 (ty : Int), .string (bs b)]] w fun e w' => e = .returned (.tuple #[.string ⟨#[]⟩, .string (bs (etx [lay3] 1))]) ∧ Ex (fun _ => False) w w' := by
  rw [tx31]
  go_enter Tryd.func39, Tryd.ntmps39
  go_wp2_with fail
  go_ret2
  exact ⟨rfl, (Ex.refl _ w).alloc _⟩
set_option maxRecDepth 100000 in
theorem rb3_bad2 (d s b : List UInt8) (vl : Int) (ty : Nat) (w : World) (h : 65535 < vl) :
    Calls Tryd.prog 39 #[.agg #[.string (bs d), .string (bs s), .int .i64 vl, .int .u32 (ty : Int), .string (bs b)]] w fun e w' => e = .returned (.tuple #[.string ⟨#[]⟩, .string (bs (etx [lay3] 1))]) ∧ Ex (fun _ => False) w w' := by
  rw [tx31]
  go_enter Tryd.func39, Tryd.ntmps39
  go_wp2_with fail
  go_ret2
  exact ⟨rfl, (Ex.refl _ w).alloc _⟩
set_option maxRecDepth 100000 in
theorem rb3_bad3 (d s b : List UInt8) (vl : Int) (ty : Nat) (w : World) (h : vl = -1) (ht : ty = 33024) :
    Calls Tryd.prog 39 #[.agg #[.string (bs d), .string (bs s), .int .i64 vl, .int .u32 (ty : Int), .string (bs b)]] w fun e w' => e = .returned (.tuple #[.string ⟨#[]⟩, .string (bs (etx [lay3] 1))]) ∧ Ex (fun _ => False) w w' := by
  rw [tx31]
  subst h ht
  go_enter Tryd.func39, Tryd.ntmps39
  go_wp2_with fail
  go_ret2
  exact ⟨rfl, (Ex.refl _ w).alloc _⟩
set_option maxRecDepth 100000 in
set_option maxHeartbeats 4000000 in
theorem rb3_plain (d s b : List UInt8) (ty : Nat) (w : World) (h4 : ty ≠ 33024) (h5 : ty < 65536) (hd : d.length = 6) (hs : s.length = 6) (hb : b.length ≤ 1000000) :
    Calls Tryd.prog 39 #[.agg #[.string (bs d), .string (bs s), .int .i64 (-1), .int .u32 (ty : Int), .string (bs b)]] w fun e w' => e = .returned (rb3 (fbytes ⟨d, s, (-1), ty, b⟩)) ∧ Ex (fun _ => False) w w' := by
  obtain ⟨m, hm⟩ : ∃ m, m = fbytes ⟨d, s, (-1), ty, b⟩ := ⟨_, rfl⟩
  obtain ⟨L, hL⟩ : ∃ L, L = m.length := ⟨_, rfl⟩
  rw [← hm]
  obtain ⟨t2, ht2⟩ : ∃ t, t = txt (ty : Int) 2 := ⟨_, rfl⟩
  have l2 : t2.length = 2 := by rw [ht2, txt_len]
  have hme : m = (d ++ s) ++ t2 ++ b := by rw [hm, fbytes, ht2]; simp
  obtain ⟨x0, hx0⟩ : ∃ x, x = d ++ s := ⟨_, rfl⟩
  obtain ⟨x3, hx3⟩ : ∃ x, x = x0 ++ t2 := ⟨_, rfl⟩
  have e1 : bs d ++ bs s = bs x0 := by rw [hx0]; exact bs_append d s
  have e4 : bs x0 ++ bs t2 = bs x3 := by rw [hx3]; exact bs_append _ _
  have e5 : bs x3 ++ bs b = bs m := by rw [hme, hx3, hx0]; exact bs_append _ _
  have y0 : (bs x0).size = 12 := by rw [bs_size, hx0, List.length_append, hd, hs]
  have y3 : (bs x3).size = 14 := by rw [bs_size, hx3, hx0]; simp [hd, hs, l2]
  have hLe : L = 14 + b.length := by rw [hL, hme]; simp [hd, hs, l2]; omega
  have el : ¬ 9223372036854775807 < 14 + b.length := by omega
  have c4 : ((ty : Int) == 33024) = false := by rw [beq_eq_false_iff_ne]; omega
  have zd : (bs d).size = 6 := by rw [bs_size, hd]
  have zs : (bs s).size = 6 := by rw [bs_size, hs]
  have zb := bs_size b
  have zt : (bs t2).size = 2 := by rw [bs_size, l2]
  have zm : (bs m).size = L := by rw [bs_size, hL]
  have HT2 := Lib.hid ht2
  have HL := Lib.hid hL
  have H5 := Lib.hid h5
  clear ht2 hL h5 hme hm hLe hd hs l2 hx0 hx3 h4

  go_enter Tryd.func39, Tryd.ntmps39
  go_upto_region 1 with fail
  have hx : Ex (fun _ => False) w (w.alloc (.cells #[.string (bs d), .string (bs s), .int .i64 (-1), .int .u32 (ty : Int), .string (bs b)] 80)) := (Ex.refl _ w).alloc _
  have hb : (w.alloc (.cells #[.string (bs d), .string (bs s), .int .i64 (-1), .int .u32 (ty : Int), .string (bs b)] 80)).heap[w.heap.size]? = some (.cells #[.string (bs d), .string (bs s), .int .i64 (-1), .int .u32 (ty : Int), .string (bs b)] 80) := heap_alloc_new w _
  obtain ⟨rb, hrb⟩ : ∃ rb, rb = w.heap.size := ⟨_, rfl⟩
  have hb_rb : w.heap.size ≤ rb := by omega
  rw [← hrb] at hb
  try simp only [← hrb]
  generalize w.alloc (.cells #[.string (bs d), .string (bs s), .int .i64 (-1), .int .u32 (ty : Int), .string (bs b)] 80) = w1 at hx hb ⊢
  clear hrb
  have HX_w1 := Lib.hid hx
  clear hx
  have B_rb := Lib.hid hb
  clear hb
  have crb0 := row_cell (k := 0) (v := .string (bs d)) B_rb.out rfl
  have crb1 := row_cell (k := 1) (v := .string (bs s)) B_rb.out rfl
  have crb2 := row_cell (k := 2) (v := .int .i64 (-1)) B_rb.out rfl
  have crb3 := row_cell (k := 3) (v := .int .u32 (ty : Int)) B_rb.out rfl
  have crb4 := row_cell (k := 4) (v := .string (bs b)) B_rb.out rfl
  go_upto_region 6 with fail
  have hS0 : Ex (fun _ => False) w1 w1.drew := (Ex.refl _ w1).drew
  refine wp_region_held_drew (S := fun W => Ex (fun _ => False) w1 W) (by kernel_rfl) hS0 (fun _ => ?_)
  refine wpAnyH_take (i := 0) (oi := { dst := some 38, op := Go.Op.move (Go.Operand.tmp 4), type := 9, pos := "ref.go:42", after := #[], guard := none }) (v := ?v1) rfl (by kernel_rfl) (by kernel_rfl) (by kernel_rfl) (fun _ _ _ h => h) (Or.inl ⟨by rfl, ?hy1⟩) (by assumption) ?rest1
  case hy1 => (intro w hSw; (try dsimp only at hSw); have ecrb0 := hSw.cell crb0 id; have ecrb1 := hSw.cell crb1 id; have ecrb2 := hSw.cell crb2 id; have ecrb3 := hSw.cell crb3 id; have ecrb4 := hSw.cell crb4 id; go_simp <;> with_reducible rfl)
  try simp only [Act.put, List.setIfInBounds_toArray, List.set_cons_zero, List.set_cons_succ]
  refine wpAnyH_take (i := 1) (oi := { dst := some 39, op := Go.Op.fieldAddr 80 (Go.Operand.tmp 1) 3, type := 0, pos := "ref.go:42", after := #[], guard := none }) (v := ?v2) rfl (by kernel_rfl) (by kernel_rfl) (by kernel_rfl) (fun _ _ _ h => h) (Or.inl ⟨by rfl, ?hy2⟩) (by assumption) ?rest2
  case hy2 => (intro w hSw; (try dsimp only at hSw); have ecrb0 := hSw.cell crb0 id; have ecrb1 := hSw.cell crb1 id; have ecrb2 := hSw.cell crb2 id; have ecrb3 := hSw.cell crb3 id; have ecrb4 := hSw.cell crb4 id; go_simp <;> with_reducible rfl)
  try simp only [Act.put, List.setIfInBounds_toArray, List.set_cons_zero, List.set_cons_succ]
  refine wpAnyH_take (i := 2) (oi := { dst := some 40, op := Go.Op.load 26 (Go.Operand.tmp 39), type := 26, pos := "ref.go:42", after := #[{ on := 1, ground := Go.Ground.data }], guard := none }) (v := ?v3) rfl (by kernel_rfl) (by kernel_rfl) (by kernel_rfl) (fun _ _ _ h => h) (Or.inl ⟨by rfl, ?hy3⟩) (by assumption) ?rest3
  case hy3 => (intro w hSw; (try dsimp only at hSw); have ecrb0 := hSw.cell crb0 id; have ecrb1 := hSw.cell crb1 id; have ecrb2 := hSw.cell crb2 id; have ecrb3 := hSw.cell crb3 id; have ecrb4 := hSw.cell crb4 id; go_simp <;> with_reducible rfl)
  try simp only [Act.put, List.setIfInBounds_toArray, List.set_cons_zero, List.set_cons_succ]
  refine wpAnyH_take (i := 5) (oi := { dst := some 43, op := Go.Op.fieldAddr 80 (Go.Operand.tmp 1) 4, type := 0, pos := "ref.go:42", after := #[], guard := none }) (v := ?v4) rfl (by kernel_rfl) (by kernel_rfl) (by kernel_rfl) (fun _ _ _ h => h) (Or.inl ⟨by rfl, ?hy4⟩) (by assumption) ?rest4
  case hy4 => (intro w hSw; (try dsimp only at hSw); have ecrb0 := hSw.cell crb0 id; have ecrb1 := hSw.cell crb1 id; have ecrb2 := hSw.cell crb2 id; have ecrb3 := hSw.cell crb3 id; have ecrb4 := hSw.cell crb4 id; go_simp <;> with_reducible rfl)
  try simp only [Act.put, List.setIfInBounds_toArray, List.set_cons_zero, List.set_cons_succ]
  refine wpAnyH_take (i := 6) (oi := { dst := some 44, op := Go.Op.load 9 (Go.Operand.tmp 43), type := 9, pos := "ref.go:42", after := #[{ on := 5, ground := Go.Ground.data }], guard := none }) (v := ?v5) rfl (by kernel_rfl) (by kernel_rfl) (by kernel_rfl) (fun _ _ _ h => h) (Or.inl ⟨by rfl, ?hy5⟩) (by assumption) ?rest5
  case hy5 => (intro w hSw; (try dsimp only at hSw); have ecrb0 := hSw.cell crb0 id; have ecrb1 := hSw.cell crb1 id; have ecrb2 := hSw.cell crb2 id; have ecrb3 := hSw.cell crb3 id; have ecrb4 := hSw.cell crb4 id; go_simp <;> with_reducible rfl)
  try simp only [Act.put, List.setIfInBounds_toArray, List.set_cons_zero, List.set_cons_succ]
  refine wpAnyH_ready (rs := [3]) (by kernel_rfl) (by simp) ?_
  refine AllReadyH.cons (o := { dst := some 41, op := Go.Op.call { callee := Go.Callee.value (Go.Operand.func 24), args := #[Go.Operand.tmp 40, Go.Operand.const (Go.Value.int Go.IntKind.i64 2)], argTypes := #[26, 3] }, type := 9, pos := "ref.go:42", after := #[{ on := 2, ground := Go.Ground.data }], guard := none }) rfl (fun K hK => ?_) AllReadyH.nil
  go_simp
  refine (text_any (ty : Int) 2 (by omega) (by have := H5.out; omega) (by omega) _).mono ?_
  rintro e w3 ⟨rfl, hx⟩
  rw [← HT2.out]
  have hS1 := hS0.trans hx
  clear hx
  refine hK.out _ _ hS1 (fun _ => ?_)
  refine wpAnyH_take (i := 4) (oi := { dst := some 42, op := Go.Op.binOp Go.BinOp.add 9 (Go.Operand.tmp 38) (Go.Operand.tmp 41) 9, type := 9, pos := "ref.go:42", after := #[{ on := 0, ground := Go.Ground.data }, { on := 3, ground := Go.Ground.data }], guard := none }) (v := ?v6) rfl (by kernel_rfl) (by kernel_rfl) (by kernel_rfl) (fun _ _ _ h => h) (Or.inl ⟨by rfl, ?hy6⟩) (by assumption) ?rest6
  case hy6 => (intro w hSw; (try dsimp only at hSw); have ecrb0 := hSw.cell crb0 id; have ecrb1 := hSw.cell crb1 id; have ecrb2 := hSw.cell crb2 id; have ecrb3 := hSw.cell crb3 id; have ecrb4 := hSw.cell crb4 id; go_simp <;> with_reducible rfl)
  try simp only [Act.put, List.setIfInBounds_toArray, List.set_cons_zero, List.set_cons_succ]
  refine wpAnyH_take (i := 7) (oi := { dst := some 45, op := Go.Op.binOp Go.BinOp.add 9 (Go.Operand.tmp 42) (Go.Operand.tmp 44) 9, type := 9, pos := "ref.go:42", after := #[{ on := 4, ground := Go.Ground.data }, { on := 6, ground := Go.Ground.data }], guard := none }) (v := ?v7) rfl (by kernel_rfl) (by kernel_rfl) (by kernel_rfl) (fun _ _ _ h => h) (Or.inl ⟨by rfl, ?hy7⟩) (by assumption) ?rest7
  case hy7 => (intro w hSw; (try dsimp only at hSw); have ecrb0 := hSw.cell crb0 id; have ecrb1 := hSw.cell crb1 id; have ecrb2 := hSw.cell crb2 id; have ecrb3 := hSw.cell crb3 id; have ecrb4 := hSw.cell crb4 id; go_simp <;> with_reducible rfl)
  try simp only [Act.put, List.setIfInBounds_toArray, List.set_cons_zero, List.set_cons_succ]
  refine wpAnyH_take (i := 8) (oi := { dst := some 4, op := Go.Op.assign (Go.Operand.tmp 45), type := 9, pos := "ref.go:42", after := #[{ on := 7, ground := Go.Ground.data }, { on := 3, ground := Go.Ground.chain }, { on := 0, ground := Go.Ground.phase }, { on := 1, ground := Go.Ground.phase }, { on := 2, ground := Go.Ground.phase }, { on := 3, ground := Go.Ground.phase }, { on := 4, ground := Go.Ground.phase }, { on := 5, ground := Go.Ground.phase }, { on := 6, ground := Go.Ground.phase }, { on := 7, ground := Go.Ground.phase }], guard := none }) (v := ?v8) rfl (by kernel_rfl) (by kernel_rfl) (by kernel_rfl) (fun _ _ _ h => h) (Or.inl ⟨by rfl, ?hy8⟩) (by assumption) ?rest8
  case hy8 => (intro w hSw; (try dsimp only at hSw); have ecrb0 := hSw.cell crb0 id; have ecrb1 := hSw.cell crb1 id; have ecrb2 := hSw.cell crb2 id; have ecrb3 := hSw.cell crb3 id; have ecrb4 := hSw.cell crb4 id; go_simp <;> with_reducible rfl)
  try simp only [Act.put, List.setIfInBounds_toArray, List.set_cons_zero, List.set_cons_succ]
  refine wpAnyH_done (by kernel_rfl) ?_ _
  have hx := hS1
  clear hS0 hS1 crb0 crb1 crb2 crb3 crb4
  have HX_w3 := Lib.hid hx
  clear hx
  by_cases hg : 9000 < L
  · have hgi : (9000 : Int) < (L : Int) := by omega
    have e : rb3 m = .tuple #[.string ⟨#[]⟩, .string (bs (etx [lay3] 7))] := if_pos (by rw [← HL.out]; exact hg)
    rw [tx37] at e
    have HE := Lib.hid e
    clear e hg
    go_wp2_with fail
    go_ret2
    exact ⟨by rw [HE.out]; rfl, (HX_w1.out.trans HX_w3.out)⟩
  · have hgi : ¬ (9000 : Int) < (L : Int) := by omega
    have e : rb3 m = .tuple #[.string (bs m), .string ⟨#[]⟩] := if_neg (by rw [← HL.out]; exact hg)
    have HE := Lib.hid e
    clear e hg
    go_wp2_with fail
    go_ret2
    exact ⟨by rw [HE.out]; rfl, (HX_w1.out.trans HX_w3.out)⟩
set_option maxRecDepth 100000 in
set_option maxHeartbeats 4000000 in
theorem rb3_tag (d s b : List UInt8) (ty : Nat) (w : World) (vl : Int) (hv0 : 0 ≤ vl) (hv1 : vl ≤ 65535) (h5 : ty < 65536) (hd : d.length = 6) (hs : s.length = 6) (hb : b.length ≤ 1000000) :
    Calls Tryd.prog 39 #[.agg #[.string (bs d), .string (bs s), .int .i64 vl, .int .u32 (ty : Int), .string (bs b)]] w fun e w' => e = .returned (rb3 (fbytes ⟨d, s, vl, ty, b⟩)) ∧ Ex (fun _ => False) w w' := by
  obtain ⟨m, hm⟩ : ∃ m, m = fbytes ⟨d, s, vl, ty, b⟩ := ⟨_, rfl⟩
  obtain ⟨L, hL⟩ : ∃ L, L = m.length := ⟨_, rfl⟩
  rw [← hm]
  obtain ⟨t2, ht2⟩ : ∃ t, t = txt (ty : Int) 2 := ⟨_, rfl⟩
  have l2 : t2.length = 2 := by rw [ht2, txt_len]
  obtain ⟨t1, ht1⟩ : ∃ t, t = txt vl 2 := ⟨_, rfl⟩
  have l1 : t1.length = 2 := by rw [ht1, txt_len]
  have h129 : txt 33024 2 = [129, 0] := by decide
  have hme : m = ((d ++ s) ++ [129, 0]) ++ t1 ++ t2 ++ b := by rw [hm, fbytes, ht1, ht2]; simp only; rw [if_neg (by omega), h129]; simp
  have e1 : bs d ++ bs s = bs (d ++ s) := bs_append d s
  obtain ⟨x0, hx0⟩ : ∃ x, x = d ++ s := ⟨_, rfl⟩
  obtain ⟨x1, hx1⟩ : ∃ x, x = x0 ++ [129, 0] := ⟨_, rfl⟩
  obtain ⟨x2, hx2⟩ : ∃ x, x = x1 ++ t1 := ⟨_, rfl⟩
  obtain ⟨x3, hx3⟩ : ∃ x, x = x2 ++ t2 := ⟨_, rfl⟩
  have e2 : bs x0 ++ ⟨#[129, 0]⟩ = bs x1 := by rw [hx1]; exact bs_append x0 [129, 0]
  have e3 : bs x1 ++ bs t1 = bs x2 := by rw [hx2]; exact bs_append _ _
  have e4 : bs x2 ++ bs t2 = bs x3 := by rw [hx3]; exact bs_append _ _
  have e5 : bs x3 ++ bs b = bs m := by rw [hme, hx3, hx2, hx1, hx0]; exact bs_append _ _
  rw [← hx0] at e1
  have y0 : (bs x0).size = 12 := by rw [bs_size, hx0, List.length_append, hd, hs]
  have y1 : (bs x1).size = 14 := by rw [bs_size, hx1, hx0]; simp [hd, hs]
  have y2 : (bs x2).size = 16 := by rw [bs_size, hx2, hx1, hx0]; simp [hd, hs, l1]
  have y3 : (bs x3).size = 18 := by rw [bs_size, hx3, hx2, hx1, hx0]; simp [hd, hs, l1, l2]
  have hLe : L = 18 + b.length := by rw [hL, hme]; simp [hd, hs, l1, l2]; omega
  have y5 : (bs t1).size = 2 := by rw [bs_size, l1]
  have el : ¬ 9223372036854775807 < 18 + b.length := by omega
  have hw1 : IntKind.u32.wrap vl = vl := by rw [IntKind.wrap_u32]; omega
  have c1 : ¬ vl < -1 := by omega
  have c2 : ¬ 65535 < vl := by omega
  have c3 : (vl == -1) = false := by rw [beq_eq_false_iff_ne]; omega
  have HT1 := Lib.hid ht1
  have HV0 := Lib.hid hv0
  have HV1 := Lib.hid hv1
  have zd : (bs d).size = 6 := by rw [bs_size, hd]
  have zs : (bs s).size = 6 := by rw [bs_size, hs]
  have zb := bs_size b
  have zt : (bs t2).size = 2 := by rw [bs_size, l2]
  have zm : (bs m).size = L := by rw [bs_size, hL]
  have HT2 := Lib.hid ht2
  have HL := Lib.hid hL
  have H5 := Lib.hid h5
  clear ht2 hL h5 hme hm hLe hd hs l2 hx0 hx3 ht1 hx1 hx2 l1
  clear hv1
  go_enter Tryd.func39, Tryd.ntmps39
  go_upto_region 1 with fail
  have hx : Ex (fun _ => False) w (w.alloc (.cells #[.string (bs d), .string (bs s), .int .i64 vl, .int .u32 (ty : Int), .string (bs b)] 80)) := (Ex.refl _ w).alloc _
  have hb : (w.alloc (.cells #[.string (bs d), .string (bs s), .int .i64 vl, .int .u32 (ty : Int), .string (bs b)] 80)).heap[w.heap.size]? = some (.cells #[.string (bs d), .string (bs s), .int .i64 vl, .int .u32 (ty : Int), .string (bs b)] 80) := heap_alloc_new w _
  obtain ⟨rb, hrb⟩ : ∃ rb, rb = w.heap.size := ⟨_, rfl⟩
  have hb_rb : w.heap.size ≤ rb := by omega
  rw [← hrb] at hb
  try simp only [← hrb]
  generalize w.alloc (.cells #[.string (bs d), .string (bs s), .int .i64 vl, .int .u32 (ty : Int), .string (bs b)] 80) = w1 at hx hb ⊢
  clear hrb
  have HX_w1 := Lib.hid hx
  clear hx
  have B_rb := Lib.hid hb
  clear hb
  have crb0 := row_cell (k := 0) (v := .string (bs d)) B_rb.out rfl
  have crb1 := row_cell (k := 1) (v := .string (bs s)) B_rb.out rfl
  have crb2 := row_cell (k := 2) (v := .int .i64 vl) B_rb.out rfl
  have crb3 := row_cell (k := 3) (v := .int .u32 (ty : Int)) B_rb.out rfl
  have crb4 := row_cell (k := 4) (v := .string (bs b)) B_rb.out rfl
  go_wp2_with fail
  refine (text_any vl 2 HV0.out (by have := HV1.out; omega) (by omega) _).mono ?_
  rintro e w2 ⟨rfl, hx⟩
  rw [← HT1.out]
  clear crb0 crb1 crb2 crb3 crb4
  have HX_w2 := Lib.hid hx
  clear hx
  replace B_rb := Lib.hid ((HX_w2.out.block rb (row_lt B_rb.out) id).trans B_rb.out)
  have crb0 := row_cell (k := 0) (v := .string (bs d)) B_rb.out rfl
  have crb1 := row_cell (k := 1) (v := .string (bs s)) B_rb.out rfl
  have crb2 := row_cell (k := 2) (v := .int .i64 vl) B_rb.out rfl
  have crb3 := row_cell (k := 3) (v := .int .u32 (ty : Int)) B_rb.out rfl
  have crb4 := row_cell (k := 4) (v := .string (bs b)) B_rb.out rfl
  go_upto_region 6 with fail
  have hS0 : Ex (fun _ => False) w2 w2.drew := (Ex.refl _ w2).drew
  refine wp_region_held_drew (S := fun W => Ex (fun _ => False) w2 W) (by kernel_rfl) hS0 (fun _ => ?_)
  refine wpAnyH_take (i := 0) (oi := { dst := some 38, op := Go.Op.move (Go.Operand.tmp 4), type := 9, pos := "ref.go:42", after := #[], guard := none }) (v := ?v9) rfl (by kernel_rfl) (by kernel_rfl) (by kernel_rfl) (fun _ _ _ h => h) (Or.inl ⟨by rfl, ?hy9⟩) (by assumption) ?rest9
  case hy9 => (intro w hSw; (try dsimp only at hSw); have ecrb0 := hSw.cell crb0 id; have ecrb1 := hSw.cell crb1 id; have ecrb2 := hSw.cell crb2 id; have ecrb3 := hSw.cell crb3 id; have ecrb4 := hSw.cell crb4 id; go_simp <;> with_reducible rfl)
  try simp only [Act.put, List.setIfInBounds_toArray, List.set_cons_zero, List.set_cons_succ]
  refine wpAnyH_take (i := 1) (oi := { dst := some 39, op := Go.Op.fieldAddr 80 (Go.Operand.tmp 1) 3, type := 0, pos := "ref.go:42", after := #[], guard := none }) (v := ?v10) rfl (by kernel_rfl) (by kernel_rfl) (by kernel_rfl) (fun _ _ _ h => h) (Or.inl ⟨by rfl, ?hy10⟩) (by assumption) ?rest10
  case hy10 => (intro w hSw; (try dsimp only at hSw); have ecrb0 := hSw.cell crb0 id; have ecrb1 := hSw.cell crb1 id; have ecrb2 := hSw.cell crb2 id; have ecrb3 := hSw.cell crb3 id; have ecrb4 := hSw.cell crb4 id; go_simp <;> with_reducible rfl)
  try simp only [Act.put, List.setIfInBounds_toArray, List.set_cons_zero, List.set_cons_succ]
  refine wpAnyH_take (i := 2) (oi := { dst := some 40, op := Go.Op.load 26 (Go.Operand.tmp 39), type := 26, pos := "ref.go:42", after := #[{ on := 1, ground := Go.Ground.data }], guard := none }) (v := ?v11) rfl (by kernel_rfl) (by kernel_rfl) (by kernel_rfl) (fun _ _ _ h => h) (Or.inl ⟨by rfl, ?hy11⟩) (by assumption) ?rest11
  case hy11 => (intro w hSw; (try dsimp only at hSw); have ecrb0 := hSw.cell crb0 id; have ecrb1 := hSw.cell crb1 id; have ecrb2 := hSw.cell crb2 id; have ecrb3 := hSw.cell crb3 id; have ecrb4 := hSw.cell crb4 id; go_simp <;> with_reducible rfl)
  try simp only [Act.put, List.setIfInBounds_toArray, List.set_cons_zero, List.set_cons_succ]
  refine wpAnyH_take (i := 5) (oi := { dst := some 43, op := Go.Op.fieldAddr 80 (Go.Operand.tmp 1) 4, type := 0, pos := "ref.go:42", after := #[], guard := none }) (v := ?v12) rfl (by kernel_rfl) (by kernel_rfl) (by kernel_rfl) (fun _ _ _ h => h) (Or.inl ⟨by rfl, ?hy12⟩) (by assumption) ?rest12
  case hy12 => (intro w hSw; (try dsimp only at hSw); have ecrb0 := hSw.cell crb0 id; have ecrb1 := hSw.cell crb1 id; have ecrb2 := hSw.cell crb2 id; have ecrb3 := hSw.cell crb3 id; have ecrb4 := hSw.cell crb4 id; go_simp <;> with_reducible rfl)
  try simp only [Act.put, List.setIfInBounds_toArray, List.set_cons_zero, List.set_cons_succ]
  refine wpAnyH_take (i := 6) (oi := { dst := some 44, op := Go.Op.load 9 (Go.Operand.tmp 43), type := 9, pos := "ref.go:42", after := #[{ on := 5, ground := Go.Ground.data }], guard := none }) (v := ?v13) rfl (by kernel_rfl) (by kernel_rfl) (by kernel_rfl) (fun _ _ _ h => h) (Or.inl ⟨by rfl, ?hy13⟩) (by assumption) ?rest13
  case hy13 => (intro w hSw; (try dsimp only at hSw); have ecrb0 := hSw.cell crb0 id; have ecrb1 := hSw.cell crb1 id; have ecrb2 := hSw.cell crb2 id; have ecrb3 := hSw.cell crb3 id; have ecrb4 := hSw.cell crb4 id; go_simp <;> with_reducible rfl)
  try simp only [Act.put, List.setIfInBounds_toArray, List.set_cons_zero, List.set_cons_succ]
  refine wpAnyH_ready (rs := [3]) (by kernel_rfl) (by simp) ?_
  refine AllReadyH.cons (o := { dst := some 41, op := Go.Op.call { callee := Go.Callee.value (Go.Operand.func 24), args := #[Go.Operand.tmp 40, Go.Operand.const (Go.Value.int Go.IntKind.i64 2)], argTypes := #[26, 3] }, type := 9, pos := "ref.go:42", after := #[{ on := 2, ground := Go.Ground.data }], guard := none }) rfl (fun K hK => ?_) AllReadyH.nil
  go_simp
  refine (text_any (ty : Int) 2 (by omega) (by have := H5.out; omega) (by omega) _).mono ?_
  rintro e w3 ⟨rfl, hx⟩
  rw [← HT2.out]
  have hS1 := hS0.trans hx
  clear hx
  refine hK.out _ _ hS1 (fun _ => ?_)
  refine wpAnyH_take (i := 4) (oi := { dst := some 42, op := Go.Op.binOp Go.BinOp.add 9 (Go.Operand.tmp 38) (Go.Operand.tmp 41) 9, type := 9, pos := "ref.go:42", after := #[{ on := 0, ground := Go.Ground.data }, { on := 3, ground := Go.Ground.data }], guard := none }) (v := ?v14) rfl (by kernel_rfl) (by kernel_rfl) (by kernel_rfl) (fun _ _ _ h => h) (Or.inl ⟨by rfl, ?hy14⟩) (by assumption) ?rest14
  case hy14 => (intro w hSw; (try dsimp only at hSw); have ecrb0 := hSw.cell crb0 id; have ecrb1 := hSw.cell crb1 id; have ecrb2 := hSw.cell crb2 id; have ecrb3 := hSw.cell crb3 id; have ecrb4 := hSw.cell crb4 id; go_simp <;> with_reducible rfl)
  try simp only [Act.put, List.setIfInBounds_toArray, List.set_cons_zero, List.set_cons_succ]
  refine wpAnyH_take (i := 7) (oi := { dst := some 45, op := Go.Op.binOp Go.BinOp.add 9 (Go.Operand.tmp 42) (Go.Operand.tmp 44) 9, type := 9, pos := "ref.go:42", after := #[{ on := 4, ground := Go.Ground.data }, { on := 6, ground := Go.Ground.data }], guard := none }) (v := ?v15) rfl (by kernel_rfl) (by kernel_rfl) (by kernel_rfl) (fun _ _ _ h => h) (Or.inl ⟨by rfl, ?hy15⟩) (by assumption) ?rest15
  case hy15 => (intro w hSw; (try dsimp only at hSw); have ecrb0 := hSw.cell crb0 id; have ecrb1 := hSw.cell crb1 id; have ecrb2 := hSw.cell crb2 id; have ecrb3 := hSw.cell crb3 id; have ecrb4 := hSw.cell crb4 id; go_simp <;> with_reducible rfl)
  try simp only [Act.put, List.setIfInBounds_toArray, List.set_cons_zero, List.set_cons_succ]
  refine wpAnyH_take (i := 8) (oi := { dst := some 4, op := Go.Op.assign (Go.Operand.tmp 45), type := 9, pos := "ref.go:42", after := #[{ on := 7, ground := Go.Ground.data }, { on := 3, ground := Go.Ground.chain }, { on := 0, ground := Go.Ground.phase }, { on := 1, ground := Go.Ground.phase }, { on := 2, ground := Go.Ground.phase }, { on := 3, ground := Go.Ground.phase }, { on := 4, ground := Go.Ground.phase }, { on := 5, ground := Go.Ground.phase }, { on := 6, ground := Go.Ground.phase }, { on := 7, ground := Go.Ground.phase }], guard := none }) (v := ?v16) rfl (by kernel_rfl) (by kernel_rfl) (by kernel_rfl) (fun _ _ _ h => h) (Or.inl ⟨by rfl, ?hy16⟩) (by assumption) ?rest16
  case hy16 => (intro w hSw; (try dsimp only at hSw); have ecrb0 := hSw.cell crb0 id; have ecrb1 := hSw.cell crb1 id; have ecrb2 := hSw.cell crb2 id; have ecrb3 := hSw.cell crb3 id; have ecrb4 := hSw.cell crb4 id; go_simp <;> with_reducible rfl)
  try simp only [Act.put, List.setIfInBounds_toArray, List.set_cons_zero, List.set_cons_succ]
  refine wpAnyH_done (by kernel_rfl) ?_ _
  have hx := hS1
  clear hS0 hS1 crb0 crb1 crb2 crb3 crb4
  have HX_w3 := Lib.hid hx
  clear hx
  by_cases hg : 9000 < L
  · have hgi : (9000 : Int) < (L : Int) := by omega
    have e : rb3 m = .tuple #[.string ⟨#[]⟩, .string (bs (etx [lay3] 7))] := if_pos (by rw [← HL.out]; exact hg)
    rw [tx37] at e
    have HE := Lib.hid e
    clear e hg
    go_wp2_with fail
    go_ret2
    exact ⟨by rw [HE.out]; rfl, ((HX_w1.out.trans HX_w2.out).trans HX_w3.out)⟩
  · have hgi : ¬ (9000 : Int) < (L : Int) := by omega
    have e : rb3 m = .tuple #[.string (bs m), .string ⟨#[]⟩] := if_neg (by rw [← HL.out]; exact hg)
    have HE := Lib.hid e
    clear e hg
    go_wp2_with fail
    go_ret2
    exact ⟨by rw [HE.out]; rfl, ((HX_w1.out.trans HX_w2.out).trans HX_w3.out)⟩
theorem rb3_any (f : Fr) (w : World) (ok : f.ok) (hb : f.b.length ≤ 1000000) :
    Calls Tryd.prog 39 #[rfv f] w fun e w' => e = .returned (.tuple #[.string (bs (ebs f)), .string (ebsays f)]) ∧ Ex (fun _ => False) w w' := by
  obtain ⟨d, s, vl, ty, b⟩ := f
  obtain ⟨h1, h2, h3, h4, h5⟩ := ok
  simp only at h1 h2 h3 h4 h5 hb
  have nil : bs [] = ⟨#[]⟩ := rfl
  by_cases hbad : badfr ⟨d, s, vl, ty, b⟩
  · rw [show ebs ⟨d, s, vl, ty, b⟩ = [] from if_pos hbad, show ebsays ⟨d, s, vl, ty, b⟩ = bs (etx [lay3] 1) from if_pos hbad, nil]
    rcases hbad with h | h | ⟨h, h'⟩
    · exact rb3_bad1 d s b vl ty w h
    · exact rb3_bad2 d s b vl ty w h
    · exact rb3_bad3 d s b vl ty w h h'
  · have e : (.tuple #[.string (bs (ebs ⟨d, s, vl, ty, b⟩)), .string (ebsays ⟨d, s, vl, ty, b⟩)] : Value) = rb3 (fbytes ⟨d, s, vl, ty, b⟩) := by
      unfold ebs ebsays rb3
      rw [if_neg hbad, if_neg hbad]
      split <;> simp [nil]
    rw [e]
    clear e
    have g1 : ¬ vl < -1 := fun h => hbad (.inl h)
    have g2 : ¬ 65535 < vl := fun h => hbad (.inr (.inl h))
    have g3 : ¬ (vl = -1 ∧ ty = 33024) := fun h => hbad (.inr (.inr h))
    by_cases hv : vl = -1
    · subst hv
      exact rb3_plain d s b ty w (fun h => g3 ⟨rfl, h⟩) h5 h1 h2 hb
    · exact rb3_tag d s b ty w vl (by omega) (by omega) h5 h1 h2 hb
end Go.Proofs.YtkgieciamophkaaDoor
