/-
  The contracts of errors: strconv.Itoa of a small number, Errno.Error, Wrong.Error, Wrap, errors.As at a *Errno, api.Code. By an AI agent.
-/
import Derived.Test.YtkgieciamophkaaDoorBy
import Derived.Test.YtkgieciamophkaaDoorProg
import Derived.WalkKit
import Derived.LaidEql
import Derived.Stop.Asserts
import Derived.RowKitTokens
import Derived.Deep.QuietTactic
import Derived.Deep.RegionHeld
namespace Go.Proofs.YtkgieciamophkaaDoor
open Go.RowKit Go.Extern.Stop Go.Stop Go.Extern

/-- a number below 100, as text -/
def num (k : Nat) : List UInt8 := if k < 10 then [UInt8.ofNat (48 + k)] else [UInt8.ofNat (48 + k / 10), UInt8.ofNat (48 + k % 10)]

set_option maxRecDepth 100000 in
theorem small_any (k : Nat) (h : k ≤ 13) (w : World) : Calls Tryd.prog 82 #[.int .i64 (k : Int)] w fun e w' => e = .returned (.string (bs (num k))) ∧ w = w' := by
  have : k = 0 ∨ k = 1 ∨ k = 2 ∨ k = 3 ∨ k = 4 ∨ k = 5 ∨ k = 6 ∨ k = 7 ∨ k = 8 ∨ k = 9 ∨ k = 10 ∨ k = 11 ∨ k = 12 ∨ k = 13 := by omega
  rcases this with rfl | rfl | rfl | rfl | rfl | rfl | rfl | rfl | rfl | rfl | rfl | rfl | rfl | rfl
  all_goals
    go_enter Tryd.func82, Tryd.ntmps82
    go_wp2
    go_ret
    exact ⟨rfl, rfl⟩

theorem formatInt_any (k : Nat) (h : k ≤ 13) (w : World) : Calls Tryd.prog 81 #[.int .i64 (k : Int), .int .i64 10] w fun e w' => e = .returned (.string (bs (num k))) ∧ w = w' := by
  have h1 : (0 : Int) ≤ (k : Int) := by omega
  have h2 : (k : Int) < 100 := by omega
  have h3 : decide ((0 : Int) ≤ (k : Int)) = true := by simp
  have h4 : decide ((k : Int) < 100) = true := by simp; omega
  go_enter Tryd.func81, Tryd.ntmps81
  go_wp2_with fail
  refine (small_any k h _).mono ?_
  rintro e w' ⟨rfl, rfl⟩
  go_wp2_with fail
  go_ret
  exact ⟨rfl, rfl⟩
theorem sitoa_any (k : Nat) (h : k ≤ 13) (w : World) : Calls Tryd.prog 80 #[.int .i64 (k : Int)] w fun e w' => e = .returned (.string (bs (num k))) ∧ w = w' := by
  go_enter Tryd.func80, Tryd.ntmps80
  go_wp2_with fail
  refine (formatInt_any k h _).mono ?_
  rintro e w' ⟨rfl, rfl⟩
  go_wp2_with fail
  go_ret
  exact ⟨rfl, rfl⟩
theorem itoa_any (k : Nat) (h : k ≤ 13) (w : World) : Calls Tryd.prog 79 #[.int .i64 (k : Int)] w fun e w' => e = .returned (.string (bs (num k))) ∧ w = w' := by
  go_enter Tryd.func79, Tryd.ntmps79
  go_wp2_with fail
  refine (sitoa_any k h _).mono ?_
  rintro e w' ⟨rfl, rfl⟩
  go_wp2_with fail
  go_ret
  exact ⟨rfl, rfl⟩

/-- the text of an error: its layers, and its number -/
def etx : List (List UInt8) → Nat → List UInt8
  | [], k => [101, 114, 114, 111, 114, 32] ++ num k
  | s :: r, k => s ++ [58, 32] ++ etx r k
theorem num_len (k : Nat) : (num k).length ≤ 2 := by unfold num; split <;> simp
theorem errno_any (k : Nat) (h : k ≤ 13) (w : World) : Calls Tryd.prog 78 #[.int .i64 (k : Int)] w fun e w' => e = .returned (.string (bs (etx [] k))) ∧ w = w' := by
  have hb := bs_append [101, 114, 114, 111, 114, 32] (num k)
  have hb2 : bs [101, 114, 114, 111, 114, 32] = ⟨#[101, 114, 114, 111, 114, 32]⟩ := rfl
  rw [hb2] at hb
  have hz := bs_size (num k)
  have hz2 := num_len k
  go_enter Tryd.func78, Tryd.ntmps78
  go_wp2_with fail
  refine (itoa_any k h _).mono ?_
  rintro e w' ⟨rfl, rfl⟩
  go_wp2_with fail
  go_ret
  exact ⟨rfl, rfl⟩

/-- v is an error of these layers and this number, that lies in blocks of which P holds -/
def EC (w : World) (P : Nat → Prop) : List (List UInt8) → Value → Nat → Prop
  | [], v, k => v = .iface 58 (.int .i64 (k : Int))
  | s :: r, v, k => ∃ e v', v = .iface 120 (.pointer (some ⟨e, 0, none⟩)) ∧ P e ∧ w.cell? ⟨e, 0, none⟩ = some (.string (bs s)) ∧ w.cell? ⟨e, 1, none⟩ = some v' ∧ EC w P r v' k
theorem EC.keep {w w' : World} {P S : Nat → Prop} (hx : Ex S w w') (hs : ∀ j, P j → ¬ S j) : ∀ {r v k}, EC w P r v k → EC w' P r v k
  | [], _, _, h => h
  | _ :: _, _, _, ⟨e, v', h1, h2, h3, h4, h5⟩ => ⟨e, v', h1, h2, hx.cell h3 (hs _ h2), hx.cell h4 (hs _ h2), EC.keep hx hs h5⟩
theorem EC.mono {w : World} {P Q : Nat → Prop} (hs : ∀ j, P j → Q j) : ∀ {r v k}, EC w P r v k → EC w Q r v k
  | [], _, _, h => h
  | _ :: _, _, _, ⟨e, v', h1, h2, h3, h4, h5⟩ => ⟨e, v', h1, hs _ h2, h3, h4, EC.mono hs h5⟩
set_option linter.unusedSimpArgs false in
/-- 'err.Error()' of a Wrong, given that of what it wraps -/
theorem werror_step (s t : List UInt8) (e f : Nat) (ty : TypeId) (y : Value) (w : World) (h3 : w.cell? ⟨e, 0, none⟩ = some (.string (bs s))) (h4 : w.cell? ⟨e, 1, none⟩ = some (.iface ty y))
    (hm : ∀ W, (Go.method 279 ty y "Error").run Tryd.prog W = .ok (f, y) W) (hf : ∀ W, (callFunc f #[y]).run Tryd.prog W = .ok (.enter f #[y]) W) (hl : s.length + t.length ≤ 1000)
    (ihc : ∀ W, Ex (fun _ => False) w W → Calls Tryd.prog f #[y] W fun e w' => e = .returned (.string (bs t)) ∧ Ex (fun _ => False) W w') :
    Calls Tryd.prog 96 #[.pointer (some ⟨e, 0, none⟩)] w fun e w' => e = .returned (.string (bs (s ++ [58, 32] ++ t))) ∧ Ex (fun _ => False) w w' := by
  have c0 : ∀ W, Ex (fun _ => False) w W → W.cell? ⟨e, 0, none⟩ = some (.string (bs s)) := fun W hx => hx.cell h3 id
  have c1 : ∀ W, Ex (fun _ => False) w W → W.cell? ⟨e, 1, none⟩ = some (.iface ty y) := fun W hx => hx.cell h4 id
  have hz1 := bs_size s
  have hz2 := bs_size t
  have hz3 := bs_size (s ++ [58, 32])
  have hb1 : bs s ++ ⟨#[58, 32]⟩ = bs (s ++ [58, 32]) := bs_append s [58, 32]
  have hb2 := bs_append (s ++ [58, 32]) t
  have n1 : ¬ 9223372036854775807 < s.length + 2 := by omega
  have n2 : ¬ 9223372036854775807 < s.length + 2 + t.length := by omega
  have hxd : Ex (fun _ => False) w w.drew := (Ex.refl _ w).drew
  go_enter Tryd.func96, Tryd.ntmps96
  go_wp2_with fail
  refine wp_region_held_drew (S := fun w' => Ex (fun _ => False) w w') (by kernel_rfl) hxd (fun _ => ?_)
  refine wpAnyH_take (i := 0) (v := ?v0) rfl (by kernel_rfl) (by kernel_rfl) (by kernel_rfl) (fun _ _ _ h => h) (Or.inl ⟨by rfl, ?hy0⟩) (by assumption) ?rest0
  case hy0 => (intro w hSw; (try dsimp only at hSw); go_simp <;> with_reducible rfl)
  try simp only [Act.put, List.setIfInBounds_toArray, List.set_cons_zero, List.set_cons_succ]
  refine wpAnyH_take (i := 1) (v := ?v1) rfl (by kernel_rfl) (by kernel_rfl) (by kernel_rfl) (fun _ _ _ h => h) (Or.inl ⟨by rfl, ?hy1⟩) (by assumption) ?rest1
  case hy1 => (intro w hSw; (try dsimp only at hSw); go_simp <;> with_reducible rfl)
  try simp only [Act.put, List.setIfInBounds_toArray, List.set_cons_zero, List.set_cons_succ]
  refine wpAnyH_take (i := 2) (v := ?v2) rfl (by kernel_rfl) (by kernel_rfl) (by kernel_rfl) (fun _ _ _ h => h) (Or.inl ⟨by rfl, ?hy2⟩) (by assumption) ?rest2
  case hy2 => (intro w hSw; (try dsimp only at hSw); go_simp <;> with_reducible rfl)
  try simp only [Act.put, List.setIfInBounds_toArray, List.set_cons_zero, List.set_cons_succ]
  refine wpAnyH_take (i := 3) (v := ?v3) rfl (by kernel_rfl) (by kernel_rfl) (by kernel_rfl) (fun _ _ _ h => h) (Or.inl ⟨by rfl, ?hy3⟩) (by assumption) ?rest3
  case hy3 => (intro w hSw; (try dsimp only at hSw); go_simp <;> with_reducible rfl)
  try simp only [Act.put, List.setIfInBounds_toArray, List.set_cons_zero, List.set_cons_succ]
  refine wpAnyH_take (i := 4) (v := ?v4) rfl (by kernel_rfl) (by kernel_rfl) (by kernel_rfl) (fun _ _ _ h => h) (Or.inl ⟨by rfl, ?hy4⟩) (by assumption) ?rest4
  case hy4 => (intro w hSw; (try dsimp only at hSw); go_simp <;> with_reducible rfl)
  try simp only [Act.put, List.setIfInBounds_toArray, List.set_cons_zero, List.set_cons_succ]
  refine wpAnyH_take (i := 5) (v := ?v5) rfl (by kernel_rfl) (by kernel_rfl) (by kernel_rfl) (fun _ _ _ h => h) (Or.inl ⟨by rfl, ?hy5⟩) (by assumption) ?rest5
  case hy5 => (intro w hSw; (try dsimp only at hSw); go_simp <;> with_reducible rfl)
  try simp only [Act.put, List.setIfInBounds_toArray, List.set_cons_zero, List.set_cons_succ]
  refine wpAnyH_take (i := 6) (v := ?v6) rfl (by kernel_rfl) (by kernel_rfl) (by kernel_rfl) (fun _ _ _ h => h) (Or.inl ⟨by rfl, ?hy6⟩) (by assumption) ?rest6
  case hy6 => (intro w hSw; (try dsimp only at hSw); go_simp <;> with_reducible rfl)
  try simp only [Act.put, List.setIfInBounds_toArray, List.set_cons_zero, List.set_cons_succ]
  refine wpAnyH_take (i := 7) (v := ?v7) rfl (by kernel_rfl) (by kernel_rfl) (by kernel_rfl) (fun _ _ _ h => h) (Or.inl ⟨by rfl, ?hy7⟩) (by assumption) ?rest7
  case hy7 => (intro w hSw; (try dsimp only at hSw); go_simp <;> with_reducible rfl)
  try simp only [Act.put, List.setIfInBounds_toArray, List.set_cons_zero, List.set_cons_succ]
  refine wpAnyH_take (i := 8) (v := ?v8) rfl (by kernel_rfl) (by kernel_rfl) (by kernel_rfl) (fun _ _ _ h => h) (Or.inl ⟨by rfl, ?hy8⟩) (by assumption) ?rest8
  case hy8 => (intro w hSw; (try dsimp only at hSw); go_simp <;> with_reducible rfl)
  try simp only [Act.put, List.setIfInBounds_toArray, List.set_cons_zero, List.set_cons_succ]
  refine wpAnyH_ready (rs := [9]) (by kernel_rfl) (by simp) ?_
  refine AllReadyH.cons rfl (fun K hK => ?_) AllReadyH.nil
  go_simp
  refine (ihc _ (by assumption)).mono ?_; rintro e2 w2 ⟨rfl, hx2⟩; refine hK.out _ _ (Ex.trans (by assumption) hx2) (fun _ => ?_)
  try simp only [Act.put, List.setIfInBounds_toArray, List.set_cons_zero, List.set_cons_succ]
  refine wpAnyH_take (i := 10) (oi := { dst := some 13, op := Go.Op.binOp Go.BinOp.add 9 (Go.Operand.tmp 7) (Go.Operand.tmp 12) 9, type := 9, pos := "api.go:40", after := #[{ on := 4, ground := Go.Ground.data }, { on := 9, ground := Go.Ground.data }], guard := none }) (v := ?v10) rfl (by kernel_rfl) (by kernel_rfl) (by kernel_rfl) (fun _ _ _ h => h) (Or.inl ⟨by rfl, ?hy10⟩) (by assumption) ?rest10
  case hy10 => (intro w hSw; (try dsimp only at hSw); go_simp <;> with_reducible rfl)
  try simp only [Act.put, List.setIfInBounds_toArray, List.set_cons_zero, List.set_cons_succ]
  refine wpAnyH_take (i := 11) (oi := { dst := some 2, op := Go.Op.assign (Go.Operand.tmp 13), type := 9, pos := "api.go:40", after := #[{ on := 10, ground := Go.Ground.data }, { on := 9, ground := Go.Ground.chain }, { on := 0, ground := Go.Ground.phase }, { on := 1, ground := Go.Ground.phase }, { on := 2, ground := Go.Ground.phase }, { on := 3, ground := Go.Ground.phase }, { on := 4, ground := Go.Ground.phase }, { on := 5, ground := Go.Ground.phase }, { on := 6, ground := Go.Ground.phase }, { on := 7, ground := Go.Ground.phase }, { on := 8, ground := Go.Ground.phase }, { on := 9, ground := Go.Ground.phase }, { on := 10, ground := Go.Ground.phase }], guard := none }) (v := ?v11) rfl (by kernel_rfl) (by kernel_rfl) (by kernel_rfl) (fun _ _ _ h => h) (Or.inl ⟨by rfl, ?hy11⟩) (by assumption) ?rest11
  case hy11 => (intro w hSw; (try dsimp only at hSw); go_simp <;> with_reducible rfl)
  try simp only [Act.put, List.setIfInBounds_toArray, List.set_cons_zero, List.set_cons_succ]
  refine wpAnyH_done (by kernel_rfl) ?_ _
  go_wp2
  go_ret
  refine ⟨?_, by assumption⟩
  simp

theorem meth_errno (k : Int) (W : World) : (Go.method 279 58 (.int .i64 k) "Error").run Tryd.prog W = .ok (78, .int .i64 k) W := by kernel_rfl
theorem meth_wrong (p : Addr) (W : World) : (Go.method 279 120 (.pointer (some p)) "Error").run Tryd.prog W = .ok (96, .pointer (some p)) W := by kernel_rfl
theorem call_errno (k : Int) (W : World) : (callFunc 78 #[.int .i64 k]).run Tryd.prog W = .ok (.enter 78 #[.int .i64 k]) W := by kernel_rfl
theorem call_wrong (p : Addr) (W : World) : (callFunc 96 #[.pointer (some p)]).run Tryd.prog W = .ok (.enter 96 #[.pointer (some p)]) W := by kernel_rfl
/-- 'err.Error()', whatever the layers -/
theorem etext {P : Nat → Prop} (k : Nat) (hk : k ≤ 13) : ∀ (r : List (List UInt8)) (v : Value) (w : World), EC w P r v k → (etx r k).length ≤ 1000 →
    ∃ ty y f, v = .iface ty y ∧ (∀ W, (Go.method 279 ty y "Error").run Tryd.prog W = .ok (f, y) W) ∧ (∀ W, (callFunc f #[y]).run Tryd.prog W = .ok (.enter f #[y]) W) ∧
      ∀ W, Ex (fun _ => False) w W → Calls Tryd.prog f #[y] W fun e w' => e = .returned (.string (bs (etx r k))) ∧ Ex (fun _ => False) W w'
  | [], v, w, h, _ => ⟨_, _, _, h, meth_errno _, call_errno _, fun W _ => (errno_any k hk W).mono fun e w' ⟨h1, h2⟩ => ⟨h1, h2 ▸ Ex.refl _ W⟩⟩
  | s :: r, v, w, ⟨e, v', h1, h2, h3, h4, h5⟩, hl => by
    have hl' : s.length + (etx r k).length + 2 ≤ 1000 := by simp [etx] at hl; omega
    obtain ⟨ty, y, f, rfl, g1, g2, g3⟩ := etext k hk r v' w h5 (by omega)
    exact ⟨_, _, _, h1, meth_wrong _, call_wrong _, fun W hx => werror_step s (etx r k) e f ty y W (hx.cell h3 id) (hx.cell h4 id) g1 g2 (by omega) (fun W' hx' => g3 W' (hx.trans hx'))⟩

/-- an error: not nil -/
theorem wrap_any (s : List UInt8) (ty : TypeId) (y : Value) (w : World) :
    Calls Tryd.prog 53 #[.string (bs s), .iface ty y] w fun e w' => e = .returned (.iface 120 (.pointer (some ⟨w.heap.size, 0, none⟩))) ∧ w.alloc (.cells #[.string (bs s), .iface ty y] 122) = w' := by
  go_enter Tryd.func53, Tryd.ntmps53
  go_wp2_with fail
  go_ret
  exact ⟨rfl, rfl⟩
theorem EC.wrap {w : World} {P Q : Nat → Prop} {s : List UInt8} {r : List (List UInt8)} {v : Value} {k : Nat} (h : EC w P r v k) (hQ : Q w.heap.size) (hPQ : ∀ j, P j → Q j) (t : TypeId) :
    EC (w.alloc (.cells #[.string (bs s), v] t)) Q (s :: r) (.iface 120 (.pointer (some ⟨w.heap.size, 0, none⟩))) k :=
  ⟨w.heap.size, v, rfl, hQ, by rw [World.cell?_alloc_at _ _ _ _ rfl]; rfl, by rw [World.cell?_alloc_at _ _ _ _ rfl]; rfl, (EC.mono hPQ h).keep (S := fun _ => False) ((Ex.refl _ w).alloc _) (fun _ _ => id)⟩
/-- the layer's name -/
def lay1 : List UInt8 := [111, 99, 116, 101, 116, 115]
theorem wrong1_any (k : Nat) (w : World) :
    Calls Tryd.prog 47 #[.int .i64 (k : Int)] w fun e w' => ∃ v, e = .returned v ∧ EC w' (fun j => j = w.heap.size) [lay1] v k ∧ Ex (fun _ => False) w w' := by
  have hb : (⟨#[111, 99, 116, 101, 116, 115]⟩ : ByteArray) = bs lay1 := rfl
  go_enter Tryd.func47, Tryd.ntmps47
  go_wp2_with fail
  refine (wrap_any lay1 _ _ _).mono ?_
  rintro e w' ⟨rfl, rfl⟩
  go_wp2_with fail
  go_ret
  exact ⟨_, rfl, EC.wrap (w := w) (Q := fun j => j = w.heap.size) (s := lay1) (P := fun _ => False) (r := []) (v := .iface 58 (.int .i64 (k : Int))) rfl rfl (fun _ h => h.elim) _, (Ex.refl _ w).alloc _⟩
end Go.Proofs.YtkgieciamophkaaDoor
