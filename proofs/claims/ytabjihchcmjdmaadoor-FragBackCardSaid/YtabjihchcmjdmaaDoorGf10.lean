/-
  The map; Take, first half. By an AI agent.
-/
import Derived.Test.YtabjihchcmjdmaaDoorGd10
import Derived.Maps.OwnOps
import Derived.Maps.OwnSet
import Derived.Maps.Views
import Derived.DeepKeys4
import Derived.Deep.DeepCutAuto
import Derived.Deep.CutBlock
/-
  Reass's map: keys, what it reads as. By an AI agent.
-/
namespace Go.Proofs.YtabjihchcmjdmaaDoor
open Go.RowKit Go.Maps

theorem laidB : laidOutB Tryd.prog = true := by kernel_rfl
theorem keyedK : Keyed Tryd.prog 78 := Keyed.of_law (deep_law_laid laidB (m := 5) (by decide) (of_decide_eq_true (by kernel_rfl)) (by kernel_rfl) (by kernel_rfl))
/-- a key -/
def kval (p : Pk) : Value := .agg #[.int .u32 p.src, .int .u32 p.dst, .int .u8 p.pr, .int .u16 p.id]
/-- what it reads as -/
def klit (p : Pk) : Lit := .string (keyBytes [.int .u32 p.src, .int .u32 p.dst, .int .u8 p.pr, .int .u16 p.id])
/-- what a pointer to a heap reads as: its block -/
def pr (v : Value) : Option (DataW Unit × List MemPlace) :=
  match v with
  | .pointer none => some (.nil, [])
  | .pointer (some ⟨b, 0, none⟩) => some (.lit (.int .i64 (b : Int)), [])
  | _ => none
theorem pr_inv {v : Value} {b : Nat} {ps : List MemPlace} (h : pr v = some (.lit (.int .i64 (b : Int)), ps)) : v = .pointer (some ⟨b, 0, none⟩) := by
  unfold pr at h
  split at h
  · injection h with h; injection h with h _; cases h
  · simp only [Option.some.injEq, Prod.mk.injEq, DataW.lit.injEq, Lit.int.injEq, true_and] at h
    rw [Int.ofNat.inj h.1]
  · cases h
theorem pr_nil {v : Value} {ps : List MemPlace} (h : pr v = some (.nil, ps)) : v = .pointer none := by
  unfold pr at h
  split at h
  · rfl
  · injection h with h; injection h with h _; cases h
  · cases h
theorem zeroP (w : World) : (zeroValue 79).run Tryd.prog w = .ok (.pointer none) w := by kernel_rfl
theorem zeroK (w : World) : (zeroValue 78).run Tryd.prog w = .ok (.agg #[.int .u32 0, .int .u32 0, .int .u8 0, .int .u16 0]) w := by kernel_rfl
theorem keyTy : Tryd.prog.keyType 78 = true := by kernel_rfl
theorem key_of (p : Pk) (ok : p.ok) : keyOf Tryd.prog 78 (kval p) = some (klit p) := by
  obtain ⟨_, h1, _, _, h2, h3, h4⟩ := ok
  have hk := keyTy
  have hc : Tryd.prog.cellsOf 78 = 4 := by kernel_rfl
  have hc1 : Tryd.prog.cellsOf 24 = 1 := by kernel_rfl
  have hc2 : Tryd.prog.cellsOf 5 = 1 := by kernel_rfl
  have hc3 : Tryd.prog.cellsOf 22 = 1 := by kernel_rfl
  have hu := Tryd.underlying78
  have hu1 := Tryd.underlying24
  have hu2 := Tryd.underlying5
  have hu3 := Tryd.underlying22
  have hs : Tryd.prog.types.size = 179 := by kernel_rfl
  have w1 : (Lit.int .u32 p.src).wf = true := WalkArith.wf_u32 (by omega)
  have w2 : (Lit.int .u32 p.dst).wf = true := WalkArith.wf_u32 (by omega)
  have w3 : (Lit.int .u8 p.pr).wf = true := WalkArith.wf_u8 (by omega)
  have w4 : (Lit.int .u16 p.id).wf = true := WalkArith.wf_u16 (by omega)
  have hf : Value.formed Tryd.prog 78 (kval p) = true := by simp [Value.formed, kval, hu, hc]
  have k1 : ∀ d, Tryd.prog.keyLits (d + 1) 24 [.int .u32 p.src] = some [.int .u32 p.src] := fun d => by unfold Program.keyLits; rw [hu1]; simp [w1]
  have k2 : ∀ d, Tryd.prog.keyLits (d + 1) 24 [.int .u32 p.dst] = some [.int .u32 p.dst] := fun d => by unfold Program.keyLits; rw [hu1]; simp [w2]
  have k3 : ∀ d, Tryd.prog.keyLits (d + 1) 5 [.int .u8 p.pr] = some [.int .u8 p.pr] := fun d => by unfold Program.keyLits; rw [hu2]; simp [w3]
  have k4 : ∀ d, Tryd.prog.keyLits (d + 1) 22 [.int .u16 p.id] = some [.int .u16 p.id] := fun d => by unfold Program.keyLits; rw [hu3]; simp [w4]
  obtain ⟨m, hm⟩ : ∃ m, 179 + 1 = m + 1 + 1 := ⟨179 - 1, by decide⟩
  unfold keyOf
  rw [hu]
  simp only [hk, hf, Bool.and_self, if_true]
  rw [hs, hm]
  unfold Program.keyLits
  rw [hu]
  simp [kval, klit, Value.cells, hc, hc1, hc2, hc3, k1, k2, k3, k4]
/-- the key's bytes -/
def kb (p : Pk) : List UInt8 := keyBytes [.int .u32 p.src, .int .u32 p.dst, .int .u8 p.pr, .int .u16 p.id]
theorem klit_kb (p : Pk) : klit p = .string (kb p) := rfl
theorem kb_inj {p q : Pk} (okp : p.ok) (okq : q.ok) (h : kb p = kb q) : p.src = q.src ∧ p.dst = q.dst ∧ p.pr = q.pr ∧ p.id = q.id := by
  have h1 := key_of p okp
  have h2 := key_of q okq
  rw [klit_kb, h, ← klit_kb q] at h1
  have h3 := keyedK.inj h1 h2
  unfold kval at h3
  injection h3 with h3
  simp only [Array.mk.injEq, List.cons.injEq, Value.int.injEq, true_and, and_true] at h3
  exact h3
/-- the block at a key -/
def lk (A : List (List UInt8 × Nat)) (k : List UInt8) : Option Nat := (A.find? (fun x => x.1 == k)).map Prod.snd
/-- the map's datum D holds these keys and blocks -/
structure AD (D : DataW Unit) (A : List (List UInt8 × Nat)) : Prop where
  tidy : Tidy D
  size : Maps.size D = A.length
  has : ∀ k, Maps.has D (.string k) = (lk A k).isSome
  elem : ∀ k b, lk A k = some b → D.atKey (.string k) .nil = .lit (.int .i64 (b : Int))
theorem AD.empty : AD (.map []) [] := ⟨tidy_empty, rfl, fun _ => rfl, fun k b h => by cases h⟩
theorem AD.no {D : DataW Unit} {A : List (List UInt8 × Nat)} (h : AD D A) {k : List UInt8} (hk : lk A k = none) : D.atKey (.string k) .nil = .nil :=
  atKey_of_not_has (by rw [h.has, hk]; rfl) _
theorem lk_append (A : List (List UInt8 × Nat)) (k : List UInt8) (b : Nat) (k' : List UInt8) (hk : lk A k = none) : lk (A ++ [(k, b)]) k' = if k' = k then some b else lk A k' := by
  unfold lk at *
  rw [List.find?_append]
  by_cases h : k' = k
  · subst h
    rw [if_pos rfl]
    cases hf : A.find? (fun x => x.1 == k') with
    | none => simp
    | some x => rw [hf] at hk; cases hk
  · rw [if_neg h]
    cases hf : A.find? (fun x => x.1 == k') with
    | none =>
      have e' : (k == k') = false := beq_eq_false_iff_ne.2 (fun e => h e.symm)
      simp [e']
    | some x => rfl
theorem AD.put {D : DataW Unit} {A : List (List UInt8 × Nat)} (h : AD D A) {k : List UInt8} (hk : lk A k = none) (b : Nat) : AD (D.put (.string k) (.lit (.int .i64 (b : Int)))) (A ++ [(k, b)]) := by
  have hno : Maps.has D (.string k) = false := by rw [h.has, hk]; rfl
  refine ⟨h.tidy.put (k := Lit.string k) trivial _, ?_, fun k' => ?_, fun k' b' hb => ?_⟩
  · rw [size_put h.tidy, hno, h.size]
    simp
  · rw [lk_append A k b k' hk]
    by_cases e : k' = k
    · subst e
      rw [if_pos rfl, has_put_same h.tidy.isMap (k := Lit.string k') trivial]
      rfl
    · rw [if_neg e, has_put_other (fun e' => e (by injection e')), h.has]
  · rw [lk_append A k b k' hk] at hb
    by_cases e : k' = k
    · subst e
      rw [if_pos rfl] at hb
      injection hb with hb
      subst hb
      exact atKey_put_same h.tidy.isMap (k := Lit.string k') trivial _ _
    · rw [if_neg e] at hb
      rw [atKey_put_other (fun e' => e (by injection e'))]
      exact h.elem k' b' hb
theorem lk_filter (k : List UInt8) (k' : List UInt8) : ∀ A : List (List UInt8 × Nat), lk (A.filter (fun x => x.1 != k)) k' = if k' = k then none else lk A k'
  | [] => by simp [lk]
  | x :: A => by
    have ih := lk_filter k k' A
    by_cases h1 : x.1 = k
    · rw [List.filter_cons_of_neg (by simp [h1]), ih]
      by_cases h2 : k' = k
      · rw [if_pos h2, if_pos h2]
      · rw [if_neg h2, if_neg h2]
        unfold lk
        rw [List.find?_cons_of_neg (by simp; rw [h1]; exact fun e => h2 e.symm)]
    · rw [List.filter_cons_of_pos (by simp [h1])]
      unfold lk at ih ⊢
      by_cases h3 : x.1 = k'
      · rw [List.find?_cons_of_pos (by simp [h3]), if_neg (by rw [← h3]; exact h1), List.find?_cons_of_pos (by simp [h3])]
      · rw [List.find?_cons_of_neg (by simp [h3]), ih, List.find?_cons_of_neg (by simp [h3])]
theorem len_filter (k : List UInt8) : ∀ A : List (List UInt8 × Nat), A.Pairwise (fun x y => x.1 ≠ y.1) → (A.filter (fun x => x.1 != k)).length + (if (lk A k).isSome then 1 else 0) = A.length
  | [], _ => by simp [lk]
  | x :: A, h => by
    obtain ⟨h1, h2⟩ := List.pairwise_cons.1 h
    have ih := len_filter k A h2
    by_cases e : x.1 = k
    · have hn : lk A k = none := by
        unfold lk
        rw [List.find?_eq_none.2 (fun y hy => by have := h1 y hy; simp; intro e2; exact this (e.trans e2.symm))]
        rfl
      have hs : lk (x :: A) k = some x.2 := by
        unfold lk
        rw [List.find?_cons_of_pos (by simp [e])]
        rfl
      rw [List.filter_cons_of_neg (by simp [e]), hs]
      rw [hn] at ih
      simp at ih ⊢
      exact ih
    · have hs : lk (x :: A) k = lk A k := by
        unfold lk
        rw [List.find?_cons_of_neg (by simp [e])]
      rw [List.filter_cons_of_pos (by simp [e]), hs, List.length_cons, List.length_cons]
      omega
theorem AD.del {D : DataW Unit} {A : List (List UInt8 × Nat)} (h : AD D A) (hA : A.Pairwise (fun x y => x.1 ≠ y.1)) (k : List UInt8) : AD (D.del (.string k)) (A.filter (fun x => x.1 != k)) := by
  refine ⟨h.tidy.del _, ?_, fun k' => ?_, fun k' b' hb => ?_⟩
  · have h1 := size_del (k := Lit.string k) h.tidy
    have h2 := len_filter k A hA
    rw [h.has, h.size] at h1
    omega
  · rw [lk_filter]
    by_cases e : k' = k
    · subst e
      rw [if_pos rfl, has_del_same]
      rfl
    · rw [if_neg e, has_del_other (fun e' => e (by injection e')), h.has]
  · rw [lk_filter] at hb
    by_cases e : k' = k
    · rw [if_pos e] at hb; cases hb
    · rw [if_neg e] at hb
      rw [atKey_del_other (fun e' => e (by injection e'))]
      exact h.elem k' b' hb
/-- block bm is Reass's map: it holds these keys and blocks -/
def MP (w : World) (bm : Nat) (A : List (List UInt8 × Nat)) : Prop := ∃ D, AD D A ∧ w.ownsMap Tryd.prog 78 pr bm (Maps.size D) D
theorem MP.tight {w : World} {bm n : Nat} {D : DataW Unit} (h : w.ownsMap Tryd.prog 78 pr bm n D) : w.ownsMap Tryd.prog 78 pr bm (Maps.size D) D := by
  obtain ⟨es, clock, h1, h2, _, h4⟩ := h
  refine ⟨es, clock, h1, h2, ?_, h4⟩
  rw [h4, size_eq, length_sorted]
  simp
theorem MP.made (w : World) : MP (w.alloc (.map #[] 0)) w.heap.size [] := ⟨.map [], AD.empty, World.ownsMap_made w _ _ _⟩
theorem MP.lt {w : World} {bm : Nat} {A : List (List UInt8 × Nat)} (h : MP w bm A) : bm < w.heap.size := by obtain ⟨_, _, h⟩ := h; exact h.lt
theorem MP.isMap {w : World} {bm : Nat} {A : List (List UInt8 × Nat)} (h : MP w bm A) : ∃ es c, w.heap[bm]? = some (.map es c) := by obtain ⟨_, _, es, c, h, _⟩ := h; exact ⟨es, c, h⟩
theorem MP.keep {w w' : World} {S : Nat → Prop} {bm : Nat} {A : List (List UInt8 × Nat)} (h : MP w bm A) (hx : Ex S w w') (hs : ¬ S bm) : MP w' bm A := by
  obtain ⟨D, ha, es, c, h1, h2⟩ := h
  exact ⟨D, ha, es, c, (hx.block bm (row_lt h1) hs).trans h1, h2⟩
theorem MP.len {w : World} {bm : Nat} {A : List (List UInt8 × Nat)} (h : MP w bm A) (ty : TypeId) : (Builtin.len_ #[74] ty #[.map (some bm)]).run Tryd.prog w = .ok (.int .i64 (A.length : Int)) w := by
  obtain ⟨D, ha, h1⟩ := h
  have := h1.len (t := 74) Tryd.underlying74 ty
  rw [ha.size] at this
  exact this
theorem MP.look {w : World} {bm : Nat} {A : List (List UInt8 × Nat)} (h : MP w bm A) (p : Pk) (ok : p.ok) : (Instr.lookup 74 (.map (some bm)) (kval p) false).run Tryd.prog w = .ok (.pointer ((lk A (kb p)).map fun b => ⟨b, 0, none⟩)) w := by
  obtain ⟨D, ha, h1⟩ := h
  obtain ⟨v, ps, hr, hv⟩ := h1.lookup keyedK Tryd.underlying74 (zeroP w) (zd := .nil) (zp := []) rfl (key_of p ok)
  rw [hr]
  rw [klit_kb] at hv
  cases hl : lk A (kb p) with
  | none =>
    rw [ha.no hl] at hv
    rw [pr_nil hv]
    rfl
  | some b =>
    rw [ha.elem _ b hl] at hv
    rw [pr_inv hv]
    rfl
theorem MP.update {w : World} {bm : Nat} {A : List (List UInt8 × Nat)} (h : MP w bm A) (p : Pk) (ok : p.ok) (b : Nat) (hk : lk A (kb p) = none) (hn : A.length < 1000) :
    ∃ w', (Instr.mapUpdate 74 (.map (some bm)) (kval p) (.pointer (some ⟨b, 0, none⟩))).run Tryd.prog w = .ok () w' ∧ MP w' bm (A ++ [(kb p, b)]) ∧ Ex (fun k => k = bm) w w' := by
  obtain ⟨D, ha, h1⟩ := h
  obtain ⟨w', hr, h2, h3⟩ := h1.update keyedK Tryd.underlying74 (by rw [ha.size]; simp only [maxLen]; omega) (key_of p ok) (val := .pointer (some ⟨b, 0, none⟩)) (d := .lit (.int .i64 (b : Int))) (ps := []) rfl
  rw [klit_kb] at h2
  refine ⟨w', hr, ⟨_, ha.put hk b, MP.tight h2⟩, ?_⟩
  exact ⟨h3.os, h3.tape, h3.output, h3.size, fun k hk hne => h3.block k hk (fun e => hne (by injection e))⟩
theorem MP.drop {w : World} {bm : Nat} {A : List (List UInt8 × Nat)} (h : MP w bm A) (hA : A.Pairwise (fun x y => x.1 ≠ y.1)) (p : Pk) (ok : p.ok) (ty : TypeId) :
    ∃ w', (Builtin.delete_ #[74, 78] ty #[.map (some bm), kval p]).run Tryd.prog w = .ok (.tuple #[]) w' ∧ MP w' bm (A.filter (fun x => x.1 != kb p)) ∧ Ex (fun k => k = bm) w w' := by
  obtain ⟨D, ha, h1⟩ := h
  obtain ⟨w', hr, h2, h3⟩ := h1.drop keyedK Tryd.underlying74 (key_of p ok) ty
  rw [klit_kb] at h2
  have h4 := h3.grown
  refine ⟨w', hr, ⟨_, ha.del hA (kb p), MP.tight h2⟩, ?_⟩
  exact ⟨h4.os, h4.tape, h4.output, h4.size, fun k hk hne => h4.block k hk (fun e => hne (by injection e))⟩
/-- a heap, as the proof sees it -/
structure Hp where
  k : List UInt8
  bg : Int
  hb : Nat
  os : List Po
  g : Nat
  cap : Nat
def HpOk (w : World) (B : Nat) (h : Hp) : Prop :=
  w.heap[h.hb]? = some (.cells #[.int .u64 h.bg, .slice (some ⟨h.g, 0, none⟩) h.os.length h.cap] 81) ∧ OP w B (.slice (some ⟨h.g, 0, none⟩) h.os.length h.cap) h.os ∧
    (∀ o ∈ h.os, OB w B (ov o) o.1.b ∧ o.1.ok ∧ o.1.right = 0) ∧ 0 < h.os.length ∧ B ≤ h.hb
theorem HpOk.keep {w w' : World} {B : Nat} {h : Hp} (H : HpOk w B h) (hx : Ex (fun _ => False) w w') : HpOk w' B h :=
  ⟨(hx.block h.hb (row_lt H.1) id).trans H.1, H.2.1.keep hx (fun _ _ _ _ => id), fun o ho => ⟨(H.2.2.1 o ho).1.keep hx (fun _ _ _ _ => id), (H.2.2.1 o ho).2⟩, H.2.2.2⟩
/-- a Reass and what waits there -/
structure RS (w : World) (B rb bm : Nat) (tm : Int) (G : List Hp) : Prop where
  cell : w.heap[rb]? = some (.cells #[.int .u64 tm, .map (some bm)] 76)
  map : MP w bm (G.map fun h => (h.k, h.hb))
  hps : ∀ h ∈ G, HpOk w B h
  apart : G.Pairwise (fun a b => a.k ≠ b.k ∧ a.hb ≠ b.hb ∧ a.g ≠ b.g)
  lo : B ≤ rb ∧ B ≤ bm
theorem RS.keep {w w' : World} {B rb bm : Nat} {tm : Int} {G : List Hp} (h : RS w B rb bm tm G) (hx : Ex (fun _ => False) w w') : RS w' B rb bm tm G :=
  ⟨(hx.block rb (row_lt h.cell) id).trans h.cell, h.map.keep hx id, fun x hx' => (h.hps x hx').keep hx, h.apart, h.lo⟩
theorem new_any (tm : Int) (w : World) : Calls Tryd.prog 18 #[.int .u64 tm] w fun e w' => ∃ rb bm, e = .returned (.pointer (some ⟨rb, 0, none⟩)) ∧ RS w' w.heap.size rb bm tm [] ∧ Ex (fun _ => False) w w' := by
  have hmm := @run_makeMap Tryd.prog
  go_enter Tryd.func18, Tryd.ntmps18
  go_wp2
  go_ret
  refine ⟨_, w.heap.size, rfl, ⟨?_, ?_, fun h hh => by simp at hh, List.Pairwise.nil, by simp, Nat.le_refl _⟩, ((Ex.refl _ w).alloc _).alloc _⟩
  · have h := heap_alloc_new (w.alloc (.map #[] 0)) (.cells #[.int .u64 tm, .map (some w.heap.size)] 76)
    simpa using h
  · exact (MP.made w).keep ((Ex.refl (fun _ => False) _).alloc _) id
theorem len_any (B rb bm : Nat) (tm : Int) (G : List Hp) (w : World) (h : RS w B rb bm tm G) : Calls Tryd.prog 20 #[.pointer (some ⟨rb, 0, none⟩)] w fun e w' => e = .returned (.int .i64 (G.length : Int)) ∧ w' = w := by
  have c1 := row_cell (k := 1) (v := .map (some bm)) h.cell rfl
  have hl := fun ty => h.map.len ty
  simp only [List.length_map] at hl
  clear h
  go_enter Tryd.func20, Tryd.ntmps20
  go_wp2
  go_ret
  exact ⟨rfl, rfl⟩
end Go.Proofs.YtabjihchcmjdmaaDoor
/-
  The contract of (*frag.Reass).Take: a packet that is not right; one that is no part; no room. By an AI agent.
-/
namespace Go.Proofs.YtabjihchcmjdmaaDoor
open Go.RowKit

theorem take_results (tmps : Array Value) (g : Nat) (w : World) (cs : Array Value) (v v' : Value) (hp : tmps.getD 6 undef = .pointer (some ⟨g, 0, none⟩)) (hv : tmps.getD 7 undef = v) (hv' : tmps.getD 8 undef = v') (hg : w.heap[g]? = some (.cells cs 27)) (hs : cs.size = 10) :
    (results Tryd.f19 tmps).run Tryd.prog w = .ok (.tuple #[.agg cs, v, v']) w := by
  have hp' : tmps[6]?.getD undef = .pointer (some ⟨g, 0, none⟩) := by simpa using hp
  have h7 : tmps[7]?.getD undef = v := by simpa using hv
  have h8 : tmps[8]?.getD undef = v' := by simpa using hv'
  have hr := run_loadVar_row w g 27 27 cs (0, 0) _ hg Tryd.underlying27 rfl (by rw [hs]; exact pk_size)
  simp [results, Tryd.results19, hp', h7, h8, asAddr, hr, Result.andThen]
theorem zpk_cells : (#[.int .u8 0, .int .u16 0, .bool false, .bool false, .int .i64 0, .int .u8 0, .int .u8 0, .int .u32 0, .int .u32 0, .slice none 0 0] : Array Value).size = 10 := rfl
set_option maxRecDepth 100000 in
set_option maxHeartbeats 8000000 in
theorem take_bad (p : Pk) (A : Option Addr) (c : Nat) (now : Int) (B rb bm : Nat) (tm : Int) (G : List Hp) (w : World) (hrs : RS w B rb bm tm G) (ok : p.ok) (hr : RB w (fun _ => True) (.slice A p.b.length c) p.b) (hA : A = none → c = 0) (hl : p.b.length ≤ 100000) (h : p.right ≠ 0) :
    Calls Tryd.prog 19 #[.pointer (some ⟨rb, 0, none⟩), pkv p (.slice A p.b.length c), .int .u64 now] w fun e w' => ∃ t y, e = .returned (.tuple #[.agg #[.int .u8 0, .int .u16 0, .bool false, .bool false, .int .i64 0, .int .u8 0, .int .u8 0, .int .u32 0, .int .u32 0, .slice none 0 0], .bool false, .iface t y]) ∧ EC w' (fun j => w.heap.size ≤ j) [lay10, lay5] (.iface t y) p.right ∧ RS w' B rb bm tm G ∧ Ex (fun _ => False) w w' := by
  have HRS := Lib.hid hrs
  have HOK := Lib.hid ok
  have HR := Lib.hid hr
  have HA := Lib.hid hA
  have HL := Lib.hid hl
  clear hrs ok hr hA hl
  have HRT := fun w => right_no p A c w (by have := HL.out; omega) h
  obtain ⟨k, hk⟩ : ∃ k, p.right = k := ⟨_, rfl⟩
  rw [hk] at HRT ⊢
  clear hk h
  replace HRT := Lib.hid HRT
  obtain ⟨xtos, xid, xdf, xmf, xoff, xttl, xpr, xsrc, xdst, xb⟩ := p
  simp only at HR HL HRT

  show Calls Tryd.prog 19 #[.pointer (some ⟨rb, 0, none⟩), .agg #[.int .u8 xtos, .int .u16 xid, .bool xdf, .bool xmf, .int .i64 xoff, .int .u8 xttl, .int .u8 xpr, .int .u32 xsrc, .int .u32 xdst, .slice A xb.length c], .int .u64 now] w _
  go_enter Tryd.func19, Tryd.ntmps19
  go_upto_region 1 with fail
  have hx : Ex (fun _ => False) w (w.alloc (.cells #[.int .u8 xtos, .int .u16 xid, .bool xdf, .bool xmf, .int .i64 xoff, .int .u8 xttl, .int .u8 xpr, .int .u32 xsrc, .int .u32 xdst, .slice A xb.length c] 27)) := (Ex.refl _ w).alloc _
  have hb : (w.alloc (.cells #[.int .u8 xtos, .int .u16 xid, .bool xdf, .bool xmf, .int .i64 xoff, .int .u8 xttl, .int .u8 xpr, .int .u32 xsrc, .int .u32 xdst, .slice A xb.length c] 27)).heap[w.heap.size]? = some (.cells #[.int .u8 xtos, .int .u16 xid, .bool xdf, .bool xmf, .int .i64 xoff, .int .u8 xttl, .int .u8 xpr, .int .u32 xsrc, .int .u32 xdst, .slice A xb.length c] 27) := heap_alloc_new w _
  have hs1 : (w.alloc (.cells #[.int .u8 xtos, .int .u16 xid, .bool xdf, .bool xmf, .int .i64 xoff, .int .u8 xttl, .int .u8 xpr, .int .u32 xsrc, .int .u32 xdst, .slice A xb.length c] 27)).heap.size = w.heap.size + 1 := by simp
  obtain ⟨pb, hpb⟩ : ∃ pb, pb = w.heap.size := ⟨_, rfl⟩
  have hb_pb : w.heap.size ≤ pb := by omega
  rw [← hpb] at hb hs1 
  try simp only [← hpb]
  generalize w.alloc (.cells #[.int .u8 xtos, .int .u16 xid, .bool xdf, .bool xmf, .int .i64 xoff, .int .u8 xttl, .int .u8 xpr, .int .u32 xsrc, .int .u32 xdst, .slice A xb.length c] 27) = w1 at hx hb  hs1 ⊢
  try simp only [← hs1]
  clear hs1
  clear hpb
  have HX_w1 := Lib.hid hx
  clear hx
  have B_pb := Lib.hid hb
  clear hb
  have hx : Ex (fun _ => False) w1 (w1.alloc (.cells #[.int .u8 0, .int .u16 0, .bool false, .bool false, .int .i64 0, .int .u8 0, .int .u8 0, .int .u32 0, .int .u32 0, .slice none 0 0] 27)) := (Ex.refl _ w1).alloc _
  have hb : (w1.alloc (.cells #[.int .u8 0, .int .u16 0, .bool false, .bool false, .int .i64 0, .int .u8 0, .int .u8 0, .int .u32 0, .int .u32 0, .slice none 0 0] 27)).heap[w1.heap.size]? = some (.cells #[.int .u8 0, .int .u16 0, .bool false, .bool false, .int .i64 0, .int .u8 0, .int .u8 0, .int .u32 0, .int .u32 0, .slice none 0 0] 27) := heap_alloc_new w1 _
  obtain ⟨qb, hqb⟩ : ∃ qb, qb = w1.heap.size := ⟨_, rfl⟩
  have hb_qb : w1.heap.size ≤ qb := by omega
  rw [← hqb] at hb
  try simp only [← hqb]
  generalize w1.alloc (.cells #[.int .u8 0, .int .u16 0, .bool false, .bool false, .int .i64 0, .int .u8 0, .int .u8 0, .int .u32 0, .int .u32 0, .slice none 0 0] 27) = w2 at hx hb ⊢
  clear hqb
  have HX_w2 := Lib.hid hx
  clear hx
  have B_qb := Lib.hid hb
  clear hb
  have hpbl := row_lt (show w1.heap[pb]? = _ from B_pb.out)
  have ne_qb_pb : qb ≠ pb := by omega
  have HPB1 := Lib.hid hpbl
  clear hpbl
  have HQB2 := Lib.hid (row_lt B_qb.out)
  replace B_pb := Lib.hid ((HX_w2.out.block pb (row_lt B_pb.out) id).trans B_pb.out)
  have cpb0 := row_cell (k := 0) (v := .int .u8 xtos) B_pb.out rfl
  have cpb1 := row_cell (k := 1) (v := .int .u16 xid) B_pb.out rfl
  have cpb2 := row_cell (k := 2) (v := .bool xdf) B_pb.out rfl
  have cpb3 := row_cell (k := 3) (v := .bool xmf) B_pb.out rfl
  have cpb4 := row_cell (k := 4) (v := .int .i64 xoff) B_pb.out rfl
  have cpb5 := row_cell (k := 5) (v := .int .u8 xttl) B_pb.out rfl
  have cpb6 := row_cell (k := 6) (v := .int .u8 xpr) B_pb.out rfl
  have cpb7 := row_cell (k := 7) (v := .int .u32 xsrc) B_pb.out rfl
  have cpb8 := row_cell (k := 8) (v := .int .u32 xdst) B_pb.out rfl
  have cpb9 := row_cell (k := 9) (v := .slice A xb.length c) B_pb.out rfl
  go_wp2_with fail
  refine (HRT.out w2).mono ?_
  rintro e w3 ⟨t, y, rfl, he, hx⟩
  have HE0 := Lib.hid he
  clear he cpb0 cpb1 cpb2 cpb3 cpb4 cpb5 cpb6 cpb7 cpb8 cpb9
  have HX_w3 := Lib.hid hx
  clear hx
  go_wp2_with fail
  refine (wrong10_any _ _ _ _ w3 HE0.out).mono ?_
  rintro e w4 ⟨v, rfl, he, hx⟩
  have HE := Lib.hid he
  clear he
  have HX_w4 := Lib.hid hx
  clear hx
  have hz3 := HX_w3.out.size
  have hz2 := (HX_w1.out.trans HX_w2.out).size
  obtain ⟨t9, y9, rfl⟩ := HE.out.shape
  replace B_qb := Lib.hid (((HX_w3.out.trans HX_w4.out).block qb (row_lt B_qb.out) id).trans B_qb.out)
  have cqb0 := row_cell (k := 0) (v := .int .u8 0) B_qb.out rfl
  have cqb1 := row_cell (k := 1) (v := .int .u16 0) B_qb.out rfl
  have cqb2 := row_cell (k := 2) (v := .bool false) B_qb.out rfl
  have cqb3 := row_cell (k := 3) (v := .bool false) B_qb.out rfl
  have cqb4 := row_cell (k := 4) (v := .int .i64 0) B_qb.out rfl
  have cqb5 := row_cell (k := 5) (v := .int .u8 0) B_qb.out rfl
  have cqb6 := row_cell (k := 6) (v := .int .u8 0) B_qb.out rfl
  have cqb7 := row_cell (k := 7) (v := .int .u32 0) B_qb.out rfl
  have cqb8 := row_cell (k := 8) (v := .int .u32 0) B_qb.out rfl
  have cqb9 := row_cell (k := 9) (v := .slice none 0 0) B_qb.out rfl
  have fqb0 := row_frozen B_qb.out 0
  have fqb1 := row_frozen B_qb.out 1
  have fqb2 := row_frozen B_qb.out 2
  have fqb3 := row_frozen B_qb.out 3
  have fqb4 := row_frozen B_qb.out 4
  have fqb5 := row_frozen B_qb.out 5
  have fqb6 := row_frozen B_qb.out 6
  have fqb7 := row_frozen B_qb.out 7
  have fqb8 := row_frozen B_qb.out 8
  have fqb9 := row_frozen B_qb.out 9
  go_wp2_with fail
  (try simp only [Exit.inBlock, Exit.then])
  have r0 : (w4.setCell ⟨qb, 0, none⟩ (.int .u8 0)).heap[qb]? = some (.cells #[.int .u8 0, .int .u16 0, .bool false, .bool false, .int .i64 0, .int .u8 0, .int .u8 0, .int .u32 0, .int .u32 0, .slice none 0 0] 27) := row_set B_qb.out 0 (.int .u8 0)
  have r1 : ((w4.setCell ⟨qb, 0, none⟩ (.int .u8 0)).setCell ⟨qb, 1, none⟩ (.int .u16 0)).heap[qb]? = some (.cells #[.int .u8 0, .int .u16 0, .bool false, .bool false, .int .i64 0, .int .u8 0, .int .u8 0, .int .u32 0, .int .u32 0, .slice none 0 0] 27) := row_set r0 1 (.int .u16 0)
  clear r0
  have r2 : (((w4.setCell ⟨qb, 0, none⟩ (.int .u8 0)).setCell ⟨qb, 1, none⟩ (.int .u16 0)).setCell ⟨qb, 2, none⟩ (.bool false)).heap[qb]? = some (.cells #[.int .u8 0, .int .u16 0, .bool false, .bool false, .int .i64 0, .int .u8 0, .int .u8 0, .int .u32 0, .int .u32 0, .slice none 0 0] 27) := row_set r1 2 (.bool false)
  clear r1
  have r3 : ((((w4.setCell ⟨qb, 0, none⟩ (.int .u8 0)).setCell ⟨qb, 1, none⟩ (.int .u16 0)).setCell ⟨qb, 2, none⟩ (.bool false)).setCell ⟨qb, 3, none⟩ (.bool false)).heap[qb]? = some (.cells #[.int .u8 0, .int .u16 0, .bool false, .bool false, .int .i64 0, .int .u8 0, .int .u8 0, .int .u32 0, .int .u32 0, .slice none 0 0] 27) := row_set r2 3 (.bool false)
  clear r2
  have r4 : (((((w4.setCell ⟨qb, 0, none⟩ (.int .u8 0)).setCell ⟨qb, 1, none⟩ (.int .u16 0)).setCell ⟨qb, 2, none⟩ (.bool false)).setCell ⟨qb, 3, none⟩ (.bool false)).setCell ⟨qb, 4, none⟩ (.int .i64 0)).heap[qb]? = some (.cells #[.int .u8 0, .int .u16 0, .bool false, .bool false, .int .i64 0, .int .u8 0, .int .u8 0, .int .u32 0, .int .u32 0, .slice none 0 0] 27) := row_set r3 4 (.int .i64 0)
  clear r3
  have r5 : ((((((w4.setCell ⟨qb, 0, none⟩ (.int .u8 0)).setCell ⟨qb, 1, none⟩ (.int .u16 0)).setCell ⟨qb, 2, none⟩ (.bool false)).setCell ⟨qb, 3, none⟩ (.bool false)).setCell ⟨qb, 4, none⟩ (.int .i64 0)).setCell ⟨qb, 5, none⟩ (.int .u8 0)).heap[qb]? = some (.cells #[.int .u8 0, .int .u16 0, .bool false, .bool false, .int .i64 0, .int .u8 0, .int .u8 0, .int .u32 0, .int .u32 0, .slice none 0 0] 27) := row_set r4 5 (.int .u8 0)
  clear r4
  have r6 : (((((((w4.setCell ⟨qb, 0, none⟩ (.int .u8 0)).setCell ⟨qb, 1, none⟩ (.int .u16 0)).setCell ⟨qb, 2, none⟩ (.bool false)).setCell ⟨qb, 3, none⟩ (.bool false)).setCell ⟨qb, 4, none⟩ (.int .i64 0)).setCell ⟨qb, 5, none⟩ (.int .u8 0)).setCell ⟨qb, 6, none⟩ (.int .u8 0)).heap[qb]? = some (.cells #[.int .u8 0, .int .u16 0, .bool false, .bool false, .int .i64 0, .int .u8 0, .int .u8 0, .int .u32 0, .int .u32 0, .slice none 0 0] 27) := row_set r5 6 (.int .u8 0)
  clear r5
  have r7 : ((((((((w4.setCell ⟨qb, 0, none⟩ (.int .u8 0)).setCell ⟨qb, 1, none⟩ (.int .u16 0)).setCell ⟨qb, 2, none⟩ (.bool false)).setCell ⟨qb, 3, none⟩ (.bool false)).setCell ⟨qb, 4, none⟩ (.int .i64 0)).setCell ⟨qb, 5, none⟩ (.int .u8 0)).setCell ⟨qb, 6, none⟩ (.int .u8 0)).setCell ⟨qb, 7, none⟩ (.int .u32 0)).heap[qb]? = some (.cells #[.int .u8 0, .int .u16 0, .bool false, .bool false, .int .i64 0, .int .u8 0, .int .u8 0, .int .u32 0, .int .u32 0, .slice none 0 0] 27) := row_set r6 7 (.int .u32 0)
  clear r6
  have r8 : (((((((((w4.setCell ⟨qb, 0, none⟩ (.int .u8 0)).setCell ⟨qb, 1, none⟩ (.int .u16 0)).setCell ⟨qb, 2, none⟩ (.bool false)).setCell ⟨qb, 3, none⟩ (.bool false)).setCell ⟨qb, 4, none⟩ (.int .i64 0)).setCell ⟨qb, 5, none⟩ (.int .u8 0)).setCell ⟨qb, 6, none⟩ (.int .u8 0)).setCell ⟨qb, 7, none⟩ (.int .u32 0)).setCell ⟨qb, 8, none⟩ (.int .u32 0)).heap[qb]? = some (.cells #[.int .u8 0, .int .u16 0, .bool false, .bool false, .int .i64 0, .int .u8 0, .int .u8 0, .int .u32 0, .int .u32 0, .slice none 0 0] 27) := row_set r7 8 (.int .u32 0)
  clear r7
  have r9 : ((((((((((w4.setCell ⟨qb, 0, none⟩ (.int .u8 0)).setCell ⟨qb, 1, none⟩ (.int .u16 0)).setCell ⟨qb, 2, none⟩ (.bool false)).setCell ⟨qb, 3, none⟩ (.bool false)).setCell ⟨qb, 4, none⟩ (.int .i64 0)).setCell ⟨qb, 5, none⟩ (.int .u8 0)).setCell ⟨qb, 6, none⟩ (.int .u8 0)).setCell ⟨qb, 7, none⟩ (.int .u32 0)).setCell ⟨qb, 8, none⟩ (.int .u32 0)).setCell ⟨qb, 9, none⟩ (.slice none 0 0)).heap[qb]? = some (.cells #[.int .u8 0, .int .u16 0, .bool false, .bool false, .int .i64 0, .int .u8 0, .int .u8 0, .int .u32 0, .int .u32 0, .slice none 0 0] 27) := row_set r8 9 (.slice none 0 0)
  clear r8
  have hx : Ex (fun j => j = qb) w4 ((((((((((w4.setCell ⟨qb, 0, none⟩ (.int .u8 0)).setCell ⟨qb, 1, none⟩ (.int .u16 0)).setCell ⟨qb, 2, none⟩ (.bool false)).setCell ⟨qb, 3, none⟩ (.bool false)).setCell ⟨qb, 4, none⟩ (.int .i64 0)).setCell ⟨qb, 5, none⟩ (.int .u8 0)).setCell ⟨qb, 6, none⟩ (.int .u8 0)).setCell ⟨qb, 7, none⟩ (.int .u32 0)).setCell ⟨qb, 8, none⟩ (.int .u32 0)).setCell ⟨qb, 9, none⟩ (.slice none 0 0)) := (((((((((((Ex.refl (fun j => j = qb) w4).setCell (p := ⟨qb, 0, none⟩) (.inl rfl) (.int .u8 0)).setCell (p := ⟨qb, 1, none⟩) (.inl rfl) (.int .u16 0)).setCell (p := ⟨qb, 2, none⟩) (.inl rfl) (.bool false)).setCell (p := ⟨qb, 3, none⟩) (.inl rfl) (.bool false)).setCell (p := ⟨qb, 4, none⟩) (.inl rfl) (.int .i64 0)).setCell (p := ⟨qb, 5, none⟩) (.inl rfl) (.int .u8 0)).setCell (p := ⟨qb, 6, none⟩) (.inl rfl) (.int .u8 0)).setCell (p := ⟨qb, 7, none⟩) (.inl rfl) (.int .u32 0)).setCell (p := ⟨qb, 8, none⟩) (.inl rfl) (.int .u32 0)).setCell (p := ⟨qb, 9, none⟩) (.inl rfl) (.slice none 0 0))
  clear cqb0 cqb1 cqb2 cqb3 cqb4 cqb5 cqb6 cqb7 cqb8 cqb9 fqb0 fqb1 fqb2 fqb3 fqb4 fqb5 fqb6 fqb7 fqb8 fqb9
  generalize ((((((((((w4.setCell ⟨qb, 0, none⟩ (.int .u8 0)).setCell ⟨qb, 1, none⟩ (.int .u16 0)).setCell ⟨qb, 2, none⟩ (.bool false)).setCell ⟨qb, 3, none⟩ (.bool false)).setCell ⟨qb, 4, none⟩ (.int .i64 0)).setCell ⟨qb, 5, none⟩ (.int .u8 0)).setCell ⟨qb, 6, none⟩ (.int .u8 0)).setCell ⟨qb, 7, none⟩ (.int .u32 0)).setCell ⟨qb, 8, none⟩ (.int .u32 0)).setCell ⟨qb, 9, none⟩ (.slice none 0 0)) = wz at r9 hx ⊢
  replace B_qb := Lib.hid r9
  clear r9
  have HX_wz := Lib.hid hx
  clear hx
  refine bodyPost_ret (v := .tuple #[.agg #[.int .u8 0, .int .u16 0, .bool false, .bool false, .int .i64 0, .int .u8 0, .int .u8 0, .int .u32 0, .int .u32 0, .slice none 0 0], .bool false, .iface t9 y9]) ?_ rfl ⟨t9, y9, rfl, EC.up (EC.keepB HX_wz.out HQB2.out (EC.mono (fun j hj => by rcases hj with h | h <;> omega) HE.out)) hz2, (HRS.out.keep ((((HX_w1.out.trans HX_w2.out).trans HX_w3.out).trans HX_w4.out).andThen HX_wz.out (fun i hi e => by have := HX_w1.out.size; have := hb_qb; omega))), ((((HX_w1.out.trans HX_w2.out).trans HX_w3.out).trans HX_w4.out).andThen HX_wz.out (fun i hi e => by have := HX_w1.out.size; have := hb_qb; omega))⟩
  exact take_results _ qb _ #[.int .u8 0, .int .u16 0, .bool false, .bool false, .int .i64 0, .int .u8 0, .int .u8 0, .int .u32 0, .int .u32 0, .slice none 0 0] _ _ rfl rfl rfl B_qb.out rfl
set_option maxRecDepth 100000 in
set_option maxHeartbeats 8000000 in
theorem take_one (p : Pk) (A : Option Addr) (c : Nat) (now : Int) (B rb bm : Nat) (tm : Int) (G : List Hp) (w : World) (hrs : RS w B rb bm tm G) (ok : p.ok) (hr : RB w (fun _ => True) (.slice A p.b.length c) p.b) (hA : A = none → c = 0) (hl : p.b.length ≤ 100000) (h : p.right = 0) (h1 : p.off = 0) (h2 : p.mf = false) :
    Calls Tryd.prog 19 #[.pointer (some ⟨rb, 0, none⟩), pkv p (.slice A p.b.length c), .int .u64 now] w fun e w' => ∃ A' c', e = .returned (.tuple #[pkv p (.slice A' p.b.length c'), .bool true, .nilIface]) ∧ OB w' w.heap.size (.slice A' p.b.length c') p.b ∧ RS w' B rb bm tm G ∧ Ex (fun _ => False) w w' := by
  have HRS := Lib.hid hrs
  have HOK := Lib.hid ok
  have HR := Lib.hid hr
  have HA := Lib.hid hA
  have HL := Lib.hid hl
  clear hrs ok hr hA hl
  have HRT := Lib.hid (fun w => right_yes p A c w (by have := HL.out; omega) h)
  clear h
  obtain ⟨xtos, xid, xdf, xmf, xoff, xttl, xpr, xsrc, xdst, xb⟩ := p
  simp only at HR HL HRT
  have h1' : xoff = 0 := h1
  have h2' : xmf = false := h2
  subst h1' h2'
  clear h1 h2
  show Calls Tryd.prog 19 #[.pointer (some ⟨rb, 0, none⟩), .agg #[.int .u8 xtos, .int .u16 xid, .bool xdf, .bool false, .int .i64 0, .int .u8 xttl, .int .u8 xpr, .int .u32 xsrc, .int .u32 xdst, .slice A xb.length c], .int .u64 now] w _
  go_enter Tryd.func19, Tryd.ntmps19
  go_upto_region 1 with fail
  have hx : Ex (fun _ => False) w (w.alloc (.cells #[.int .u8 xtos, .int .u16 xid, .bool xdf, .bool false, .int .i64 0, .int .u8 xttl, .int .u8 xpr, .int .u32 xsrc, .int .u32 xdst, .slice A xb.length c] 27)) := (Ex.refl _ w).alloc _
  have hb : (w.alloc (.cells #[.int .u8 xtos, .int .u16 xid, .bool xdf, .bool false, .int .i64 0, .int .u8 xttl, .int .u8 xpr, .int .u32 xsrc, .int .u32 xdst, .slice A xb.length c] 27)).heap[w.heap.size]? = some (.cells #[.int .u8 xtos, .int .u16 xid, .bool xdf, .bool false, .int .i64 0, .int .u8 xttl, .int .u8 xpr, .int .u32 xsrc, .int .u32 xdst, .slice A xb.length c] 27) := heap_alloc_new w _
  have hs1 : (w.alloc (.cells #[.int .u8 xtos, .int .u16 xid, .bool xdf, .bool false, .int .i64 0, .int .u8 xttl, .int .u8 xpr, .int .u32 xsrc, .int .u32 xdst, .slice A xb.length c] 27)).heap.size = w.heap.size + 1 := by simp
  obtain ⟨pb, hpb⟩ : ∃ pb, pb = w.heap.size := ⟨_, rfl⟩
  have hb_pb : w.heap.size ≤ pb := by omega
  rw [← hpb] at hb hs1 
  try simp only [← hpb]
  generalize w.alloc (.cells #[.int .u8 xtos, .int .u16 xid, .bool xdf, .bool false, .int .i64 0, .int .u8 xttl, .int .u8 xpr, .int .u32 xsrc, .int .u32 xdst, .slice A xb.length c] 27) = w1 at hx hb  hs1 ⊢
  try simp only [← hs1]
  clear hs1
  clear hpb
  have HX_w1 := Lib.hid hx
  clear hx
  have B_pb := Lib.hid hb
  clear hb
  have hx : Ex (fun _ => False) w1 (w1.alloc (.cells #[.int .u8 0, .int .u16 0, .bool false, .bool false, .int .i64 0, .int .u8 0, .int .u8 0, .int .u32 0, .int .u32 0, .slice none 0 0] 27)) := (Ex.refl _ w1).alloc _
  have hb : (w1.alloc (.cells #[.int .u8 0, .int .u16 0, .bool false, .bool false, .int .i64 0, .int .u8 0, .int .u8 0, .int .u32 0, .int .u32 0, .slice none 0 0] 27)).heap[w1.heap.size]? = some (.cells #[.int .u8 0, .int .u16 0, .bool false, .bool false, .int .i64 0, .int .u8 0, .int .u8 0, .int .u32 0, .int .u32 0, .slice none 0 0] 27) := heap_alloc_new w1 _
  obtain ⟨qb, hqb⟩ : ∃ qb, qb = w1.heap.size := ⟨_, rfl⟩
  have hb_qb : w1.heap.size ≤ qb := by omega
  rw [← hqb] at hb
  try simp only [← hqb]
  generalize w1.alloc (.cells #[.int .u8 0, .int .u16 0, .bool false, .bool false, .int .i64 0, .int .u8 0, .int .u8 0, .int .u32 0, .int .u32 0, .slice none 0 0] 27) = w2 at hx hb ⊢
  clear hqb
  have HX_w2 := Lib.hid hx
  clear hx
  have B_qb := Lib.hid hb
  clear hb
  have hpbl := row_lt (show w1.heap[pb]? = _ from B_pb.out)
  have ne_qb_pb : qb ≠ pb := by omega
  have HPB1 := Lib.hid hpbl
  clear hpbl
  have HQB2 := Lib.hid (row_lt B_qb.out)
  replace B_pb := Lib.hid ((HX_w2.out.block pb (row_lt B_pb.out) id).trans B_pb.out)
  have cpb0 := row_cell (k := 0) (v := .int .u8 xtos) B_pb.out rfl
  have cpb1 := row_cell (k := 1) (v := .int .u16 xid) B_pb.out rfl
  have cpb2 := row_cell (k := 2) (v := .bool xdf) B_pb.out rfl
  have cpb3 := row_cell (k := 3) (v := .bool false) B_pb.out rfl
  have cpb4 := row_cell (k := 4) (v := .int .i64 0) B_pb.out rfl
  have cpb5 := row_cell (k := 5) (v := .int .u8 xttl) B_pb.out rfl
  have cpb6 := row_cell (k := 6) (v := .int .u8 xpr) B_pb.out rfl
  have cpb7 := row_cell (k := 7) (v := .int .u32 xsrc) B_pb.out rfl
  have cpb8 := row_cell (k := 8) (v := .int .u32 xdst) B_pb.out rfl
  have cpb9 := row_cell (k := 9) (v := .slice A xb.length c) B_pb.out rfl
  go_wp2_with fail
  refine (HRT.out w2).mono ?_
  rintro e w3 ⟨rfl, hx⟩
  clear cpb0 cpb1 cpb2 cpb3 cpb4 cpb5 cpb6 cpb7 cpb8 cpb9
  have HX_w3 := Lib.hid hx
  clear hx
  replace B_pb := Lib.hid ((HX_w3.out.block pb (row_lt B_pb.out) id).trans B_pb.out)
  have cpb0 := row_cell (k := 0) (v := .int .u8 xtos) B_pb.out rfl
  have cpb1 := row_cell (k := 1) (v := .int .u16 xid) B_pb.out rfl
  have cpb2 := row_cell (k := 2) (v := .bool xdf) B_pb.out rfl
  have cpb3 := row_cell (k := 3) (v := .bool false) B_pb.out rfl
  have cpb4 := row_cell (k := 4) (v := .int .i64 0) B_pb.out rfl
  have cpb5 := row_cell (k := 5) (v := .int .u8 xttl) B_pb.out rfl
  have cpb6 := row_cell (k := 6) (v := .int .u8 xpr) B_pb.out rfl
  have cpb7 := row_cell (k := 7) (v := .int .u32 xsrc) B_pb.out rfl
  have cpb8 := row_cell (k := 8) (v := .int .u32 xdst) B_pb.out rfl
  have cpb9 := row_cell (k := 9) (v := .slice A xb.length c) B_pb.out rfl
  go_wp2_with fail
  refine (own_any (fun _ => True) (⟨xtos, xid, xdf, false, 0, xttl, xpr, xsrc, xdst, xb⟩ : Pk) A c w3 (RB.keep HR.out ((HX_w1.out.trans HX_w2.out).trans HX_w3.out) (fun _ _ _ => id)) HA.out (by have := HL.out; show xb.length ≤ _; omega)).mono ?_
  rintro e w4 ⟨A1, c1, rfl, ho, hx⟩
  have hv : pkv (⟨xtos, xid, xdf, false, 0, xttl, xpr, xsrc, xdst, xb⟩ : Pk) (.slice A1 (⟨xtos, xid, xdf, false, 0, xttl, xpr, xsrc, xdst, xb⟩ : Pk).b.length c1) = .agg #[.int .u8 xtos, .int .u16 xid, .bool xdf, .bool false, .int .i64 0, .int .u8 xttl, .int .u8 xpr, .int .u32 xsrc, .int .u32 xdst, .slice A1 xb.length c1] := rfl
  rw [hv]
  have HO := Lib.hid (show OB w4 w3.heap.size (.slice A1 xb.length c1) xb from ho)
  clear hv ho cpb0 cpb1 cpb2 cpb3 cpb4 cpb5 cpb6 cpb7 cpb8 cpb9
  have HX_w4 := Lib.hid hx
  clear hx
  have hz3 := HX_w3.out.size
  have hz2 := (HX_w1.out.trans HX_w2.out).size
  have hz03 := ((HX_w1.out.trans HX_w2.out).trans HX_w3.out).size
  have hq3 : qb < w3.heap.size := by have := HQB2.out; omega
  replace B_qb := Lib.hid (((HX_w3.out.trans HX_w4.out).block qb (row_lt B_qb.out) id).trans B_qb.out)
  have cqb0 := row_cell (k := 0) (v := .int .u8 0) B_qb.out rfl
  have cqb1 := row_cell (k := 1) (v := .int .u16 0) B_qb.out rfl
  have cqb2 := row_cell (k := 2) (v := .bool false) B_qb.out rfl
  have cqb3 := row_cell (k := 3) (v := .bool false) B_qb.out rfl
  have cqb4 := row_cell (k := 4) (v := .int .i64 0) B_qb.out rfl
  have cqb5 := row_cell (k := 5) (v := .int .u8 0) B_qb.out rfl
  have cqb6 := row_cell (k := 6) (v := .int .u8 0) B_qb.out rfl
  have cqb7 := row_cell (k := 7) (v := .int .u32 0) B_qb.out rfl
  have cqb8 := row_cell (k := 8) (v := .int .u32 0) B_qb.out rfl
  have cqb9 := row_cell (k := 9) (v := .slice none 0 0) B_qb.out rfl
  have fqb0 := row_frozen B_qb.out 0
  have fqb1 := row_frozen B_qb.out 1
  have fqb2 := row_frozen B_qb.out 2
  have fqb3 := row_frozen B_qb.out 3
  have fqb4 := row_frozen B_qb.out 4
  have fqb5 := row_frozen B_qb.out 5
  have fqb6 := row_frozen B_qb.out 6
  have fqb7 := row_frozen B_qb.out 7
  have fqb8 := row_frozen B_qb.out 8
  have fqb9 := row_frozen B_qb.out 9
  go_wp2_with fail
  (try simp only [Exit.inBlock, Exit.then])
  have r0 : (w4.setCell ⟨qb, 0, none⟩ (.int .u8 xtos)).heap[qb]? = some (.cells #[.int .u8 xtos, .int .u16 0, .bool false, .bool false, .int .i64 0, .int .u8 0, .int .u8 0, .int .u32 0, .int .u32 0, .slice none 0 0] 27) := row_set B_qb.out 0 (.int .u8 xtos)
  have r1 : ((w4.setCell ⟨qb, 0, none⟩ (.int .u8 xtos)).setCell ⟨qb, 1, none⟩ (.int .u16 xid)).heap[qb]? = some (.cells #[.int .u8 xtos, .int .u16 xid, .bool false, .bool false, .int .i64 0, .int .u8 0, .int .u8 0, .int .u32 0, .int .u32 0, .slice none 0 0] 27) := row_set r0 1 (.int .u16 xid)
  clear r0
  have r2 : (((w4.setCell ⟨qb, 0, none⟩ (.int .u8 xtos)).setCell ⟨qb, 1, none⟩ (.int .u16 xid)).setCell ⟨qb, 2, none⟩ (.bool xdf)).heap[qb]? = some (.cells #[.int .u8 xtos, .int .u16 xid, .bool xdf, .bool false, .int .i64 0, .int .u8 0, .int .u8 0, .int .u32 0, .int .u32 0, .slice none 0 0] 27) := row_set r1 2 (.bool xdf)
  clear r1
  have r3 : ((((w4.setCell ⟨qb, 0, none⟩ (.int .u8 xtos)).setCell ⟨qb, 1, none⟩ (.int .u16 xid)).setCell ⟨qb, 2, none⟩ (.bool xdf)).setCell ⟨qb, 3, none⟩ (.bool false)).heap[qb]? = some (.cells #[.int .u8 xtos, .int .u16 xid, .bool xdf, .bool false, .int .i64 0, .int .u8 0, .int .u8 0, .int .u32 0, .int .u32 0, .slice none 0 0] 27) := row_set r2 3 (.bool false)
  clear r2
  have r4 : (((((w4.setCell ⟨qb, 0, none⟩ (.int .u8 xtos)).setCell ⟨qb, 1, none⟩ (.int .u16 xid)).setCell ⟨qb, 2, none⟩ (.bool xdf)).setCell ⟨qb, 3, none⟩ (.bool false)).setCell ⟨qb, 4, none⟩ (.int .i64 0)).heap[qb]? = some (.cells #[.int .u8 xtos, .int .u16 xid, .bool xdf, .bool false, .int .i64 0, .int .u8 0, .int .u8 0, .int .u32 0, .int .u32 0, .slice none 0 0] 27) := row_set r3 4 (.int .i64 0)
  clear r3
  have r5 : ((((((w4.setCell ⟨qb, 0, none⟩ (.int .u8 xtos)).setCell ⟨qb, 1, none⟩ (.int .u16 xid)).setCell ⟨qb, 2, none⟩ (.bool xdf)).setCell ⟨qb, 3, none⟩ (.bool false)).setCell ⟨qb, 4, none⟩ (.int .i64 0)).setCell ⟨qb, 5, none⟩ (.int .u8 xttl)).heap[qb]? = some (.cells #[.int .u8 xtos, .int .u16 xid, .bool xdf, .bool false, .int .i64 0, .int .u8 xttl, .int .u8 0, .int .u32 0, .int .u32 0, .slice none 0 0] 27) := row_set r4 5 (.int .u8 xttl)
  clear r4
  have r6 : (((((((w4.setCell ⟨qb, 0, none⟩ (.int .u8 xtos)).setCell ⟨qb, 1, none⟩ (.int .u16 xid)).setCell ⟨qb, 2, none⟩ (.bool xdf)).setCell ⟨qb, 3, none⟩ (.bool false)).setCell ⟨qb, 4, none⟩ (.int .i64 0)).setCell ⟨qb, 5, none⟩ (.int .u8 xttl)).setCell ⟨qb, 6, none⟩ (.int .u8 xpr)).heap[qb]? = some (.cells #[.int .u8 xtos, .int .u16 xid, .bool xdf, .bool false, .int .i64 0, .int .u8 xttl, .int .u8 xpr, .int .u32 0, .int .u32 0, .slice none 0 0] 27) := row_set r5 6 (.int .u8 xpr)
  clear r5
  have r7 : ((((((((w4.setCell ⟨qb, 0, none⟩ (.int .u8 xtos)).setCell ⟨qb, 1, none⟩ (.int .u16 xid)).setCell ⟨qb, 2, none⟩ (.bool xdf)).setCell ⟨qb, 3, none⟩ (.bool false)).setCell ⟨qb, 4, none⟩ (.int .i64 0)).setCell ⟨qb, 5, none⟩ (.int .u8 xttl)).setCell ⟨qb, 6, none⟩ (.int .u8 xpr)).setCell ⟨qb, 7, none⟩ (.int .u32 xsrc)).heap[qb]? = some (.cells #[.int .u8 xtos, .int .u16 xid, .bool xdf, .bool false, .int .i64 0, .int .u8 xttl, .int .u8 xpr, .int .u32 xsrc, .int .u32 0, .slice none 0 0] 27) := row_set r6 7 (.int .u32 xsrc)
  clear r6
  have r8 : (((((((((w4.setCell ⟨qb, 0, none⟩ (.int .u8 xtos)).setCell ⟨qb, 1, none⟩ (.int .u16 xid)).setCell ⟨qb, 2, none⟩ (.bool xdf)).setCell ⟨qb, 3, none⟩ (.bool false)).setCell ⟨qb, 4, none⟩ (.int .i64 0)).setCell ⟨qb, 5, none⟩ (.int .u8 xttl)).setCell ⟨qb, 6, none⟩ (.int .u8 xpr)).setCell ⟨qb, 7, none⟩ (.int .u32 xsrc)).setCell ⟨qb, 8, none⟩ (.int .u32 xdst)).heap[qb]? = some (.cells #[.int .u8 xtos, .int .u16 xid, .bool xdf, .bool false, .int .i64 0, .int .u8 xttl, .int .u8 xpr, .int .u32 xsrc, .int .u32 xdst, .slice none 0 0] 27) := row_set r7 8 (.int .u32 xdst)
  clear r7
  have r9 : ((((((((((w4.setCell ⟨qb, 0, none⟩ (.int .u8 xtos)).setCell ⟨qb, 1, none⟩ (.int .u16 xid)).setCell ⟨qb, 2, none⟩ (.bool xdf)).setCell ⟨qb, 3, none⟩ (.bool false)).setCell ⟨qb, 4, none⟩ (.int .i64 0)).setCell ⟨qb, 5, none⟩ (.int .u8 xttl)).setCell ⟨qb, 6, none⟩ (.int .u8 xpr)).setCell ⟨qb, 7, none⟩ (.int .u32 xsrc)).setCell ⟨qb, 8, none⟩ (.int .u32 xdst)).setCell ⟨qb, 9, none⟩ (.slice A1 xb.length c1)).heap[qb]? = some (.cells #[.int .u8 xtos, .int .u16 xid, .bool xdf, .bool false, .int .i64 0, .int .u8 xttl, .int .u8 xpr, .int .u32 xsrc, .int .u32 xdst, .slice A1 xb.length c1] 27) := row_set r8 9 (.slice A1 xb.length c1)
  clear r8
  have hx : Ex (fun j => j = qb) w4 ((((((((((w4.setCell ⟨qb, 0, none⟩ (.int .u8 xtos)).setCell ⟨qb, 1, none⟩ (.int .u16 xid)).setCell ⟨qb, 2, none⟩ (.bool xdf)).setCell ⟨qb, 3, none⟩ (.bool false)).setCell ⟨qb, 4, none⟩ (.int .i64 0)).setCell ⟨qb, 5, none⟩ (.int .u8 xttl)).setCell ⟨qb, 6, none⟩ (.int .u8 xpr)).setCell ⟨qb, 7, none⟩ (.int .u32 xsrc)).setCell ⟨qb, 8, none⟩ (.int .u32 xdst)).setCell ⟨qb, 9, none⟩ (.slice A1 xb.length c1)) := (((((((((((Ex.refl (fun j => j = qb) w4).setCell (p := ⟨qb, 0, none⟩) (.inl rfl) (.int .u8 xtos)).setCell (p := ⟨qb, 1, none⟩) (.inl rfl) (.int .u16 xid)).setCell (p := ⟨qb, 2, none⟩) (.inl rfl) (.bool xdf)).setCell (p := ⟨qb, 3, none⟩) (.inl rfl) (.bool false)).setCell (p := ⟨qb, 4, none⟩) (.inl rfl) (.int .i64 0)).setCell (p := ⟨qb, 5, none⟩) (.inl rfl) (.int .u8 xttl)).setCell (p := ⟨qb, 6, none⟩) (.inl rfl) (.int .u8 xpr)).setCell (p := ⟨qb, 7, none⟩) (.inl rfl) (.int .u32 xsrc)).setCell (p := ⟨qb, 8, none⟩) (.inl rfl) (.int .u32 xdst)).setCell (p := ⟨qb, 9, none⟩) (.inl rfl) (.slice A1 xb.length c1))
  clear cqb0 cqb1 cqb2 cqb3 cqb4 cqb5 cqb6 cqb7 cqb8 cqb9 fqb0 fqb1 fqb2 fqb3 fqb4 fqb5 fqb6 fqb7 fqb8 fqb9
  generalize ((((((((((w4.setCell ⟨qb, 0, none⟩ (.int .u8 xtos)).setCell ⟨qb, 1, none⟩ (.int .u16 xid)).setCell ⟨qb, 2, none⟩ (.bool xdf)).setCell ⟨qb, 3, none⟩ (.bool false)).setCell ⟨qb, 4, none⟩ (.int .i64 0)).setCell ⟨qb, 5, none⟩ (.int .u8 xttl)).setCell ⟨qb, 6, none⟩ (.int .u8 xpr)).setCell ⟨qb, 7, none⟩ (.int .u32 xsrc)).setCell ⟨qb, 8, none⟩ (.int .u32 xdst)).setCell ⟨qb, 9, none⟩ (.slice A1 xb.length c1)) = wz at r9 hx ⊢
  replace B_qb := Lib.hid r9
  clear r9
  have HX_wz := Lib.hid hx
  clear hx
  refine bodyPost_ret (v := .tuple #[.agg #[.int .u8 xtos, .int .u16 xid, .bool xdf, .bool false, .int .i64 0, .int .u8 xttl, .int .u8 xpr, .int .u32 xsrc, .int .u32 xdst, .slice A1 xb.length c1], .bool true, .nilIface]) ?_ rfl ⟨A1, c1, rfl, (HO.out.keepB HX_wz.out hq3).mono hz03, (HRS.out.keep ((((HX_w1.out.trans HX_w2.out).trans HX_w3.out).trans HX_w4.out).andThen HX_wz.out (fun i hi e => by have := HX_w1.out.size; have := hb_qb; omega))), ((((HX_w1.out.trans HX_w2.out).trans HX_w3.out).trans HX_w4.out).andThen HX_wz.out (fun i hi e => by have := HX_w1.out.size; have := hb_qb; omega))⟩
  exact take_results _ qb _ #[.int .u8 xtos, .int .u16 xid, .bool xdf, .bool false, .int .i64 0, .int .u8 xttl, .int .u8 xpr, .int .u32 xsrc, .int .u32 xdst, .slice A1 xb.length c1] _ _ rfl rfl rfl B_qb.out rfl
end Go.Proofs.YtabjihchcmjdmaaDoor
/-
  The contract of (*frag.Reass).Take: no room. By an AI agent.
-/
namespace Go.Proofs.YtabjihchcmjdmaaDoor
open Go.RowKit

/-- the heap of a key -/
def hpOf (G : List Hp) (p : Pk) : Option Nat := lk (G.map fun h => (h.k, h.hb)) (kb p)
set_option maxRecDepth 100000 in
set_option maxHeartbeats 8000000 in
theorem take_full (p : Pk) (A : Option Addr) (c : Nat) (now : Int) (B rb bm : Nat) (tm : Int) (G : List Hp) (w : World) (hrs : RS w B rb bm tm G) (ok : p.ok) (hr : RB w (fun _ => True) (.slice A p.b.length c) p.b) (hA : A = none → c = 0) (hl : p.b.length ≤ 100000) (h : p.right = 0) (h1 : ¬ (p.off = 0 ∧ p.mf = false)) (hn : hpOf G p = none) (h8 : 8 ≤ G.length) :
    Calls Tryd.prog 19 #[.pointer (some ⟨rb, 0, none⟩), pkv p (.slice A p.b.length c), .int .u64 now] w fun e w' => ∃ t y, e = .returned (.tuple #[.agg #[.int .u8 0, .int .u16 0, .bool false, .bool false, .int .i64 0, .int .u8 0, .int .u8 0, .int .u32 0, .int .u32 0, .slice none 0 0], .bool false, .iface t y]) ∧ EC w' (fun j => w.heap.size ≤ j) [lay10] (.iface t y) 5 ∧ RS w' B rb bm tm G ∧ Ex (fun _ => False) w w' := by
  have HRS := Lib.hid hrs
  have HOK := Lib.hid ok
  have HR := Lib.hid hr
  have HA := Lib.hid hA
  have HL := Lib.hid hl
  clear hrs ok hr hA hl
  have HRT := Lib.hid (fun w => right_yes p A c w (by have := HL.out; omega) h)
  have HNP := Lib.hid h1
  have HNO := Lib.hid hn
  have h8i := Lib.hid (show (8 : Int) ≤ (G.length : Int) by omega)
  clear h h1 hn h8
  obtain ⟨xtos, xid, xdf, xmf, xoff, xttl, xpr, xsrc, xdst, xb⟩ := p
  simp only at HR HL HRT

  show Calls Tryd.prog 19 #[.pointer (some ⟨rb, 0, none⟩), .agg #[.int .u8 xtos, .int .u16 xid, .bool xdf, .bool xmf, .int .i64 xoff, .int .u8 xttl, .int .u8 xpr, .int .u32 xsrc, .int .u32 xdst, .slice A xb.length c], .int .u64 now] w _
  go_enter Tryd.func19, Tryd.ntmps19
  go_upto_region 1 with fail
  have hx : Ex (fun _ => False) w (w.alloc (.cells #[.int .u8 xtos, .int .u16 xid, .bool xdf, .bool xmf, .int .i64 xoff, .int .u8 xttl, .int .u8 xpr, .int .u32 xsrc, .int .u32 xdst, .slice A xb.length c] 27)) := (Ex.refl _ w).alloc _
  have hb : (w.alloc (.cells #[.int .u8 xtos, .int .u16 xid, .bool xdf, .bool xmf, .int .i64 xoff, .int .u8 xttl, .int .u8 xpr, .int .u32 xsrc, .int .u32 xdst, .slice A xb.length c] 27)).heap[w.heap.size]? = some (.cells #[.int .u8 xtos, .int .u16 xid, .bool xdf, .bool xmf, .int .i64 xoff, .int .u8 xttl, .int .u8 xpr, .int .u32 xsrc, .int .u32 xdst, .slice A xb.length c] 27) := heap_alloc_new w _
  have hs1 : (w.alloc (.cells #[.int .u8 xtos, .int .u16 xid, .bool xdf, .bool xmf, .int .i64 xoff, .int .u8 xttl, .int .u8 xpr, .int .u32 xsrc, .int .u32 xdst, .slice A xb.length c] 27)).heap.size = w.heap.size + 1 := by simp
  obtain ⟨pb, hpb⟩ : ∃ pb, pb = w.heap.size := ⟨_, rfl⟩
  have hb_pb : w.heap.size ≤ pb := by omega
  rw [← hpb] at hb hs1 
  try simp only [← hpb]
  generalize w.alloc (.cells #[.int .u8 xtos, .int .u16 xid, .bool xdf, .bool xmf, .int .i64 xoff, .int .u8 xttl, .int .u8 xpr, .int .u32 xsrc, .int .u32 xdst, .slice A xb.length c] 27) = w1 at hx hb  hs1 ⊢
  try simp only [← hs1]
  clear hs1
  clear hpb
  have HX_w1 := Lib.hid hx
  clear hx
  have B_pb := Lib.hid hb
  clear hb
  have hx : Ex (fun _ => False) w1 (w1.alloc (.cells #[.int .u8 0, .int .u16 0, .bool false, .bool false, .int .i64 0, .int .u8 0, .int .u8 0, .int .u32 0, .int .u32 0, .slice none 0 0] 27)) := (Ex.refl _ w1).alloc _
  have hb : (w1.alloc (.cells #[.int .u8 0, .int .u16 0, .bool false, .bool false, .int .i64 0, .int .u8 0, .int .u8 0, .int .u32 0, .int .u32 0, .slice none 0 0] 27)).heap[w1.heap.size]? = some (.cells #[.int .u8 0, .int .u16 0, .bool false, .bool false, .int .i64 0, .int .u8 0, .int .u8 0, .int .u32 0, .int .u32 0, .slice none 0 0] 27) := heap_alloc_new w1 _
  obtain ⟨qb, hqb⟩ : ∃ qb, qb = w1.heap.size := ⟨_, rfl⟩
  have hb_qb : w1.heap.size ≤ qb := by omega
  rw [← hqb] at hb
  try simp only [← hqb]
  generalize w1.alloc (.cells #[.int .u8 0, .int .u16 0, .bool false, .bool false, .int .i64 0, .int .u8 0, .int .u8 0, .int .u32 0, .int .u32 0, .slice none 0 0] 27) = w2 at hx hb ⊢
  clear hqb
  have HX_w2 := Lib.hid hx
  clear hx
  have B_qb := Lib.hid hb
  clear hb
  have hpbl := row_lt (show w1.heap[pb]? = _ from B_pb.out)
  have ne_qb_pb : qb ≠ pb := by omega
  have HPB1 := Lib.hid hpbl
  clear hpbl
  have HQB2 := Lib.hid (row_lt B_qb.out)
  replace B_pb := Lib.hid ((HX_w2.out.block pb (row_lt B_pb.out) id).trans B_pb.out)
  have cpb0 := row_cell (k := 0) (v := .int .u8 xtos) B_pb.out rfl
  have cpb1 := row_cell (k := 1) (v := .int .u16 xid) B_pb.out rfl
  have cpb2 := row_cell (k := 2) (v := .bool xdf) B_pb.out rfl
  have cpb3 := row_cell (k := 3) (v := .bool xmf) B_pb.out rfl
  have cpb4 := row_cell (k := 4) (v := .int .i64 xoff) B_pb.out rfl
  have cpb5 := row_cell (k := 5) (v := .int .u8 xttl) B_pb.out rfl
  have cpb6 := row_cell (k := 6) (v := .int .u8 xpr) B_pb.out rfl
  have cpb7 := row_cell (k := 7) (v := .int .u32 xsrc) B_pb.out rfl
  have cpb8 := row_cell (k := 8) (v := .int .u32 xdst) B_pb.out rfl
  have cpb9 := row_cell (k := 9) (v := .slice A xb.length c) B_pb.out rfl
  go_wp2_with fail
  refine (HRT.out w2).mono ?_
  rintro e w3 ⟨rfl, hx⟩
  clear cpb0 cpb1 cpb2 cpb3 cpb4 cpb5 cpb6 cpb7 cpb8 cpb9
  have HX_w3 := Lib.hid hx
  clear hx
  replace B_pb := Lib.hid ((HX_w3.out.block pb (row_lt B_pb.out) id).trans B_pb.out)
  have cpb3 := row_cell (k := 3) (v := .bool xmf) B_pb.out rfl
  have cpb4 := row_cell (k := 4) (v := .int .i64 xoff) B_pb.out rfl
  go_upto_region 4 with fail
  go_cut [28] (fun x wx => x = .bool false ∧ wx = w3)
  case first =>
    by_cases h0 : xoff = 0
    · have hm : xmf = true := by
        cases hq : xmf
        · exact absurd ⟨h0, hq⟩ HNP.out
        · rfl
      rw [h0] at cpb4
      rw [hm] at cpb3
      clear h0 hm
      go_wp2_with fail
      go_meet
      exact ⟨rfl, rfl⟩
    · have e0 : (xoff == 0) = false := beq_eq_false_iff_ne.2 h0
      go_wp2_with fail
      go_meet
      exact ⟨rfl, rfl⟩
  case rest =>
    obtain ⟨rfl, hwc⟩ := hcut
    have hwc2 := hwc.symm
    clear hwc
    subst hwc2
    clear cpb3 cpb4
    have cpb1 := row_cell (k := 1) (v := .int .u16 xid) B_pb.out rfl
    have cpb6 := row_cell (k := 6) (v := .int .u8 xpr) B_pb.out rfl
    have cpb7 := row_cell (k := 7) (v := .int .u32 xsrc) B_pb.out rfl
    have cpb8 := row_cell (k := 8) (v := .int .u32 xdst) B_pb.out rfl
    go_upto_region 7 with fail
    clear cpb1 cpb6 cpb7 cpb8
    have hx : Ex (fun _ => False) w3 (w3.alloc (.cells #[.int .u32 xsrc, .int .u32 xdst, .int .u8 xpr, .int .u16 xid] 78)) := (Ex.refl _ w3).alloc _
    have hb : (w3.alloc (.cells #[.int .u32 xsrc, .int .u32 xdst, .int .u8 xpr, .int .u16 xid] 78)).heap[w3.heap.size]? = some (.cells #[.int .u32 xsrc, .int .u32 xdst, .int .u8 xpr, .int .u16 xid] 78) := heap_alloc_new w3 _
    obtain ⟨kx, hkx⟩ : ∃ kx, kx = w3.heap.size := ⟨_, rfl⟩
    have hb_kx : w3.heap.size ≤ kx := by omega
    rw [← hkx] at hb
    try simp only [← hkx]
    generalize w3.alloc (.cells #[.int .u32 xsrc, .int .u32 xdst, .int .u8 xpr, .int .u16 xid] 78) = w4 at hx hb ⊢
    clear hkx
    have HX_w4 := Lib.hid hx
    clear hx
    have B_kx := Lib.hid hb
    clear hb
    have hrs4 := (HRS.out.keep (((HX_w1.out.trans HX_w2.out).trans HX_w3.out).trans HX_w4.out))
    have crb1 := row_cell (k := 1) (v := .map (some bm)) hrs4.cell rfl
    have hlook : ∀ W, Ex (fun _ => False) w4 W → (Instr.lookup 74 (.map (some bm)) (.agg #[.int .u32 xsrc, .int .u32 xdst, .int .u8 xpr, .int .u16 xid]) false).run Tryd.prog W = .ok (.pointer none) W := by
      intro W hx
      have h := (hrs4.map.keep hx id).look (⟨xtos, xid, xdf, xmf, xoff, xttl, xpr, xsrc, xdst, xb⟩ : Pk) HOK.out
      rw [show lk _ _ = _ from HNO.out] at h
      exact h
    have HLOOK := Lib.hid hlook
    have HRS4 := Lib.hid hrs4
    clear hlook hrs4
    have ckx0 := row_cell (k := 0) (v := .int .u32 xsrc) B_kx.out rfl
    have ckx1 := row_cell (k := 1) (v := .int .u32 xdst) B_kx.out rfl
    have ckx2 := row_cell (k := 2) (v := .int .u8 xpr) B_kx.out rfl
    have ckx3 := row_cell (k := 3) (v := .int .u16 xid) B_kx.out rfl
    have hS0 : Ex (fun _ => False) w4 w4.drew := (Ex.refl _ w4).drew
    refine wp_region_held_drew (S := fun W => Ex (fun _ => False) w4 W) (by kernel_rfl) hS0 (fun _ => ?_)
    refine wpAnyH_take (i := 0) (oi := { dst := some 40, op := Go.Op.move (Go.Operand.tmp 0), type := 45, pos := "frag.go:125", after := #[], guard := none }) (v := ?v1) rfl (by kernel_rfl) (by kernel_rfl) (by kernel_rfl) (fun _ _ _ h => h) (Or.inl ⟨by rfl, ?hy1⟩) (by assumption) ?rest1
    case hy1 => (intro w hSw; (try dsimp only at hSw); have eckx0 := hSw.cell ckx0 id; have eckx1 := hSw.cell ckx1 id; have eckx2 := hSw.cell ckx2 id; have eckx3 := hSw.cell ckx3 id; have ecrb1 := hSw.cell crb1 id; have el := HLOOK.out w hSw; go_simp <;> with_reducible rfl)
    try simp only [Act.put, List.setIfInBounds_toArray, List.set_cons_zero, List.set_cons_succ]
    refine wpAnyH_take (i := 1) (oi := { dst := some 41, op := Go.Op.nilCheck (Go.Operand.tmp 40), type := 0, pos := "frag.go:125", after := #[{ on := 0, ground := Go.Ground.data }], guard := none }) (v := ?v2) rfl (by kernel_rfl) (by kernel_rfl) (by kernel_rfl) (fun _ _ _ h => h) (Or.inl ⟨by rfl, ?hy2⟩) (by assumption) ?rest2
    case hy2 => (intro w hSw; (try dsimp only at hSw); have eckx0 := hSw.cell ckx0 id; have eckx1 := hSw.cell ckx1 id; have eckx2 := hSw.cell ckx2 id; have eckx3 := hSw.cell ckx3 id; have ecrb1 := hSw.cell crb1 id; have el := HLOOK.out w hSw; go_simp <;> with_reducible rfl)
    try simp only [Act.put, List.setIfInBounds_toArray, List.set_cons_zero, List.set_cons_succ]
    refine wpAnyH_take (i := 2) (oi := { dst := some 42, op := Go.Op.fieldAddr 76 (Go.Operand.tmp 41) 1, type := 0, pos := "frag.go:125", after := #[{ on := 1, ground := Go.Ground.data }], guard := none }) (v := ?v3) rfl (by kernel_rfl) (by kernel_rfl) (by kernel_rfl) (fun _ _ _ h => h) (Or.inl ⟨by rfl, ?hy3⟩) (by assumption) ?rest3
    case hy3 => (intro w hSw; (try dsimp only at hSw); have eckx0 := hSw.cell ckx0 id; have eckx1 := hSw.cell ckx1 id; have eckx2 := hSw.cell ckx2 id; have eckx3 := hSw.cell ckx3 id; have ecrb1 := hSw.cell crb1 id; have el := HLOOK.out w hSw; go_simp <;> with_reducible rfl)
    try simp only [Act.put, List.setIfInBounds_toArray, List.set_cons_zero, List.set_cons_succ]
    refine wpAnyH_take (i := 3) (oi := { dst := some 43, op := Go.Op.load 74 (Go.Operand.tmp 42), type := 74, pos := "frag.go:125", after := #[{ on := 2, ground := Go.Ground.data }], guard := none }) (v := ?v4) rfl (by kernel_rfl) (by kernel_rfl) (by kernel_rfl) (fun _ _ _ h => h) (Or.inl ⟨by rfl, ?hy4⟩) (by assumption) ?rest4
    case hy4 => (intro w hSw; (try dsimp only at hSw); have eckx0 := hSw.cell ckx0 id; have eckx1 := hSw.cell ckx1 id; have eckx2 := hSw.cell ckx2 id; have eckx3 := hSw.cell ckx3 id; have ecrb1 := hSw.cell crb1 id; have el := HLOOK.out w hSw; go_simp <;> with_reducible rfl)
    try simp only [Act.put, List.setIfInBounds_toArray, List.set_cons_zero, List.set_cons_succ]
    refine wpAnyH_take (i := 4) (oi := { dst := some 44, op := Go.Op.load 78 (Go.Operand.tmp 10), type := 78, pos := "frag.go:125", after := #[], guard := none }) (v := ?v5) rfl (by kernel_rfl) (by kernel_rfl) (by kernel_rfl) (fun _ _ _ h => h) (Or.inl ⟨by rfl, ?hy5⟩) (by assumption) ?rest5
    case hy5 => (intro w hSw; (try dsimp only at hSw); have eckx0 := hSw.cell ckx0 id; have eckx1 := hSw.cell ckx1 id; have eckx2 := hSw.cell ckx2 id; have eckx3 := hSw.cell ckx3 id; have ecrb1 := hSw.cell crb1 id; have el := HLOOK.out w hSw; go_simp <;> with_reducible rfl)
    try simp only [Act.put, List.setIfInBounds_toArray, List.set_cons_zero, List.set_cons_succ]
    refine wpAnyH_take (i := 5) (oi := { dst := some 45, op := Go.Op.lookup 74 (Go.Operand.tmp 43) (Go.Operand.tmp 44) false, type := 79, pos := "frag.go:125", after := #[{ on := 3, ground := Go.Ground.data }, { on := 4, ground := Go.Ground.data }], guard := none }) (v := ?v6) rfl (by kernel_rfl) (by kernel_rfl) (by kernel_rfl) (fun _ _ _ h => h) (Or.inl ⟨by rfl, ?hy6⟩) (by assumption) ?rest6
    case hy6 => (intro w hSw; (try dsimp only at hSw); have eckx0 := hSw.cell ckx0 id; have eckx1 := hSw.cell ckx1 id; have eckx2 := hSw.cell ckx2 id; have eckx3 := hSw.cell ckx3 id; have ecrb1 := hSw.cell crb1 id; have el := HLOOK.out w hSw; go_simp <;> with_reducible rfl)
    try simp only [Act.put, List.setIfInBounds_toArray, List.set_cons_zero, List.set_cons_succ]
    refine wpAnyH_take (i := 6) (oi := { dst := some 11, op := Go.Op.assign (Go.Operand.tmp 45), type := 79, pos := "frag.go:125", after := #[{ on := 5, ground := Go.Ground.data }, { on := 0, ground := Go.Ground.phase }, { on := 1, ground := Go.Ground.phase }, { on := 2, ground := Go.Ground.phase }, { on := 3, ground := Go.Ground.phase }, { on := 4, ground := Go.Ground.phase }, { on := 5, ground := Go.Ground.phase }], guard := none }) (v := ?v7) rfl (by kernel_rfl) (by kernel_rfl) (by kernel_rfl) (fun _ _ _ h => h) (Or.inl ⟨by rfl, ?hy7⟩) (by assumption) ?rest7
    case hy7 => (intro w hSw; (try dsimp only at hSw); have eckx0 := hSw.cell ckx0 id; have eckx1 := hSw.cell ckx1 id; have eckx2 := hSw.cell ckx2 id; have eckx3 := hSw.cell ckx3 id; have ecrb1 := hSw.cell crb1 id; have el := HLOOK.out w hSw; go_simp <;> with_reducible rfl)
    try simp only [Act.put, List.setIfInBounds_toArray, List.set_cons_zero, List.set_cons_succ]
    refine wpAnyH_done (by kernel_rfl) ?_ _
    generalize w4.drew = w5 at hS0 ⊢
    have hx := hS0
    clear hS0 crb1 HLOOK ckx0 ckx1 ckx2 ckx3
    have HX_w5 := Lib.hid hx
    clear hx
    have hrs5 := HRS4.out.keep HX_w5.out
    have HRS5 := Lib.hid hrs5
    have crb1 := row_cell (k := 1) (v := .map (some bm)) hrs5.cell rfl
    have hlen := fun ty => hrs5.map.len ty
    simp only [List.length_map] at hlen
    clear hrs5
    have h8' := h8i.out
    go_wp2_with fail
    refine (wrong10_no 5 w5).mono ?_
    rintro e w6 ⟨v, rfl, he, hx⟩
    have HE := Lib.hid he
    clear he hlen crb1 h8'
    have HX_w6 := Lib.hid hx
    clear hx
    have hz5 := ((((HX_w1.out.trans HX_w2.out).trans HX_w3.out).trans HX_w4.out).trans HX_w5.out).size
    have hz25 := ((HX_w3.out.trans HX_w4.out).trans HX_w5.out).size
    have hq5 : qb < w5.heap.size := by have := HQB2.out; omega
    obtain ⟨t9, y9, rfl⟩ := HE.out.shape
    replace B_qb := Lib.hid (((((HX_w3.out.trans HX_w4.out).trans HX_w5.out).trans HX_w6.out).block qb (row_lt B_qb.out) id).trans B_qb.out)
    have cqb0 := row_cell (k := 0) (v := .int .u8 0) B_qb.out rfl
    have cqb1 := row_cell (k := 1) (v := .int .u16 0) B_qb.out rfl
    have cqb2 := row_cell (k := 2) (v := .bool false) B_qb.out rfl
    have cqb3 := row_cell (k := 3) (v := .bool false) B_qb.out rfl
    have cqb4 := row_cell (k := 4) (v := .int .i64 0) B_qb.out rfl
    have cqb5 := row_cell (k := 5) (v := .int .u8 0) B_qb.out rfl
    have cqb6 := row_cell (k := 6) (v := .int .u8 0) B_qb.out rfl
    have cqb7 := row_cell (k := 7) (v := .int .u32 0) B_qb.out rfl
    have cqb8 := row_cell (k := 8) (v := .int .u32 0) B_qb.out rfl
    have cqb9 := row_cell (k := 9) (v := .slice none 0 0) B_qb.out rfl
    have fqb0 := row_frozen B_qb.out 0
    have fqb1 := row_frozen B_qb.out 1
    have fqb2 := row_frozen B_qb.out 2
    have fqb3 := row_frozen B_qb.out 3
    have fqb4 := row_frozen B_qb.out 4
    have fqb5 := row_frozen B_qb.out 5
    have fqb6 := row_frozen B_qb.out 6
    have fqb7 := row_frozen B_qb.out 7
    have fqb8 := row_frozen B_qb.out 8
    have fqb9 := row_frozen B_qb.out 9
    go_wp2_with fail
    (try simp only [Exit.inBlock, Exit.then])
    have r0 : (w6.setCell ⟨qb, 0, none⟩ (.int .u8 0)).heap[qb]? = some (.cells #[.int .u8 0, .int .u16 0, .bool false, .bool false, .int .i64 0, .int .u8 0, .int .u8 0, .int .u32 0, .int .u32 0, .slice none 0 0] 27) := row_set B_qb.out 0 (.int .u8 0)
    have r1 : ((w6.setCell ⟨qb, 0, none⟩ (.int .u8 0)).setCell ⟨qb, 1, none⟩ (.int .u16 0)).heap[qb]? = some (.cells #[.int .u8 0, .int .u16 0, .bool false, .bool false, .int .i64 0, .int .u8 0, .int .u8 0, .int .u32 0, .int .u32 0, .slice none 0 0] 27) := row_set r0 1 (.int .u16 0)
    clear r0
    have r2 : (((w6.setCell ⟨qb, 0, none⟩ (.int .u8 0)).setCell ⟨qb, 1, none⟩ (.int .u16 0)).setCell ⟨qb, 2, none⟩ (.bool false)).heap[qb]? = some (.cells #[.int .u8 0, .int .u16 0, .bool false, .bool false, .int .i64 0, .int .u8 0, .int .u8 0, .int .u32 0, .int .u32 0, .slice none 0 0] 27) := row_set r1 2 (.bool false)
    clear r1
    have r3 : ((((w6.setCell ⟨qb, 0, none⟩ (.int .u8 0)).setCell ⟨qb, 1, none⟩ (.int .u16 0)).setCell ⟨qb, 2, none⟩ (.bool false)).setCell ⟨qb, 3, none⟩ (.bool false)).heap[qb]? = some (.cells #[.int .u8 0, .int .u16 0, .bool false, .bool false, .int .i64 0, .int .u8 0, .int .u8 0, .int .u32 0, .int .u32 0, .slice none 0 0] 27) := row_set r2 3 (.bool false)
    clear r2
    have r4 : (((((w6.setCell ⟨qb, 0, none⟩ (.int .u8 0)).setCell ⟨qb, 1, none⟩ (.int .u16 0)).setCell ⟨qb, 2, none⟩ (.bool false)).setCell ⟨qb, 3, none⟩ (.bool false)).setCell ⟨qb, 4, none⟩ (.int .i64 0)).heap[qb]? = some (.cells #[.int .u8 0, .int .u16 0, .bool false, .bool false, .int .i64 0, .int .u8 0, .int .u8 0, .int .u32 0, .int .u32 0, .slice none 0 0] 27) := row_set r3 4 (.int .i64 0)
    clear r3
    have r5 : ((((((w6.setCell ⟨qb, 0, none⟩ (.int .u8 0)).setCell ⟨qb, 1, none⟩ (.int .u16 0)).setCell ⟨qb, 2, none⟩ (.bool false)).setCell ⟨qb, 3, none⟩ (.bool false)).setCell ⟨qb, 4, none⟩ (.int .i64 0)).setCell ⟨qb, 5, none⟩ (.int .u8 0)).heap[qb]? = some (.cells #[.int .u8 0, .int .u16 0, .bool false, .bool false, .int .i64 0, .int .u8 0, .int .u8 0, .int .u32 0, .int .u32 0, .slice none 0 0] 27) := row_set r4 5 (.int .u8 0)
    clear r4
    have r6 : (((((((w6.setCell ⟨qb, 0, none⟩ (.int .u8 0)).setCell ⟨qb, 1, none⟩ (.int .u16 0)).setCell ⟨qb, 2, none⟩ (.bool false)).setCell ⟨qb, 3, none⟩ (.bool false)).setCell ⟨qb, 4, none⟩ (.int .i64 0)).setCell ⟨qb, 5, none⟩ (.int .u8 0)).setCell ⟨qb, 6, none⟩ (.int .u8 0)).heap[qb]? = some (.cells #[.int .u8 0, .int .u16 0, .bool false, .bool false, .int .i64 0, .int .u8 0, .int .u8 0, .int .u32 0, .int .u32 0, .slice none 0 0] 27) := row_set r5 6 (.int .u8 0)
    clear r5
    have r7 : ((((((((w6.setCell ⟨qb, 0, none⟩ (.int .u8 0)).setCell ⟨qb, 1, none⟩ (.int .u16 0)).setCell ⟨qb, 2, none⟩ (.bool false)).setCell ⟨qb, 3, none⟩ (.bool false)).setCell ⟨qb, 4, none⟩ (.int .i64 0)).setCell ⟨qb, 5, none⟩ (.int .u8 0)).setCell ⟨qb, 6, none⟩ (.int .u8 0)).setCell ⟨qb, 7, none⟩ (.int .u32 0)).heap[qb]? = some (.cells #[.int .u8 0, .int .u16 0, .bool false, .bool false, .int .i64 0, .int .u8 0, .int .u8 0, .int .u32 0, .int .u32 0, .slice none 0 0] 27) := row_set r6 7 (.int .u32 0)
    clear r6
    have r8 : (((((((((w6.setCell ⟨qb, 0, none⟩ (.int .u8 0)).setCell ⟨qb, 1, none⟩ (.int .u16 0)).setCell ⟨qb, 2, none⟩ (.bool false)).setCell ⟨qb, 3, none⟩ (.bool false)).setCell ⟨qb, 4, none⟩ (.int .i64 0)).setCell ⟨qb, 5, none⟩ (.int .u8 0)).setCell ⟨qb, 6, none⟩ (.int .u8 0)).setCell ⟨qb, 7, none⟩ (.int .u32 0)).setCell ⟨qb, 8, none⟩ (.int .u32 0)).heap[qb]? = some (.cells #[.int .u8 0, .int .u16 0, .bool false, .bool false, .int .i64 0, .int .u8 0, .int .u8 0, .int .u32 0, .int .u32 0, .slice none 0 0] 27) := row_set r7 8 (.int .u32 0)
    clear r7
    have r9 : ((((((((((w6.setCell ⟨qb, 0, none⟩ (.int .u8 0)).setCell ⟨qb, 1, none⟩ (.int .u16 0)).setCell ⟨qb, 2, none⟩ (.bool false)).setCell ⟨qb, 3, none⟩ (.bool false)).setCell ⟨qb, 4, none⟩ (.int .i64 0)).setCell ⟨qb, 5, none⟩ (.int .u8 0)).setCell ⟨qb, 6, none⟩ (.int .u8 0)).setCell ⟨qb, 7, none⟩ (.int .u32 0)).setCell ⟨qb, 8, none⟩ (.int .u32 0)).setCell ⟨qb, 9, none⟩ (.slice none 0 0)).heap[qb]? = some (.cells #[.int .u8 0, .int .u16 0, .bool false, .bool false, .int .i64 0, .int .u8 0, .int .u8 0, .int .u32 0, .int .u32 0, .slice none 0 0] 27) := row_set r8 9 (.slice none 0 0)
    clear r8
    have hx : Ex (fun j => j = qb) w6 ((((((((((w6.setCell ⟨qb, 0, none⟩ (.int .u8 0)).setCell ⟨qb, 1, none⟩ (.int .u16 0)).setCell ⟨qb, 2, none⟩ (.bool false)).setCell ⟨qb, 3, none⟩ (.bool false)).setCell ⟨qb, 4, none⟩ (.int .i64 0)).setCell ⟨qb, 5, none⟩ (.int .u8 0)).setCell ⟨qb, 6, none⟩ (.int .u8 0)).setCell ⟨qb, 7, none⟩ (.int .u32 0)).setCell ⟨qb, 8, none⟩ (.int .u32 0)).setCell ⟨qb, 9, none⟩ (.slice none 0 0)) := (((((((((((Ex.refl (fun j => j = qb) w6).setCell (p := ⟨qb, 0, none⟩) (.inl rfl) (.int .u8 0)).setCell (p := ⟨qb, 1, none⟩) (.inl rfl) (.int .u16 0)).setCell (p := ⟨qb, 2, none⟩) (.inl rfl) (.bool false)).setCell (p := ⟨qb, 3, none⟩) (.inl rfl) (.bool false)).setCell (p := ⟨qb, 4, none⟩) (.inl rfl) (.int .i64 0)).setCell (p := ⟨qb, 5, none⟩) (.inl rfl) (.int .u8 0)).setCell (p := ⟨qb, 6, none⟩) (.inl rfl) (.int .u8 0)).setCell (p := ⟨qb, 7, none⟩) (.inl rfl) (.int .u32 0)).setCell (p := ⟨qb, 8, none⟩) (.inl rfl) (.int .u32 0)).setCell (p := ⟨qb, 9, none⟩) (.inl rfl) (.slice none 0 0))
    clear cqb0 cqb1 cqb2 cqb3 cqb4 cqb5 cqb6 cqb7 cqb8 cqb9 fqb0 fqb1 fqb2 fqb3 fqb4 fqb5 fqb6 fqb7 fqb8 fqb9
    generalize ((((((((((w6.setCell ⟨qb, 0, none⟩ (.int .u8 0)).setCell ⟨qb, 1, none⟩ (.int .u16 0)).setCell ⟨qb, 2, none⟩ (.bool false)).setCell ⟨qb, 3, none⟩ (.bool false)).setCell ⟨qb, 4, none⟩ (.int .i64 0)).setCell ⟨qb, 5, none⟩ (.int .u8 0)).setCell ⟨qb, 6, none⟩ (.int .u8 0)).setCell ⟨qb, 7, none⟩ (.int .u32 0)).setCell ⟨qb, 8, none⟩ (.int .u32 0)).setCell ⟨qb, 9, none⟩ (.slice none 0 0)) = wz at r9 hx ⊢
    replace B_qb := Lib.hid r9
    clear r9
    have HX_wz := Lib.hid hx
    clear hx
    refine bodyPost_ret (v := .tuple #[.agg #[.int .u8 0, .int .u16 0, .bool false, .bool false, .int .i64 0, .int .u8 0, .int .u8 0, .int .u32 0, .int .u32 0, .slice none 0 0], .bool false, .iface t9 y9]) ?_ rfl ⟨t9, y9, rfl, EC.up (EC.keepB HX_wz.out hq5 HE.out) hz5, (HRS.out.keep ((((((HX_w1.out.trans HX_w2.out).trans HX_w3.out).trans HX_w4.out).trans HX_w5.out).trans HX_w6.out).andThen HX_wz.out (fun i hi e => by have := HX_w1.out.size; have := hb_qb; omega))), ((((((HX_w1.out.trans HX_w2.out).trans HX_w3.out).trans HX_w4.out).trans HX_w5.out).trans HX_w6.out).andThen HX_wz.out (fun i hi e => by have := HX_w1.out.size; have := hb_qb; omega))⟩
    exact take_results _ qb _ #[.int .u8 0, .int .u16 0, .bool false, .bool false, .int .i64 0, .int .u8 0, .int .u8 0, .int .u32 0, .int .u32 0, .slice none 0 0] _ _ rfl rfl rfl B_qb.out rfl
end Go.Proofs.YtabjihchcmjdmaaDoor
/-
  The contract of (*frag.Reass).Take: the first part that comes. By an AI agent.
-/
namespace Go.Proofs.YtabjihchcmjdmaaDoor
open Go.RowKit

theorem HpOk.keepT {w w' : World} {S : Nat → Prop} {B : Nat} {h : Hp} (H : HpOk w B h) (hx : Ex S w w') (hs : ∀ k cs t, w.heap[k]? = some (.cells cs t) → ¬ S k) : HpOk w' B h := by
  refine ⟨(hx.block h.hb (row_lt H.1) (hs _ _ _ H.1)).trans H.1, H.2.1.keep hx (fun k hk _ _ => ?_), fun o ho => ⟨(H.2.2.1 o ho).1.keep hx (fun k hk _ _ => ?_), (H.2.2.1 o ho).2⟩, H.2.2.2⟩
  · obtain ⟨cur, hc⟩ := ownsRow_isCells H.2.1 hk
    exact hs _ _ _ hc
  · obtain ⟨cur, hc⟩ := ownsRow_isCells (H.2.2.1 o ho).1.2 hk
    exact hs _ _ _ hc
theorem RS.base {w : World} {B rb bm : Nat} {tm : Int} {G : List Hp} (h : RS w B rb bm tm G) : B ≤ w.heap.size := Nat.le_trans h.lo.1 (Nat.le_of_lt (row_lt h.cell))
theorem whole_one {p : Pk} (A : Option Addr) (c : Nat) (h : ¬ (p.off = 0 ∧ p.mf = false)) {r : Option Pk} (hr : WH [(p, A, c)] r) : r = none := by
  obtain ⟨L, _, _, rfl⟩ := hr
  unfold wholeQ
  by_cases h0 : p.off = 0
  · have hm : p.mf = true := by
      cases hq : p.mf
      · exact absurd ⟨h0, hq⟩ h
      · rfl
    rw [show List.find? (fun o : Po => !o.1.mf) [(p, A, c)] = none by simp [hm]]
    generalize List.find? (fun o : Po => o.1.off == 0) [(p, A, c)] = X
    cases X <;> rfl
  · rw [show List.find? (fun o : Po => o.1.off == 0) [(p, A, c)] = none by simp [h0]]
theorem append_wp {P : Program} {o : Oper} {a : Act} {w : World} {K : Act → World → Prop} {Q : Exit → Act → World → Prop} (s x : Operand) (t : TypeId) (ho : o.op = .call { callee := .builtin .append, args := #[s, x], argTypes := #[t, t] })
    (v y v' : Value) (w' : World) (hs : a.eval s = v) (hx : a.eval x = y) (hr : (Builtin.append_ #[t, t] o.type #[v, y]).run P w = .ok v' w') (hK : K (a.put o.dst v') w') : o.wp P a w K Q := by
  unfold Oper.wp execOp
  simp only [ho, resolve, invoke, builtin, Sem.run_bind, Sem.run_pure, Result.andThen_ok, List.map_toArray, List.map_cons, List.map_nil, hs, hx, hr]
  exact hK
set_option maxRecDepth 100000 in
set_option maxHeartbeats 8000000 in
theorem take_new (p : Pk) (A : Option Addr) (c : Nat) (now : Int) (B rb bm : Nat) (tm : Int) (G : List Hp) (w : World) (hrs : RS w B rb bm tm G) (ok : p.ok) (hr : RB w (fun _ => True) (.slice A p.b.length c) p.b) (hA : A = none → c = 0) (hl : p.b.length ≤ 100000) (h : p.right = 0) (h1 : ¬ (p.off = 0 ∧ p.mf = false)) (hn : hpOf G p = none) (h8 : G.length < 8) :
    Calls Tryd.prog 19 #[.pointer (some ⟨rb, 0, none⟩), pkv p (.slice A p.b.length c), .int .u64 now] w fun e w' => e = .returned (.tuple #[.agg #[.int .u8 0, .int .u16 0, .bool false, .bool false, .int .i64 0, .int .u8 0, .int .u8 0, .int .u32 0, .int .u32 0, .slice none 0 0], .bool false, .nilIface]) ∧ (∃ h, RS w' B rb bm tm (G ++ [h]) ∧ h.k = kb p ∧ h.bg = now ∧ h.os.map Prod.fst = [p]) ∧ Ex (fun k => k = bm) w w'  := by
  have HRS := Lib.hid hrs
  have HOK := Lib.hid ok
  have HR := Lib.hid hr
  have HA := Lib.hid hA
  have HL := Lib.hid hl
  clear hrs ok hr hA hl
  have HRT := Lib.hid (fun w => right_yes p A c w (by have := HL.out; omega) h)
  have HRT0 := Lib.hid h
  have HNP := Lib.hid h1
  have HNO := Lib.hid hn
  have h8i := Lib.hid (show ¬ (8 : Int) ≤ (G.length : Int) by omega)
  have H8 := Lib.hid h8
  clear h h1 hn h8
  obtain ⟨xtos, xid, xdf, xmf, xoff, xttl, xpr, xsrc, xdst, xb⟩ := p
  simp only at HR HL HRT

  show Calls Tryd.prog 19 #[.pointer (some ⟨rb, 0, none⟩), .agg #[.int .u8 xtos, .int .u16 xid, .bool xdf, .bool xmf, .int .i64 xoff, .int .u8 xttl, .int .u8 xpr, .int .u32 xsrc, .int .u32 xdst, .slice A xb.length c], .int .u64 now] w _
  go_enter Tryd.func19, Tryd.ntmps19
  go_upto_region 1 with fail
  have hx : Ex (fun _ => False) w (w.alloc (.cells #[.int .u8 xtos, .int .u16 xid, .bool xdf, .bool xmf, .int .i64 xoff, .int .u8 xttl, .int .u8 xpr, .int .u32 xsrc, .int .u32 xdst, .slice A xb.length c] 27)) := (Ex.refl _ w).alloc _
  have hb : (w.alloc (.cells #[.int .u8 xtos, .int .u16 xid, .bool xdf, .bool xmf, .int .i64 xoff, .int .u8 xttl, .int .u8 xpr, .int .u32 xsrc, .int .u32 xdst, .slice A xb.length c] 27)).heap[w.heap.size]? = some (.cells #[.int .u8 xtos, .int .u16 xid, .bool xdf, .bool xmf, .int .i64 xoff, .int .u8 xttl, .int .u8 xpr, .int .u32 xsrc, .int .u32 xdst, .slice A xb.length c] 27) := heap_alloc_new w _
  have hs1 : (w.alloc (.cells #[.int .u8 xtos, .int .u16 xid, .bool xdf, .bool xmf, .int .i64 xoff, .int .u8 xttl, .int .u8 xpr, .int .u32 xsrc, .int .u32 xdst, .slice A xb.length c] 27)).heap.size = w.heap.size + 1 := by simp
  obtain ⟨pb, hpb⟩ : ∃ pb, pb = w.heap.size := ⟨_, rfl⟩
  have hb_pb : w.heap.size ≤ pb := by omega
  rw [← hpb] at hb hs1 
  try simp only [← hpb]
  generalize w.alloc (.cells #[.int .u8 xtos, .int .u16 xid, .bool xdf, .bool xmf, .int .i64 xoff, .int .u8 xttl, .int .u8 xpr, .int .u32 xsrc, .int .u32 xdst, .slice A xb.length c] 27) = w1 at hx hb  hs1 ⊢
  try simp only [← hs1]
  clear hs1
  clear hpb
  have HX_w1 := Lib.hid hx
  clear hx
  have B_pb := Lib.hid hb
  clear hb
  have hx : Ex (fun _ => False) w1 (w1.alloc (.cells #[.int .u8 0, .int .u16 0, .bool false, .bool false, .int .i64 0, .int .u8 0, .int .u8 0, .int .u32 0, .int .u32 0, .slice none 0 0] 27)) := (Ex.refl _ w1).alloc _
  have hb : (w1.alloc (.cells #[.int .u8 0, .int .u16 0, .bool false, .bool false, .int .i64 0, .int .u8 0, .int .u8 0, .int .u32 0, .int .u32 0, .slice none 0 0] 27)).heap[w1.heap.size]? = some (.cells #[.int .u8 0, .int .u16 0, .bool false, .bool false, .int .i64 0, .int .u8 0, .int .u8 0, .int .u32 0, .int .u32 0, .slice none 0 0] 27) := heap_alloc_new w1 _
  obtain ⟨qb, hqb⟩ : ∃ qb, qb = w1.heap.size := ⟨_, rfl⟩
  have hb_qb : w1.heap.size ≤ qb := by omega
  rw [← hqb] at hb
  try simp only [← hqb]
  generalize w1.alloc (.cells #[.int .u8 0, .int .u16 0, .bool false, .bool false, .int .i64 0, .int .u8 0, .int .u8 0, .int .u32 0, .int .u32 0, .slice none 0 0] 27) = w2 at hx hb ⊢
  clear hqb
  have HX_w2 := Lib.hid hx
  clear hx
  have B_qb := Lib.hid hb
  clear hb
  have hpbl := row_lt (show w1.heap[pb]? = _ from B_pb.out)
  have ne_qb_pb : qb ≠ pb := by omega
  have HPB1 := Lib.hid hpbl
  clear hpbl
  have HQB2 := Lib.hid (row_lt B_qb.out)
  replace B_pb := Lib.hid ((HX_w2.out.block pb (row_lt B_pb.out) id).trans B_pb.out)
  have cpb0 := row_cell (k := 0) (v := .int .u8 xtos) B_pb.out rfl
  have cpb1 := row_cell (k := 1) (v := .int .u16 xid) B_pb.out rfl
  have cpb2 := row_cell (k := 2) (v := .bool xdf) B_pb.out rfl
  have cpb3 := row_cell (k := 3) (v := .bool xmf) B_pb.out rfl
  have cpb4 := row_cell (k := 4) (v := .int .i64 xoff) B_pb.out rfl
  have cpb5 := row_cell (k := 5) (v := .int .u8 xttl) B_pb.out rfl
  have cpb6 := row_cell (k := 6) (v := .int .u8 xpr) B_pb.out rfl
  have cpb7 := row_cell (k := 7) (v := .int .u32 xsrc) B_pb.out rfl
  have cpb8 := row_cell (k := 8) (v := .int .u32 xdst) B_pb.out rfl
  have cpb9 := row_cell (k := 9) (v := .slice A xb.length c) B_pb.out rfl
  go_wp2_with fail
  refine (HRT.out w2).mono ?_
  rintro e w3 ⟨rfl, hx⟩
  clear cpb0 cpb1 cpb2 cpb3 cpb4 cpb5 cpb6 cpb7 cpb8 cpb9
  have HX_w3 := Lib.hid hx
  clear hx
  replace B_pb := Lib.hid ((HX_w3.out.block pb (row_lt B_pb.out) id).trans B_pb.out)
  have cpb3 := row_cell (k := 3) (v := .bool xmf) B_pb.out rfl
  have cpb4 := row_cell (k := 4) (v := .int .i64 xoff) B_pb.out rfl
  go_upto_region 4 with fail
  go_cut [28] (fun x wx => x = .bool false ∧ wx = w3)
  case first =>
    by_cases h0 : xoff = 0
    · have hm : xmf = true := by
        cases hq : xmf
        · exact absurd ⟨h0, hq⟩ HNP.out
        · rfl
      rw [h0] at cpb4
      rw [hm] at cpb3
      clear h0 hm
      go_wp2_with fail
      go_meet
      exact ⟨rfl, rfl⟩
    · have e0 : (xoff == 0) = false := beq_eq_false_iff_ne.2 h0
      go_wp2_with fail
      go_meet
      exact ⟨rfl, rfl⟩
  case rest =>
    obtain ⟨rfl, hwc⟩ := hcut
    have hwc2 := hwc.symm
    clear hwc
    subst hwc2
    clear cpb3 cpb4
    have cpb1 := row_cell (k := 1) (v := .int .u16 xid) B_pb.out rfl
    have cpb6 := row_cell (k := 6) (v := .int .u8 xpr) B_pb.out rfl
    have cpb7 := row_cell (k := 7) (v := .int .u32 xsrc) B_pb.out rfl
    have cpb8 := row_cell (k := 8) (v := .int .u32 xdst) B_pb.out rfl
    go_upto_region 7 with fail
    clear cpb1 cpb6 cpb7 cpb8
    have hx : Ex (fun _ => False) w3 (w3.alloc (.cells #[.int .u32 xsrc, .int .u32 xdst, .int .u8 xpr, .int .u16 xid] 78)) := (Ex.refl _ w3).alloc _
    have hb : (w3.alloc (.cells #[.int .u32 xsrc, .int .u32 xdst, .int .u8 xpr, .int .u16 xid] 78)).heap[w3.heap.size]? = some (.cells #[.int .u32 xsrc, .int .u32 xdst, .int .u8 xpr, .int .u16 xid] 78) := heap_alloc_new w3 _
    obtain ⟨kx, hkx⟩ : ∃ kx, kx = w3.heap.size := ⟨_, rfl⟩
    have hb_kx : w3.heap.size ≤ kx := by omega
    rw [← hkx] at hb
    try simp only [← hkx]
    generalize w3.alloc (.cells #[.int .u32 xsrc, .int .u32 xdst, .int .u8 xpr, .int .u16 xid] 78) = w4 at hx hb ⊢
    clear hkx
    have HX_w4 := Lib.hid hx
    clear hx
    have B_kx := Lib.hid hb
    clear hb
    have HKX4 := Lib.hid (row_lt B_kx.out)
    have hrs4 := (HRS.out.keep (((HX_w1.out.trans HX_w2.out).trans HX_w3.out).trans HX_w4.out))
    have crb1 := row_cell (k := 1) (v := .map (some bm)) hrs4.cell rfl
    have hlook : ∀ W, Ex (fun _ => False) w4 W → (Instr.lookup 74 (.map (some bm)) (.agg #[.int .u32 xsrc, .int .u32 xdst, .int .u8 xpr, .int .u16 xid]) false).run Tryd.prog W = .ok (.pointer none) W := by
      intro W hx
      have h := (hrs4.map.keep hx id).look (⟨xtos, xid, xdf, xmf, xoff, xttl, xpr, xsrc, xdst, xb⟩ : Pk) HOK.out
      rw [show lk _ _ = _ from HNO.out] at h
      exact h
    have HLOOK := Lib.hid hlook
    have HRS4 := Lib.hid hrs4
    clear hlook hrs4
    have ckx0 := row_cell (k := 0) (v := .int .u32 xsrc) B_kx.out rfl
    have ckx1 := row_cell (k := 1) (v := .int .u32 xdst) B_kx.out rfl
    have ckx2 := row_cell (k := 2) (v := .int .u8 xpr) B_kx.out rfl
    have ckx3 := row_cell (k := 3) (v := .int .u16 xid) B_kx.out rfl
    have hS0 : Ex (fun _ => False) w4 w4.drew := (Ex.refl _ w4).drew
    refine wp_region_held_drew (S := fun W => Ex (fun _ => False) w4 W) (by kernel_rfl) hS0 (fun _ => ?_)
    refine wpAnyH_take (i := 0) (oi := { dst := some 40, op := Go.Op.move (Go.Operand.tmp 0), type := 45, pos := "frag.go:125", after := #[], guard := none }) (v := ?v1) rfl (by kernel_rfl) (by kernel_rfl) (by kernel_rfl) (fun _ _ _ h => h) (Or.inl ⟨by rfl, ?hy1⟩) (by assumption) ?rest1
    case hy1 => (intro w hSw; (try dsimp only at hSw); have eckx0 := hSw.cell ckx0 id; have eckx1 := hSw.cell ckx1 id; have eckx2 := hSw.cell ckx2 id; have eckx3 := hSw.cell ckx3 id; have ecrb1 := hSw.cell crb1 id; have el := HLOOK.out w hSw; go_simp <;> with_reducible rfl)
    try simp only [Act.put, List.setIfInBounds_toArray, List.set_cons_zero, List.set_cons_succ]
    refine wpAnyH_take (i := 1) (oi := { dst := some 41, op := Go.Op.nilCheck (Go.Operand.tmp 40), type := 0, pos := "frag.go:125", after := #[{ on := 0, ground := Go.Ground.data }], guard := none }) (v := ?v2) rfl (by kernel_rfl) (by kernel_rfl) (by kernel_rfl) (fun _ _ _ h => h) (Or.inl ⟨by rfl, ?hy2⟩) (by assumption) ?rest2
    case hy2 => (intro w hSw; (try dsimp only at hSw); have eckx0 := hSw.cell ckx0 id; have eckx1 := hSw.cell ckx1 id; have eckx2 := hSw.cell ckx2 id; have eckx3 := hSw.cell ckx3 id; have ecrb1 := hSw.cell crb1 id; have el := HLOOK.out w hSw; go_simp <;> with_reducible rfl)
    try simp only [Act.put, List.setIfInBounds_toArray, List.set_cons_zero, List.set_cons_succ]
    refine wpAnyH_take (i := 2) (oi := { dst := some 42, op := Go.Op.fieldAddr 76 (Go.Operand.tmp 41) 1, type := 0, pos := "frag.go:125", after := #[{ on := 1, ground := Go.Ground.data }], guard := none }) (v := ?v3) rfl (by kernel_rfl) (by kernel_rfl) (by kernel_rfl) (fun _ _ _ h => h) (Or.inl ⟨by rfl, ?hy3⟩) (by assumption) ?rest3
    case hy3 => (intro w hSw; (try dsimp only at hSw); have eckx0 := hSw.cell ckx0 id; have eckx1 := hSw.cell ckx1 id; have eckx2 := hSw.cell ckx2 id; have eckx3 := hSw.cell ckx3 id; have ecrb1 := hSw.cell crb1 id; have el := HLOOK.out w hSw; go_simp <;> with_reducible rfl)
    try simp only [Act.put, List.setIfInBounds_toArray, List.set_cons_zero, List.set_cons_succ]
    refine wpAnyH_take (i := 3) (oi := { dst := some 43, op := Go.Op.load 74 (Go.Operand.tmp 42), type := 74, pos := "frag.go:125", after := #[{ on := 2, ground := Go.Ground.data }], guard := none }) (v := ?v4) rfl (by kernel_rfl) (by kernel_rfl) (by kernel_rfl) (fun _ _ _ h => h) (Or.inl ⟨by rfl, ?hy4⟩) (by assumption) ?rest4
    case hy4 => (intro w hSw; (try dsimp only at hSw); have eckx0 := hSw.cell ckx0 id; have eckx1 := hSw.cell ckx1 id; have eckx2 := hSw.cell ckx2 id; have eckx3 := hSw.cell ckx3 id; have ecrb1 := hSw.cell crb1 id; have el := HLOOK.out w hSw; go_simp <;> with_reducible rfl)
    try simp only [Act.put, List.setIfInBounds_toArray, List.set_cons_zero, List.set_cons_succ]
    refine wpAnyH_take (i := 4) (oi := { dst := some 44, op := Go.Op.load 78 (Go.Operand.tmp 10), type := 78, pos := "frag.go:125", after := #[], guard := none }) (v := ?v5) rfl (by kernel_rfl) (by kernel_rfl) (by kernel_rfl) (fun _ _ _ h => h) (Or.inl ⟨by rfl, ?hy5⟩) (by assumption) ?rest5
    case hy5 => (intro w hSw; (try dsimp only at hSw); have eckx0 := hSw.cell ckx0 id; have eckx1 := hSw.cell ckx1 id; have eckx2 := hSw.cell ckx2 id; have eckx3 := hSw.cell ckx3 id; have ecrb1 := hSw.cell crb1 id; have el := HLOOK.out w hSw; go_simp <;> with_reducible rfl)
    try simp only [Act.put, List.setIfInBounds_toArray, List.set_cons_zero, List.set_cons_succ]
    refine wpAnyH_take (i := 5) (oi := { dst := some 45, op := Go.Op.lookup 74 (Go.Operand.tmp 43) (Go.Operand.tmp 44) false, type := 79, pos := "frag.go:125", after := #[{ on := 3, ground := Go.Ground.data }, { on := 4, ground := Go.Ground.data }], guard := none }) (v := ?v6) rfl (by kernel_rfl) (by kernel_rfl) (by kernel_rfl) (fun _ _ _ h => h) (Or.inl ⟨by rfl, ?hy6⟩) (by assumption) ?rest6
    case hy6 => (intro w hSw; (try dsimp only at hSw); have eckx0 := hSw.cell ckx0 id; have eckx1 := hSw.cell ckx1 id; have eckx2 := hSw.cell ckx2 id; have eckx3 := hSw.cell ckx3 id; have ecrb1 := hSw.cell crb1 id; have el := HLOOK.out w hSw; go_simp <;> with_reducible rfl)
    try simp only [Act.put, List.setIfInBounds_toArray, List.set_cons_zero, List.set_cons_succ]
    refine wpAnyH_take (i := 6) (oi := { dst := some 11, op := Go.Op.assign (Go.Operand.tmp 45), type := 79, pos := "frag.go:125", after := #[{ on := 5, ground := Go.Ground.data }, { on := 0, ground := Go.Ground.phase }, { on := 1, ground := Go.Ground.phase }, { on := 2, ground := Go.Ground.phase }, { on := 3, ground := Go.Ground.phase }, { on := 4, ground := Go.Ground.phase }, { on := 5, ground := Go.Ground.phase }], guard := none }) (v := ?v7) rfl (by kernel_rfl) (by kernel_rfl) (by kernel_rfl) (fun _ _ _ h => h) (Or.inl ⟨by rfl, ?hy7⟩) (by assumption) ?rest7
    case hy7 => (intro w hSw; (try dsimp only at hSw); have eckx0 := hSw.cell ckx0 id; have eckx1 := hSw.cell ckx1 id; have eckx2 := hSw.cell ckx2 id; have eckx3 := hSw.cell ckx3 id; have ecrb1 := hSw.cell crb1 id; have el := HLOOK.out w hSw; go_simp <;> with_reducible rfl)
    try simp only [Act.put, List.setIfInBounds_toArray, List.set_cons_zero, List.set_cons_succ]
    refine wpAnyH_done (by kernel_rfl) ?_ _
    generalize w4.drew = w5 at hS0 ⊢
    have hx := hS0
    clear hS0 crb1 HLOOK ckx0 ckx1 ckx2 ckx3
    have HX_w5 := Lib.hid hx
    clear hx
    have hrs5 := HRS4.out.keep HX_w5.out
    have HRS5 := Lib.hid hrs5
    have crb1 := row_cell (k := 1) (v := .map (some bm)) hrs5.cell rfl
    have hlen := fun ty => hrs5.map.len ty
    simp only [List.length_map] at hlen
    clear hrs5
    have h8' := h8i.out
    go_upto_region 12 with fail
    clear hlen crb1 h8'
    have hx : Ex (fun _ => False) w5 (w5.alloc (.cells #[.int .u64 now, .slice none 0 0] 81)) := (Ex.refl _ w5).alloc _
    have hb : (w5.alloc (.cells #[.int .u64 now, .slice none 0 0] 81)).heap[w5.heap.size]? = some (.cells #[.int .u64 now, .slice none 0 0] 81) := heap_alloc_new w5 _
    obtain ⟨hpx, hhpx⟩ : ∃ hpx, hpx = w5.heap.size := ⟨_, rfl⟩
    have hb_hpx : w5.heap.size ≤ hpx := by omega
    rw [← hhpx] at hb
    try simp only [← hhpx]
    generalize w5.alloc (.cells #[.int .u64 now, .slice none 0 0] 81) = w6 at hx hb ⊢
    clear hhpx
    have HX_w6 := Lib.hid hx
    clear hx
    have B_hpx := Lib.hid hb
    clear hb
    have hrs6 := (HRS.out.keep (((((HX_w1.out.trans HX_w2.out).trans HX_w3.out).trans HX_w4.out).trans HX_w5.out).trans HX_w6.out))
    have crb1 := row_cell (k := 1) (v := .map (some bm)) hrs6.cell rfl
    have hupd : ∀ W, Ex (fun _ => False) w6 W → ∃ w', (Instr.mapUpdate 74 (.map (some bm)) (.agg #[.int .u32 xsrc, .int .u32 xdst, .int .u8 xpr, .int .u16 xid]) (.pointer (some ⟨hpx, 0, none⟩))).run Tryd.prog W = .ok () w' ∧ MP w' bm ((G.map fun h => (h.k, h.hb)) ++ [(kb (⟨xtos, xid, xdf, xmf, xoff, xttl, xpr, xsrc, xdst, xb⟩ : Pk), hpx)]) ∧ Ex (fun k => k = bm) W w' :=
      fun W hx' => (hrs6.map.keep hx' id).update (⟨xtos, xid, xdf, xmf, xoff, xttl, xpr, xsrc, xdst, xb⟩ : Pk) HOK.out hpx HNO.out (by have := H8.out; simp; omega)
    have HUPD := Lib.hid hupd
    have HRS6 := Lib.hid hrs6
    clear hupd hrs6
    replace B_kx := Lib.hid (((HX_w5.out.trans HX_w6.out).block kx (row_lt B_kx.out) id).trans B_kx.out)
    have ckx0 := row_cell (k := 0) (v := .int .u32 xsrc) B_kx.out rfl
    have ckx1 := row_cell (k := 1) (v := .int .u32 xdst) B_kx.out rfl
    have ckx2 := row_cell (k := 2) (v := .int .u8 xpr) B_kx.out rfl
    have ckx3 := row_cell (k := 3) (v := .int .u16 xid) B_kx.out rfl
    have hS0 : Ex (fun k => k = bm) w6 w6.drew := (Ex.refl _ w6).drew
    have HX_wd := Lib.hid ((Ex.refl (fun _ => False) w6).drew)
    have hnb : bm ≠ kx := by have h1 := HRS6.out.map.isMap; intro e; subst e; obtain ⟨es, c9, h2⟩ := h1; have h3 := B_kx.out; rw [h2] at h3; cases h3
    have hnr : bm ≠ rb := by have h1 := HRS6.out.map.isMap; intro e; subst e; obtain ⟨es, c9, h2⟩ := h1; have h3 := HRS6.out.cell; rw [h2] at h3; cases h3
    refine wp_region_held_drew (S := fun W => Ex (fun k => k = bm) w6 W) (by kernel_rfl) hS0 (fun _ => ?_)
    generalize w6.drew = wd at hS0 HX_wd ⊢
    refine wpAnyH_take (i := 0) (oi := { dst := some 66, op := Go.Op.move (Go.Operand.tmp 0), type := 45, pos := "frag.go:131", after := #[], guard := none }) (v := ?v8) rfl (by kernel_rfl) (by kernel_rfl) (by kernel_rfl) (fun _ _ _ h => h) (Or.inl ⟨by rfl, ?hy8⟩) (by assumption) ?rest8
    case hy8 => (intro w hSw; (try dsimp only at hSw); have eckx0 := hSw.cell ckx0 hnb.symm; have eckx1 := hSw.cell ckx1 hnb.symm; have eckx2 := hSw.cell ckx2 hnb.symm; have eckx3 := hSw.cell ckx3 hnb.symm; have er := hSw.cell crb1 hnr.symm; go_simp <;> with_reducible rfl)
    try simp only [Act.put, List.setIfInBounds_toArray, List.set_cons_zero, List.set_cons_succ]
    refine wpAnyH_take (i := 1) (oi := { dst := some 67, op := Go.Op.nilCheck (Go.Operand.tmp 66), type := 0, pos := "frag.go:131", after := #[{ on := 0, ground := Go.Ground.data }], guard := none }) (v := ?v9) rfl (by kernel_rfl) (by kernel_rfl) (by kernel_rfl) (fun _ _ _ h => h) (Or.inl ⟨by rfl, ?hy9⟩) (by assumption) ?rest9
    case hy9 => (intro w hSw; (try dsimp only at hSw); have eckx0 := hSw.cell ckx0 hnb.symm; have eckx1 := hSw.cell ckx1 hnb.symm; have eckx2 := hSw.cell ckx2 hnb.symm; have eckx3 := hSw.cell ckx3 hnb.symm; have er := hSw.cell crb1 hnr.symm; go_simp <;> with_reducible rfl)
    try simp only [Act.put, List.setIfInBounds_toArray, List.set_cons_zero, List.set_cons_succ]
    refine wpAnyH_take (i := 2) (oi := { dst := some 68, op := Go.Op.fieldAddr 76 (Go.Operand.tmp 67) 1, type := 0, pos := "frag.go:131", after := #[{ on := 1, ground := Go.Ground.data }], guard := none }) (v := ?v10) rfl (by kernel_rfl) (by kernel_rfl) (by kernel_rfl) (fun _ _ _ h => h) (Or.inl ⟨by rfl, ?hy10⟩) (by assumption) ?rest10
    case hy10 => (intro w hSw; (try dsimp only at hSw); have eckx0 := hSw.cell ckx0 hnb.symm; have eckx1 := hSw.cell ckx1 hnb.symm; have eckx2 := hSw.cell ckx2 hnb.symm; have eckx3 := hSw.cell ckx3 hnb.symm; have er := hSw.cell crb1 hnr.symm; go_simp <;> with_reducible rfl)
    try simp only [Act.put, List.setIfInBounds_toArray, List.set_cons_zero, List.set_cons_succ]
    refine wpAnyH_take (i := 3) (oi := { dst := some 69, op := Go.Op.load 74 (Go.Operand.tmp 68), type := 74, pos := "frag.go:131", after := #[{ on := 2, ground := Go.Ground.data }], guard := none }) (v := ?v11) rfl (by kernel_rfl) (by kernel_rfl) (by kernel_rfl) (fun _ _ _ h => h) (Or.inl ⟨by rfl, ?hy11⟩) (by assumption) ?rest11
    case hy11 => (intro w hSw; (try dsimp only at hSw); have eckx0 := hSw.cell ckx0 hnb.symm; have eckx1 := hSw.cell ckx1 hnb.symm; have eckx2 := hSw.cell ckx2 hnb.symm; have eckx3 := hSw.cell ckx3 hnb.symm; have er := hSw.cell crb1 hnr.symm; go_simp <;> with_reducible rfl)
    try simp only [Act.put, List.setIfInBounds_toArray, List.set_cons_zero, List.set_cons_succ]
    refine wpAnyH_take (i := 4) (oi := { dst := some 70, op := Go.Op.load 78 (Go.Operand.tmp 10), type := 78, pos := "frag.go:131", after := #[], guard := none }) (v := ?v12) rfl (by kernel_rfl) (by kernel_rfl) (by kernel_rfl) (fun _ _ _ h => h) (Or.inl ⟨by rfl, ?hy12⟩) (by assumption) ?rest12
    case hy12 => (intro w hSw; (try dsimp only at hSw); have eckx0 := hSw.cell ckx0 hnb.symm; have eckx1 := hSw.cell ckx1 hnb.symm; have eckx2 := hSw.cell ckx2 hnb.symm; have eckx3 := hSw.cell ckx3 hnb.symm; have er := hSw.cell crb1 hnr.symm; go_simp <;> with_reducible rfl)
    try simp only [Act.put, List.setIfInBounds_toArray, List.set_cons_zero, List.set_cons_succ]
    refine wpAnyH_take (i := 5) (oi := { dst := some 71, op := Go.Op.move (Go.Operand.tmp 11), type := 79, pos := "frag.go:131", after := #[], guard := none }) (v := ?v13) rfl (by kernel_rfl) (by kernel_rfl) (by kernel_rfl) (fun _ _ _ h => h) (Or.inl ⟨by rfl, ?hy13⟩) (by assumption) ?rest13
    case hy13 => (intro w hSw; (try dsimp only at hSw); have eckx0 := hSw.cell ckx0 hnb.symm; have eckx1 := hSw.cell ckx1 hnb.symm; have eckx2 := hSw.cell ckx2 hnb.symm; have eckx3 := hSw.cell ckx3 hnb.symm; have er := hSw.cell crb1 hnr.symm; go_simp <;> with_reducible rfl)
    try simp only [Act.put, List.setIfInBounds_toArray, List.set_cons_zero, List.set_cons_succ]
    refine wpAnyH_ready (rs := [6]) (by kernel_rfl) (by simp) ?_
    refine AllReadyH.cons (o := { dst := none, op := Go.Op.mapUpdate 74 (Go.Operand.tmp 69) (Go.Operand.tmp 70) (Go.Operand.tmp 71), type := 0, pos := "frag.go:131", after := #[{ on := 3, ground := Go.Ground.data }, { on := 4, ground := Go.Ground.data }, { on := 5, ground := Go.Ground.data }, { on := 0, ground := Go.Ground.phase }, { on := 1, ground := Go.Ground.phase }, { on := 2, ground := Go.Ground.phase }, { on := 3, ground := Go.Ground.phase }, { on := 4, ground := Go.Ground.phase }, { on := 5, ground := Go.Ground.phase }], guard := none }) rfl (fun K hK => ?_) AllReadyH.nil
    obtain ⟨w7, hrun, hmp7, hx7⟩ := HUPD.out wd HX_wd.out
    go_simp
    have hS1 : Ex (fun k => k = bm) w6 w7 := hS0.trans hx7
    refine hK.out _ _ hS1 (fun _ => ?_)
    refine wpAnyH_done (by kernel_rfl) ?_ _
    have HMP7 := Lib.hid hmp7
    have HS1 := Lib.hid hS1
    clear hS0 hS1 hmp7 hx7 hrun crb1 hnb hnr ckx0 ckx1 ckx2 ckx3
    have hxw7 : Ex (fun k => k = bm) w w7 := ((((((HX_w1.out.trans HX_w2.out).trans HX_w3.out).trans HX_w4.out).trans HX_w5.out).trans HX_w6.out).mono (fun _ _ h => h.elim)).trans HS1.out
    have HXW7 := Lib.hid hxw7
    have hpb7 : w7.heap[pb]? = some (.cells #[.int .u8 xtos, .int .u16 xid, .bool xdf, .bool xmf, .int .i64 xoff, .int .u8 xttl, .int .u8 xpr, .int .u32 xsrc, .int .u32 xdst, .slice A xb.length c] 27) := (HS1.out.block pb (row_lt ((((HX_w4.out.trans HX_w5.out).trans HX_w6.out).block pb (row_lt B_pb.out) id).trans B_pb.out)) (fun e => by have h1 := HRS6.out.map.isMap; obtain ⟨es, c9, h2⟩ := h1; rw [← e, ((((HX_w4.out.trans HX_w5.out).trans HX_w6.out).block pb (row_lt B_pb.out) id).trans B_pb.out)] at h2; cases h2)).trans ((((HX_w4.out.trans HX_w5.out).trans HX_w6.out).block pb (row_lt B_pb.out) id).trans B_pb.out)
    have hhp7 : w7.heap[hpx]? = some (.cells #[.int .u64 now, .slice none 0 0] 81) := (HS1.out.block hpx (row_lt B_hpx.out) (fun e => by have h1 := HRS6.out.map.isMap; obtain ⟨es, c9, h2⟩ := h1; rw [← e, B_hpx.out] at h2; cases h2)).trans B_hpx.out
    have hr7 : RB w7 (fun _ => True) (.slice A xb.length c) xb := by
      have h6 := (RB.keep HR.out (((((HX_w1.out.trans HX_w2.out).trans HX_w3.out).trans HX_w4.out).trans HX_w5.out).trans HX_w6.out) (fun _ _ _ => id))
      obtain ⟨q1, A', c', e, q3, q4⟩ := h6
      refine ⟨q1, A', c', e, q3, fun i hi => ?_⟩
      obtain ⟨b', off', e1, e2, e3⟩ := q4 i hi
      refine ⟨b', off', e1, e2, HS1.out.cell e3 (fun e => ?_)⟩
      obtain ⟨es, c9, h2⟩ := HRS6.out.map.isMap
      obtain ⟨o, h3, h4⟩ := cells_of_cell e3
      change b' = bm at e
      change w6.heap[b']? = some o at h3
      rw [e, h2] at h3
      cases h3
      cases h4
    have hqb7 : w7.heap[qb]? = some (.cells #[.int .u8 0, .int .u16 0, .bool false, .bool false, .int .i64 0, .int .u8 0, .int .u8 0, .int .u32 0, .int .u32 0, .slice none 0 0] 27) := (HS1.out.block qb (row_lt (((((HX_w3.out.trans HX_w4.out).trans HX_w5.out).trans HX_w6.out).block qb (row_lt B_qb.out) id).trans B_qb.out)) (fun e => by have h1 := HRS6.out.map.isMap; obtain ⟨es, c9, h2⟩ := h1; rw [← e, (((((HX_w3.out.trans HX_w4.out).trans HX_w5.out).trans HX_w6.out).block qb (row_lt B_qb.out) id).trans B_qb.out)] at h2; cases h2)).trans (((((HX_w3.out.trans HX_w4.out).trans HX_w5.out).trans HX_w6.out).block qb (row_lt B_qb.out) id).trans B_qb.out)
    have hkx7 : w7.heap[kx]? = some (.cells #[.int .u32 xsrc, .int .u32 xdst, .int .u8 xpr, .int .u16 xid] 78) := (HS1.out.block kx (row_lt B_kx.out) (fun e => by have h1 := HRS6.out.map.isMap; obtain ⟨es, c9, h2⟩ := h1; rw [← e, B_kx.out] at h2; cases h2)).trans B_kx.out
    replace B_pb := Lib.hid hpb7
    replace B_hpx := Lib.hid hhp7
    replace B_qb := Lib.hid hqb7
    replace B_kx := Lib.hid hkx7
    have HR7 := Lib.hid hr7
    have HPBH := Lib.hid (show pb ≠ hpx by have h1 := HPB1.out; have h2 := (((HX_w2.out.trans HX_w3.out).trans HX_w4.out).trans HX_w5.out).size; omega)
    have HQBH := Lib.hid (show qb ≠ hpx by have h1 := HQB2.out; have h2 := ((HX_w3.out.trans HX_w4.out).trans HX_w5.out).size; omega)
    have HKBH := Lib.hid (show kx ≠ hpx by have h1 := HKX4.out; have h2 := HX_w5.out.size; omega)
    have HHP0 := Lib.hid (show w.heap.size ≤ hpx by have h2 := ((((HX_w1.out.trans HX_w2.out).trans HX_w3.out).trans HX_w4.out).trans HX_w5.out).size; omega)
    clear hxw7 hpb7 hhp7 hr7 hqb7 hkx7
    generalize w7 = w8 at *
    have HPL8 := Lib.hid (row_lt B_hpx.out)
    have HQB8 := Lib.hid (row_lt B_qb.out)
    have HR8 := HR7
    obtain ⟨i1, hj, hy0, hy1, hy2⟩ := info_parts Tryd.info27
    have HJ := Lib.hid (show _ ∧ _ ∧ _ ∧ _ from ⟨hj, hy0, hy1, hy2⟩)
    go_upto_region 16 with fail
    have cpb0 := row_cell (k := 0) (v := .int .u8 xtos) B_pb.out rfl
    have cpb1 := row_cell (k := 1) (v := .int .u16 xid) B_pb.out rfl
    have cpb2 := row_cell (k := 2) (v := .bool xdf) B_pb.out rfl
    have cpb3 := row_cell (k := 3) (v := .bool xmf) B_pb.out rfl
    have cpb4 := row_cell (k := 4) (v := .int .i64 xoff) B_pb.out rfl
    have cpb5 := row_cell (k := 5) (v := .int .u8 xttl) B_pb.out rfl
    have cpb6 := row_cell (k := 6) (v := .int .u8 xpr) B_pb.out rfl
    have cpb7 := row_cell (k := 7) (v := .int .u32 xsrc) B_pb.out rfl
    have cpb8 := row_cell (k := 8) (v := .int .u32 xdst) B_pb.out rfl
    have cpb9 := row_cell (k := 9) (v := .slice A xb.length c) B_pb.out rfl
    go_cut [11] (fun x wx => x = .pointer (some ⟨hpx, 0, none⟩) ∧ Hid (∃ A7 c7 A1 c1, wx.heap[hpx]? = some (.cells #[.int .u64 now, .slice A7 1 c7] 81) ∧ OP wx w8.heap.size (.slice A7 1 c7) [((⟨xtos, xid, xdf, xmf, xoff, xttl, xpr, xsrc, xdst, xb⟩ : Pk), A1, c1)] ∧ OB wx w8.heap.size (.slice A1 xb.length c1) xb ∧ Ex (fun k => k = hpx) w8 wx))
    case first =>
      have hS0 : Ex (fun k => k = hpx) w8 w8.drew := (Ex.refl _ w8).drew
      refine wp_region_held_drew (S := fun W => Ex (fun k => k = hpx) w8 W) (by kernel_rfl) hS0 (fun _ => ?_)
      have HX_w9 := Lib.hid ((Ex.refl (fun _ => False) w8).drew)
      generalize w8.drew = w9 at hS0 HX_w9 ⊢
      refine wpAnyH_take (i := 0) (oi := { dst := some 87, op := Go.Op.move (Go.Operand.tmp 11), type := 79, pos := "frag.go:136", after := #[], guard := none }) (v := ?v14) rfl (by kernel_rfl) (by kernel_rfl) (by kernel_rfl) (fun _ _ _ h => h) (Or.inl ⟨by rfl, ?hy14⟩) (by assumption) ?rest14
      case hy14 => (intro w hSw; (try dsimp only at hSw); have ecpb0 := hSw.cell cpb0 HPBH.out; have ecpb1 := hSw.cell cpb1 HPBH.out; have ecpb2 := hSw.cell cpb2 HPBH.out; have ecpb3 := hSw.cell cpb3 HPBH.out; have ecpb4 := hSw.cell cpb4 HPBH.out; have ecpb5 := hSw.cell cpb5 HPBH.out; have ecpb6 := hSw.cell cpb6 HPBH.out; have ecpb7 := hSw.cell cpb7 HPBH.out; have ecpb8 := hSw.cell cpb8 HPBH.out; have ecpb9 := hSw.cell cpb9 HPBH.out; go_simp <;> with_reducible rfl)
      try simp only [Act.put, List.setIfInBounds_toArray, List.set_cons_zero, List.set_cons_succ]
      refine wpAnyH_take (i := 1) (oi := { dst := some 88, op := Go.Op.move (Go.Operand.tmp 11), type := 79, pos := "frag.go:136", after := #[], guard := none }) (v := ?v15) rfl (by kernel_rfl) (by kernel_rfl) (by kernel_rfl) (fun _ _ _ h => h) (Or.inl ⟨by rfl, ?hy15⟩) (by assumption) ?rest15
      case hy15 => (intro w hSw; (try dsimp only at hSw); have ecpb0 := hSw.cell cpb0 HPBH.out; have ecpb1 := hSw.cell cpb1 HPBH.out; have ecpb2 := hSw.cell cpb2 HPBH.out; have ecpb3 := hSw.cell cpb3 HPBH.out; have ecpb4 := hSw.cell cpb4 HPBH.out; have ecpb5 := hSw.cell cpb5 HPBH.out; have ecpb6 := hSw.cell cpb6 HPBH.out; have ecpb7 := hSw.cell cpb7 HPBH.out; have ecpb8 := hSw.cell cpb8 HPBH.out; have ecpb9 := hSw.cell cpb9 HPBH.out; go_simp <;> with_reducible rfl)
      try simp only [Act.put, List.setIfInBounds_toArray, List.set_cons_zero, List.set_cons_succ]
      refine wpAnyH_take (i := 2) (oi := { dst := some 89, op := Go.Op.nilCheck (Go.Operand.tmp 88), type := 0, pos := "frag.go:136", after := #[{ on := 1, ground := Go.Ground.data }], guard := none }) (v := ?v16) rfl (by kernel_rfl) (by kernel_rfl) (by kernel_rfl) (fun _ _ _ h => h) (Or.inl ⟨by rfl, ?hy16⟩) (by assumption) ?rest16
      case hy16 => (intro w hSw; (try dsimp only at hSw); have ecpb0 := hSw.cell cpb0 HPBH.out; have ecpb1 := hSw.cell cpb1 HPBH.out; have ecpb2 := hSw.cell cpb2 HPBH.out; have ecpb3 := hSw.cell cpb3 HPBH.out; have ecpb4 := hSw.cell cpb4 HPBH.out; have ecpb5 := hSw.cell cpb5 HPBH.out; have ecpb6 := hSw.cell cpb6 HPBH.out; have ecpb7 := hSw.cell cpb7 HPBH.out; have ecpb8 := hSw.cell cpb8 HPBH.out; have ecpb9 := hSw.cell cpb9 HPBH.out; go_simp <;> with_reducible rfl)
      try simp only [Act.put, List.setIfInBounds_toArray, List.set_cons_zero, List.set_cons_succ]
      refine wpAnyH_take (i := 3) (oi := { dst := some 90, op := Go.Op.fieldAddr 81 (Go.Operand.tmp 89) 1, type := 0, pos := "frag.go:136", after := #[{ on := 2, ground := Go.Ground.data }], guard := none }) (v := ?v17) rfl (by kernel_rfl) (by kernel_rfl) (by kernel_rfl) (fun _ _ _ h => h) (Or.inl ⟨by rfl, ?hy17⟩) (by assumption) ?rest17
      case hy17 => (intro w hSw; (try dsimp only at hSw); have ecpb0 := hSw.cell cpb0 HPBH.out; have ecpb1 := hSw.cell cpb1 HPBH.out; have ecpb2 := hSw.cell cpb2 HPBH.out; have ecpb3 := hSw.cell cpb3 HPBH.out; have ecpb4 := hSw.cell cpb4 HPBH.out; have ecpb5 := hSw.cell cpb5 HPBH.out; have ecpb6 := hSw.cell cpb6 HPBH.out; have ecpb7 := hSw.cell cpb7 HPBH.out; have ecpb8 := hSw.cell cpb8 HPBH.out; have ecpb9 := hSw.cell cpb9 HPBH.out; go_simp <;> with_reducible rfl)
      try simp only [Act.put, List.setIfInBounds_toArray, List.set_cons_zero, List.set_cons_succ]
      refine wpAnyH_take (i := 5) (oi := { dst := some 92, op := Go.Op.load 27 (Go.Operand.tmp 4), type := 27, pos := "frag.go:136", after := #[], guard := none }) (v := ?v18) rfl (by kernel_rfl) (by kernel_rfl) (by kernel_rfl) (fun _ _ _ h => h) (Or.inl ⟨by rfl, ?hy18⟩) (by assumption) ?rest18
      case hy18 => (intro w hSw; (try dsimp only at hSw); have ecpb0 := hSw.cell cpb0 HPBH.out; have ecpb1 := hSw.cell cpb1 HPBH.out; have ecpb2 := hSw.cell cpb2 HPBH.out; have ecpb3 := hSw.cell cpb3 HPBH.out; have ecpb4 := hSw.cell cpb4 HPBH.out; have ecpb5 := hSw.cell cpb5 HPBH.out; have ecpb6 := hSw.cell cpb6 HPBH.out; have ecpb7 := hSw.cell cpb7 HPBH.out; have ecpb8 := hSw.cell cpb8 HPBH.out; have ecpb9 := hSw.cell cpb9 HPBH.out; go_simp <;> with_reducible rfl)
      try simp only [Act.put, List.setIfInBounds_toArray, List.set_cons_zero, List.set_cons_succ]
      refine wpAnyH_ready (rs := [4, 6]) (by kernel_rfl) (by simp) ?_
      refine AllReadyH.cons (o := { dst := some 91, op := Go.Op.load 33 (Go.Operand.tmp 90), type := 33, pos := "frag.go:136", after := #[{ on := 3, ground := Go.Ground.data }], guard := none }) rfl (fun K hK => ?_) ?_
      ·
        have chpx1 := row_cell (k := 1) (v := .slice none 0 0) ((HX_w9.out.block hpx (row_lt B_hpx.out) id).trans B_hpx.out) rfl
        go_simp
        clear chpx1
        have hS_w9 : Ex (fun k => k = hpx) w8 w9 := ((Ex.refl (fun k => k = hpx) w8).trans (HX_w9.out.mono (fun _ _ h => h.elim)))
        refine hK.out _ _ hS_w9 (fun _ => ?_)
        refine wpAnyH_ready (rs := [6]) (by kernel_rfl) (by simp) ?_
        refine AllReadyH.cons (o := { dst := some 93, op := Go.Op.call { callee := Go.Callee.value (Go.Operand.func 25), args := #[Go.Operand.tmp 92], argTypes := #[27] }, type := 27, pos := "frag.go:136", after := #[{ on := 5, ground := Go.Ground.data }], guard := none }) rfl (fun K hK => ?_) AllReadyH.nil
        go_simp
        refine (own_any (fun _ => True) (⟨xtos, xid, xdf, xmf, xoff, xttl, xpr, xsrc, xdst, xb⟩ : Pk) A c _ (RB.keep HR8.out HX_w9.out (fun _ _ _ => id)) HA.out (by have := HL.out; show xb.length ≤ _; omega)).mono ?_
        rintro e wo ⟨A1, c1, rfl, ho, hx⟩
        have hv : pkv (⟨xtos, xid, xdf, xmf, xoff, xttl, xpr, xsrc, xdst, xb⟩ : Pk) (.slice A1 (⟨xtos, xid, xdf, xmf, xoff, xttl, xpr, xsrc, xdst, xb⟩ : Pk).b.length c1) = .agg #[.int .u8 xtos, .int .u16 xid, .bool xdf, .bool xmf, .int .i64 xoff, .int .u8 xttl, .int .u8 xpr, .int .u32 xsrc, .int .u32 xdst, .slice A1 xb.length c1] := rfl
        rw [hv]
        have HO := Lib.hid (show OB wo w9.heap.size (.slice A1 xb.length c1) xb from ho)
        have HOL := Lib.hid (show w8.heap.size ≤ w9.heap.size from HX_w9.out.size)
        clear hv ho
        have HX_wo := Lib.hid hx
        clear hx
        have hS_wo : Ex (fun k => k = hpx) w8 wo := (((Ex.refl (fun k => k = hpx) w8).trans (HX_w9.out.mono (fun _ _ h => h.elim))).trans (HX_wo.out.mono (fun _ _ h => h.elim)))
        refine hK.out _ _ hS_wo (fun _ => ?_)
        refine wpAnyH_ready (rs := [7]) (by kernel_rfl) (by simp) ?_
        refine AllReadyH.cons (o := { dst := some 94, op := Go.Op.buildSlice 33 1 #[(0, Go.Operand.tmp 93)], type := 33, pos := "frag.go:136", after := #[{ on := 6, ground := Go.Ground.data }], guard := none }) rfl (fun K hK => ?_) AllReadyH.nil
        go_simp
        have hx : Ex (fun _ => False) wo (wo.alloc (.cells #[.int .u8 xtos, .int .u16 xid, .bool xdf, .bool xmf, .int .i64 xoff, .int .u8 xttl, .int .u8 xpr, .int .u32 xsrc, .int .u32 xdst, .slice A1 xb.length c1] 27)) := (Ex.refl _ wo).alloc _
        have hb : (wo.alloc (.cells #[.int .u8 xtos, .int .u16 xid, .bool xdf, .bool xmf, .int .i64 xoff, .int .u8 xttl, .int .u8 xpr, .int .u32 xsrc, .int .u32 xdst, .slice A1 xb.length c1] 27)).heap[wo.heap.size]? = some (.cells #[.int .u8 xtos, .int .u16 xid, .bool xdf, .bool xmf, .int .i64 xoff, .int .u8 xttl, .int .u8 xpr, .int .u32 xsrc, .int .u32 xdst, .slice A1 xb.length c1] 27) := heap_alloc_new wo _
        obtain ⟨rw, hrw⟩ : ∃ rw, rw = wo.heap.size := ⟨_, rfl⟩
        have hb_rw : wo.heap.size ≤ rw := by omega
        rw [← hrw] at hb
        try simp only [← hrw]
        generalize wo.alloc (.cells #[.int .u8 xtos, .int .u16 xid, .bool xdf, .bool xmf, .int .i64 xoff, .int .u8 xttl, .int .u8 xpr, .int .u32 xsrc, .int .u32 xdst, .slice A1 xb.length c1] 27) = wq at hx hb ⊢
        clear hrw
        have HX_wq := Lib.hid hx
        clear hx
        have B_rw := Lib.hid hb
        clear hb
        have hS_wq : Ex (fun k => k = hpx) w8 wq := ((((Ex.refl (fun k => k = hpx) w8).trans (HX_w9.out.mono (fun _ _ h => h.elim))).trans (HX_wo.out.mono (fun _ _ h => h.elim))).trans (HX_wq.out.mono (fun _ _ h => h.elim)))
        refine hK.out _ _ hS_wq (fun _ => ?_)
        refine wpAnyH_ready (rs := [8]) (by kernel_rfl) (by simp) ?_
        refine AllReadyH.cons (o := { dst := some 95, op := Go.Op.call { callee := Go.Callee.builtin Go.Builtin.append, args := #[Go.Operand.tmp 91, Go.Operand.tmp 94], argTypes := #[33, 33] }, type := 33, pos := "frag.go:136", after := #[{ on := 4, ground := Go.Ground.data }, { on := 7, ground := Go.Ground.data }, { on := 6, ground := Go.Ground.chain }], guard := none }) rfl (fun K hK => ?_) AllReadyH.nil
        obtain ⟨v7, w7a, hrun, hown, hg7, _, _⟩ := run_append_row (Pr := Tryd.prog) wq wq.heap.size 33 33 27 i1 _ 10 56 Tryd.underlying33 hj hy0 hy1 hy2 rfl (by decide) (.slice none 0 0) 0 [] (World.ownsRow_nil _ _ _ _) (some ⟨rw, 0, none⟩) 1 1 (ocl ((⟨xtos, xid, xdf, xmf, xoff, xttl, xpr, xsrc, xdst, xb⟩ : Pk), A1, c1)) rfl (fun j u hu => ⟨_, rfl, by rw [Addr.add_lit]; exact row_cell B_rw.out (by simpa [ocl, pcl] using hu)⟩) (fun u hu => ocl_one _ u hu) (by simp [maxLen]) (by omega) (Nat.le_refl _)
        have hop7 : OP w7a wq.heap.size v7 [((⟨xtos, xid, xdf, xmf, xoff, xttl, xpr, xsrc, xdst, xb⟩ : Pk), A1, c1)] := by simpa [OP] using hown
        obtain ⟨A7, c7, hv7⟩ := hop7.shape
        subst hv7
        rw [if_pos (by simp [Region.wanted])]
        refine append_wp (.tmp 91) (.tmp 94) 33 rfl _ _ _ _ rfl rfl hrun ?_
        have hx : Ex (fun _ => False) wq w7a := (Ex.refl _ _).grown hg7 (fun k hk => by cases hk)
        have HOP7 := Lib.hid hop7
        have HOP7L := Lib.hid (show w8.heap.size ≤ wq.heap.size from ((((Ex.refl (fun k => k = hpx) w8).trans (HX_w9.out.mono (fun _ _ h => h.elim))).trans (HX_wo.out.mono (fun _ _ h => h.elim))).trans (HX_wq.out.mono (fun _ _ h => h.elim))).size)
        clear hrun hown hg7 hop7
        have HX_w7a := Lib.hid hx
        clear hx
        have hS_w7a : Ex (fun k => k = hpx) w8 w7a := (((((Ex.refl (fun k => k = hpx) w8).trans (HX_w9.out.mono (fun _ _ h => h.elim))).trans (HX_wo.out.mono (fun _ _ h => h.elim))).trans (HX_wq.out.mono (fun _ _ h => h.elim))).trans (HX_w7a.out.mono (fun _ _ h => h.elim)))
        refine hK.out _ _ hS_w7a (fun _ => ?_)
        refine wpAnyH_take (i := 9) (oi := { dst := some 96, op := Go.Op.nilCheck (Go.Operand.tmp 87), type := 0, pos := "frag.go:136", after := #[{ on := 0, ground := Go.Ground.data }, { on := 0, ground := Go.Ground.phase }, { on := 1, ground := Go.Ground.phase }, { on := 2, ground := Go.Ground.phase }, { on := 3, ground := Go.Ground.phase }, { on := 4, ground := Go.Ground.phase }, { on := 5, ground := Go.Ground.phase }, { on := 6, ground := Go.Ground.phase }, { on := 7, ground := Go.Ground.phase }, { on := 8, ground := Go.Ground.phase }], guard := none }) (v := ?v19) rfl (by kernel_rfl) (by kernel_rfl) (by kernel_rfl) (fun _ _ _ h => h) (Or.inl ⟨by rfl, ?hy19⟩) (by assumption) ?rest19
        case hy19 => (intro w hSw; (try dsimp only at hSw); have ecpb0 := hSw.cell cpb0 HPBH.out; have ecpb1 := hSw.cell cpb1 HPBH.out; have ecpb2 := hSw.cell cpb2 HPBH.out; have ecpb3 := hSw.cell cpb3 HPBH.out; have ecpb4 := hSw.cell cpb4 HPBH.out; have ecpb5 := hSw.cell cpb5 HPBH.out; have ecpb6 := hSw.cell cpb6 HPBH.out; have ecpb7 := hSw.cell cpb7 HPBH.out; have ecpb8 := hSw.cell cpb8 HPBH.out; have ecpb9 := hSw.cell cpb9 HPBH.out; go_simp <;> with_reducible rfl)
        try simp only [Act.put, List.setIfInBounds_toArray, List.set_cons_zero, List.set_cons_succ]
        refine wpAnyH_take (i := 10) (oi := { dst := some 97, op := Go.Op.fieldAddr 81 (Go.Operand.tmp 96) 1, type := 0, pos := "frag.go:136", after := #[{ on := 9, ground := Go.Ground.data }, { on := 0, ground := Go.Ground.phase }, { on := 1, ground := Go.Ground.phase }, { on := 2, ground := Go.Ground.phase }, { on := 3, ground := Go.Ground.phase }, { on := 4, ground := Go.Ground.phase }, { on := 5, ground := Go.Ground.phase }, { on := 6, ground := Go.Ground.phase }, { on := 7, ground := Go.Ground.phase }, { on := 8, ground := Go.Ground.phase }], guard := none }) (v := ?v20) rfl (by kernel_rfl) (by kernel_rfl) (by kernel_rfl) (fun _ _ _ h => h) (Or.inl ⟨by rfl, ?hy20⟩) (by assumption) ?rest20
        case hy20 => (intro w hSw; (try dsimp only at hSw); have ecpb0 := hSw.cell cpb0 HPBH.out; have ecpb1 := hSw.cell cpb1 HPBH.out; have ecpb2 := hSw.cell cpb2 HPBH.out; have ecpb3 := hSw.cell cpb3 HPBH.out; have ecpb4 := hSw.cell cpb4 HPBH.out; have ecpb5 := hSw.cell cpb5 HPBH.out; have ecpb6 := hSw.cell cpb6 HPBH.out; have ecpb7 := hSw.cell cpb7 HPBH.out; have ecpb8 := hSw.cell cpb8 HPBH.out; have ecpb9 := hSw.cell cpb9 HPBH.out; go_simp <;> with_reducible rfl)
        try simp only [Act.put, List.setIfInBounds_toArray, List.set_cons_zero, List.set_cons_succ]
        refine wpAnyH_ready (rs := [11]) (by kernel_rfl) (by simp) ?_
        refine AllReadyH.cons (o := { dst := none, op := Go.Op.store 33 (Go.Operand.tmp 97) (Go.Operand.tmp 95), type := 0, pos := "frag.go:136", after := #[{ on := 10, ground := Go.Ground.data }, { on := 8, ground := Go.Ground.data }, { on := 8, ground := Go.Ground.chain }, { on := 0, ground := Go.Ground.phase }, { on := 1, ground := Go.Ground.phase }, { on := 2, ground := Go.Ground.phase }, { on := 3, ground := Go.Ground.phase }, { on := 4, ground := Go.Ground.phase }, { on := 5, ground := Go.Ground.phase }, { on := 6, ground := Go.Ground.phase }, { on := 7, ground := Go.Ground.phase }, { on := 8, ground := Go.Ground.phase }], guard := none }) rfl (fun K hK => ?_) AllReadyH.nil
        have chpx1 := row_cell (k := 1) (v := .slice none 0 0) (((((HX_w9.out.trans HX_wo.out).trans HX_wq.out).trans HX_w7a.out).block hpx (row_lt B_hpx.out) id).trans B_hpx.out) rfl
        have fhpx1 := row_frozen (((((HX_w9.out.trans HX_wo.out).trans HX_wq.out).trans HX_w7a.out).block hpx (row_lt B_hpx.out) id).trans B_hpx.out) 1
        go_simp
        replace B_hpx := Lib.hid (((((HX_w9.out.trans HX_wo.out).trans HX_wq.out).trans HX_w7a.out).block hpx (row_lt B_hpx.out) id).trans B_hpx.out)
        have hb : (w7a.setCell ⟨hpx, 1, none⟩ (.slice A7 1 c7)).heap[hpx]? = some (.cells #[.int .u64 now, .slice A7 1 c7] 81) := (row_set B_hpx.out 1 (.slice A7 1 c7))
        have hx : Ex (fun j => j = hpx) w7a (w7a.setCell ⟨hpx, 1, none⟩ (.slice A7 1 c7)) := ((Ex.refl (fun j => j = hpx) w7a).setCell (p := ⟨hpx, 1, none⟩) (.inl rfl) (.slice A7 1 c7))
        clear chpx1 fhpx1
        generalize (w7a.setCell ⟨hpx, 1, none⟩ (.slice A7 1 c7)) = wst at hx hb ⊢
        clear B_hpx
        have HX_wst := Lib.hid hx
        clear hx
        have B_hpx := Lib.hid hb
        clear hb
        have hS_wst : Ex (fun k => k = hpx) w8 wst := ((((((Ex.refl (fun k => k = hpx) w8).trans (HX_w9.out.mono (fun _ _ h => h.elim))).trans (HX_wo.out.mono (fun _ _ h => h.elim))).trans (HX_wq.out.mono (fun _ _ h => h.elim))).trans (HX_w7a.out.mono (fun _ _ h => h.elim))).trans HX_wst.out)
        refine hK.out _ _ hS_wst (fun _ => ?_)
        refine wpAnyH_done (by kernel_rfl) ?_ _
        go_wp2_with fail
        go_meet
        have hl7 := HOP7.out.lt
        have hol2 := HOL.out
        have hhp := HPL8.out
        refine ⟨rfl, Lib.hid ⟨A7, c7, A1, c1, B_hpx.out, ?_, ?_, ((((((Ex.refl (fun k => k = hpx) w8).trans (HX_w9.out.mono (fun _ _ h => h.elim))).trans (HX_wo.out.mono (fun _ _ h => h.elim))).trans (HX_wq.out.mono (fun _ _ h => h.elim))).trans (HX_w7a.out.mono (fun _ _ h => h.elim))).trans HX_wst.out)⟩⟩
        · exact OP.mono (HOP7.out.keep HX_wst.out (fun k hk _ _ e => by have h1 := (hl7 k hk).1; have h2 := HOP7L.out; omega)) HOP7L.out
        · exact ((OB.keepB (OB.keep HO.out (HX_wq.out.trans HX_w7a.out) (fun _ _ _ _ => id)) HX_wst.out (by omega))).mono HOL.out
      refine AllReadyH.cons (o := { dst := some 93, op := Go.Op.call { callee := Go.Callee.value (Go.Operand.func 25), args := #[Go.Operand.tmp 92], argTypes := #[27] }, type := 27, pos := "frag.go:136", after := #[{ on := 5, ground := Go.Ground.data }], guard := none }) rfl (fun K hK => ?_) AllReadyH.nil
      go_simp
      refine (own_any (fun _ => True) (⟨xtos, xid, xdf, xmf, xoff, xttl, xpr, xsrc, xdst, xb⟩ : Pk) A c _ (RB.keep HR8.out HX_w9.out (fun _ _ _ => id)) HA.out (by have := HL.out; show xb.length ≤ _; omega)).mono ?_
      rintro e wo ⟨A1, c1, rfl, ho, hx⟩
      have hv : pkv (⟨xtos, xid, xdf, xmf, xoff, xttl, xpr, xsrc, xdst, xb⟩ : Pk) (.slice A1 (⟨xtos, xid, xdf, xmf, xoff, xttl, xpr, xsrc, xdst, xb⟩ : Pk).b.length c1) = .agg #[.int .u8 xtos, .int .u16 xid, .bool xdf, .bool xmf, .int .i64 xoff, .int .u8 xttl, .int .u8 xpr, .int .u32 xsrc, .int .u32 xdst, .slice A1 xb.length c1] := rfl
      rw [hv]
      have HO := Lib.hid (show OB wo w9.heap.size (.slice A1 xb.length c1) xb from ho)
      have HOL := Lib.hid (show w8.heap.size ≤ w9.heap.size from HX_w9.out.size)
      clear hv ho
      have HX_wo := Lib.hid hx
      clear hx
      have hS_wo : Ex (fun k => k = hpx) w8 wo := (((Ex.refl (fun k => k = hpx) w8).trans (HX_w9.out.mono (fun _ _ h => h.elim))).trans (HX_wo.out.mono (fun _ _ h => h.elim)))
      refine hK.out _ _ hS_wo (fun _ => ?_)
      refine wpAnyH_ready (rs := [4, 7]) (by kernel_rfl) (by simp) ?_
      refine AllReadyH.cons (o := { dst := some 91, op := Go.Op.load 33 (Go.Operand.tmp 90), type := 33, pos := "frag.go:136", after := #[{ on := 3, ground := Go.Ground.data }], guard := none }) rfl (fun K hK => ?_) ?_
      ·
        have chpx1 := row_cell (k := 1) (v := .slice none 0 0) (((HX_w9.out.trans HX_wo.out).block hpx (row_lt B_hpx.out) id).trans B_hpx.out) rfl
        go_simp
        clear chpx1
        have hS_wo : Ex (fun k => k = hpx) w8 wo := (((Ex.refl (fun k => k = hpx) w8).trans (HX_w9.out.mono (fun _ _ h => h.elim))).trans (HX_wo.out.mono (fun _ _ h => h.elim)))
        refine hK.out _ _ hS_wo (fun _ => ?_)
        refine wpAnyH_ready (rs := [7]) (by kernel_rfl) (by simp) ?_
        refine AllReadyH.cons (o := { dst := some 94, op := Go.Op.buildSlice 33 1 #[(0, Go.Operand.tmp 93)], type := 33, pos := "frag.go:136", after := #[{ on := 6, ground := Go.Ground.data }], guard := none }) rfl (fun K hK => ?_) AllReadyH.nil
        go_simp
        have hx : Ex (fun _ => False) wo (wo.alloc (.cells #[.int .u8 xtos, .int .u16 xid, .bool xdf, .bool xmf, .int .i64 xoff, .int .u8 xttl, .int .u8 xpr, .int .u32 xsrc, .int .u32 xdst, .slice A1 xb.length c1] 27)) := (Ex.refl _ wo).alloc _
        have hb : (wo.alloc (.cells #[.int .u8 xtos, .int .u16 xid, .bool xdf, .bool xmf, .int .i64 xoff, .int .u8 xttl, .int .u8 xpr, .int .u32 xsrc, .int .u32 xdst, .slice A1 xb.length c1] 27)).heap[wo.heap.size]? = some (.cells #[.int .u8 xtos, .int .u16 xid, .bool xdf, .bool xmf, .int .i64 xoff, .int .u8 xttl, .int .u8 xpr, .int .u32 xsrc, .int .u32 xdst, .slice A1 xb.length c1] 27) := heap_alloc_new wo _
        obtain ⟨rw, hrw⟩ : ∃ rw, rw = wo.heap.size := ⟨_, rfl⟩
        have hb_rw : wo.heap.size ≤ rw := by omega
        rw [← hrw] at hb
        try simp only [← hrw]
        generalize wo.alloc (.cells #[.int .u8 xtos, .int .u16 xid, .bool xdf, .bool xmf, .int .i64 xoff, .int .u8 xttl, .int .u8 xpr, .int .u32 xsrc, .int .u32 xdst, .slice A1 xb.length c1] 27) = wq at hx hb ⊢
        clear hrw
        have HX_wq := Lib.hid hx
        clear hx
        have B_rw := Lib.hid hb
        clear hb
        have hS_wq : Ex (fun k => k = hpx) w8 wq := ((((Ex.refl (fun k => k = hpx) w8).trans (HX_w9.out.mono (fun _ _ h => h.elim))).trans (HX_wo.out.mono (fun _ _ h => h.elim))).trans (HX_wq.out.mono (fun _ _ h => h.elim)))
        refine hK.out _ _ hS_wq (fun _ => ?_)
        refine wpAnyH_ready (rs := [8]) (by kernel_rfl) (by simp) ?_
        refine AllReadyH.cons (o := { dst := some 95, op := Go.Op.call { callee := Go.Callee.builtin Go.Builtin.append, args := #[Go.Operand.tmp 91, Go.Operand.tmp 94], argTypes := #[33, 33] }, type := 33, pos := "frag.go:136", after := #[{ on := 4, ground := Go.Ground.data }, { on := 7, ground := Go.Ground.data }, { on := 6, ground := Go.Ground.chain }], guard := none }) rfl (fun K hK => ?_) AllReadyH.nil
        obtain ⟨v7, w7a, hrun, hown, hg7, _, _⟩ := run_append_row (Pr := Tryd.prog) wq wq.heap.size 33 33 27 i1 _ 10 56 Tryd.underlying33 hj hy0 hy1 hy2 rfl (by decide) (.slice none 0 0) 0 [] (World.ownsRow_nil _ _ _ _) (some ⟨rw, 0, none⟩) 1 1 (ocl ((⟨xtos, xid, xdf, xmf, xoff, xttl, xpr, xsrc, xdst, xb⟩ : Pk), A1, c1)) rfl (fun j u hu => ⟨_, rfl, by rw [Addr.add_lit]; exact row_cell B_rw.out (by simpa [ocl, pcl] using hu)⟩) (fun u hu => ocl_one _ u hu) (by simp [maxLen]) (by omega) (Nat.le_refl _)
        have hop7 : OP w7a wq.heap.size v7 [((⟨xtos, xid, xdf, xmf, xoff, xttl, xpr, xsrc, xdst, xb⟩ : Pk), A1, c1)] := by simpa [OP] using hown
        obtain ⟨A7, c7, hv7⟩ := hop7.shape
        subst hv7
        rw [if_pos (by simp [Region.wanted])]
        refine append_wp (.tmp 91) (.tmp 94) 33 rfl _ _ _ _ rfl rfl hrun ?_
        have hx : Ex (fun _ => False) wq w7a := (Ex.refl _ _).grown hg7 (fun k hk => by cases hk)
        have HOP7 := Lib.hid hop7
        have HOP7L := Lib.hid (show w8.heap.size ≤ wq.heap.size from ((((Ex.refl (fun k => k = hpx) w8).trans (HX_w9.out.mono (fun _ _ h => h.elim))).trans (HX_wo.out.mono (fun _ _ h => h.elim))).trans (HX_wq.out.mono (fun _ _ h => h.elim))).size)
        clear hrun hown hg7 hop7
        have HX_w7a := Lib.hid hx
        clear hx
        have hS_w7a : Ex (fun k => k = hpx) w8 w7a := (((((Ex.refl (fun k => k = hpx) w8).trans (HX_w9.out.mono (fun _ _ h => h.elim))).trans (HX_wo.out.mono (fun _ _ h => h.elim))).trans (HX_wq.out.mono (fun _ _ h => h.elim))).trans (HX_w7a.out.mono (fun _ _ h => h.elim)))
        refine hK.out _ _ hS_w7a (fun _ => ?_)
        refine wpAnyH_take (i := 9) (oi := { dst := some 96, op := Go.Op.nilCheck (Go.Operand.tmp 87), type := 0, pos := "frag.go:136", after := #[{ on := 0, ground := Go.Ground.data }, { on := 0, ground := Go.Ground.phase }, { on := 1, ground := Go.Ground.phase }, { on := 2, ground := Go.Ground.phase }, { on := 3, ground := Go.Ground.phase }, { on := 4, ground := Go.Ground.phase }, { on := 5, ground := Go.Ground.phase }, { on := 6, ground := Go.Ground.phase }, { on := 7, ground := Go.Ground.phase }, { on := 8, ground := Go.Ground.phase }], guard := none }) (v := ?v21) rfl (by kernel_rfl) (by kernel_rfl) (by kernel_rfl) (fun _ _ _ h => h) (Or.inl ⟨by rfl, ?hy21⟩) (by assumption) ?rest21
        case hy21 => (intro w hSw; (try dsimp only at hSw); have ecpb0 := hSw.cell cpb0 HPBH.out; have ecpb1 := hSw.cell cpb1 HPBH.out; have ecpb2 := hSw.cell cpb2 HPBH.out; have ecpb3 := hSw.cell cpb3 HPBH.out; have ecpb4 := hSw.cell cpb4 HPBH.out; have ecpb5 := hSw.cell cpb5 HPBH.out; have ecpb6 := hSw.cell cpb6 HPBH.out; have ecpb7 := hSw.cell cpb7 HPBH.out; have ecpb8 := hSw.cell cpb8 HPBH.out; have ecpb9 := hSw.cell cpb9 HPBH.out; go_simp <;> with_reducible rfl)
        try simp only [Act.put, List.setIfInBounds_toArray, List.set_cons_zero, List.set_cons_succ]
        refine wpAnyH_take (i := 10) (oi := { dst := some 97, op := Go.Op.fieldAddr 81 (Go.Operand.tmp 96) 1, type := 0, pos := "frag.go:136", after := #[{ on := 9, ground := Go.Ground.data }, { on := 0, ground := Go.Ground.phase }, { on := 1, ground := Go.Ground.phase }, { on := 2, ground := Go.Ground.phase }, { on := 3, ground := Go.Ground.phase }, { on := 4, ground := Go.Ground.phase }, { on := 5, ground := Go.Ground.phase }, { on := 6, ground := Go.Ground.phase }, { on := 7, ground := Go.Ground.phase }, { on := 8, ground := Go.Ground.phase }], guard := none }) (v := ?v22) rfl (by kernel_rfl) (by kernel_rfl) (by kernel_rfl) (fun _ _ _ h => h) (Or.inl ⟨by rfl, ?hy22⟩) (by assumption) ?rest22
        case hy22 => (intro w hSw; (try dsimp only at hSw); have ecpb0 := hSw.cell cpb0 HPBH.out; have ecpb1 := hSw.cell cpb1 HPBH.out; have ecpb2 := hSw.cell cpb2 HPBH.out; have ecpb3 := hSw.cell cpb3 HPBH.out; have ecpb4 := hSw.cell cpb4 HPBH.out; have ecpb5 := hSw.cell cpb5 HPBH.out; have ecpb6 := hSw.cell cpb6 HPBH.out; have ecpb7 := hSw.cell cpb7 HPBH.out; have ecpb8 := hSw.cell cpb8 HPBH.out; have ecpb9 := hSw.cell cpb9 HPBH.out; go_simp <;> with_reducible rfl)
        try simp only [Act.put, List.setIfInBounds_toArray, List.set_cons_zero, List.set_cons_succ]
        refine wpAnyH_ready (rs := [11]) (by kernel_rfl) (by simp) ?_
        refine AllReadyH.cons (o := { dst := none, op := Go.Op.store 33 (Go.Operand.tmp 97) (Go.Operand.tmp 95), type := 0, pos := "frag.go:136", after := #[{ on := 10, ground := Go.Ground.data }, { on := 8, ground := Go.Ground.data }, { on := 8, ground := Go.Ground.chain }, { on := 0, ground := Go.Ground.phase }, { on := 1, ground := Go.Ground.phase }, { on := 2, ground := Go.Ground.phase }, { on := 3, ground := Go.Ground.phase }, { on := 4, ground := Go.Ground.phase }, { on := 5, ground := Go.Ground.phase }, { on := 6, ground := Go.Ground.phase }, { on := 7, ground := Go.Ground.phase }, { on := 8, ground := Go.Ground.phase }], guard := none }) rfl (fun K hK => ?_) AllReadyH.nil
        have chpx1 := row_cell (k := 1) (v := .slice none 0 0) (((((HX_w9.out.trans HX_wo.out).trans HX_wq.out).trans HX_w7a.out).block hpx (row_lt B_hpx.out) id).trans B_hpx.out) rfl
        have fhpx1 := row_frozen (((((HX_w9.out.trans HX_wo.out).trans HX_wq.out).trans HX_w7a.out).block hpx (row_lt B_hpx.out) id).trans B_hpx.out) 1
        go_simp
        replace B_hpx := Lib.hid (((((HX_w9.out.trans HX_wo.out).trans HX_wq.out).trans HX_w7a.out).block hpx (row_lt B_hpx.out) id).trans B_hpx.out)
        have hb : (w7a.setCell ⟨hpx, 1, none⟩ (.slice A7 1 c7)).heap[hpx]? = some (.cells #[.int .u64 now, .slice A7 1 c7] 81) := (row_set B_hpx.out 1 (.slice A7 1 c7))
        have hx : Ex (fun j => j = hpx) w7a (w7a.setCell ⟨hpx, 1, none⟩ (.slice A7 1 c7)) := ((Ex.refl (fun j => j = hpx) w7a).setCell (p := ⟨hpx, 1, none⟩) (.inl rfl) (.slice A7 1 c7))
        clear chpx1 fhpx1
        generalize (w7a.setCell ⟨hpx, 1, none⟩ (.slice A7 1 c7)) = wst at hx hb ⊢
        clear B_hpx
        have HX_wst := Lib.hid hx
        clear hx
        have B_hpx := Lib.hid hb
        clear hb
        have hS_wst : Ex (fun k => k = hpx) w8 wst := ((((((Ex.refl (fun k => k = hpx) w8).trans (HX_w9.out.mono (fun _ _ h => h.elim))).trans (HX_wo.out.mono (fun _ _ h => h.elim))).trans (HX_wq.out.mono (fun _ _ h => h.elim))).trans (HX_w7a.out.mono (fun _ _ h => h.elim))).trans HX_wst.out)
        refine hK.out _ _ hS_wst (fun _ => ?_)
        refine wpAnyH_done (by kernel_rfl) ?_ _
        go_wp2_with fail
        go_meet
        have hl7 := HOP7.out.lt
        have hol2 := HOL.out
        have hhp := HPL8.out
        refine ⟨rfl, Lib.hid ⟨A7, c7, A1, c1, B_hpx.out, ?_, ?_, ((((((Ex.refl (fun k => k = hpx) w8).trans (HX_w9.out.mono (fun _ _ h => h.elim))).trans (HX_wo.out.mono (fun _ _ h => h.elim))).trans (HX_wq.out.mono (fun _ _ h => h.elim))).trans (HX_w7a.out.mono (fun _ _ h => h.elim))).trans HX_wst.out)⟩⟩
        · exact OP.mono (HOP7.out.keep HX_wst.out (fun k hk _ _ e => by have h1 := (hl7 k hk).1; have h2 := HOP7L.out; omega)) HOP7L.out
        · exact ((OB.keepB (OB.keep HO.out (HX_wq.out.trans HX_w7a.out) (fun _ _ _ _ => id)) HX_wst.out (by omega))).mono HOL.out
      refine AllReadyH.cons (o := { dst := some 94, op := Go.Op.buildSlice 33 1 #[(0, Go.Operand.tmp 93)], type := 33, pos := "frag.go:136", after := #[{ on := 6, ground := Go.Ground.data }], guard := none }) rfl (fun K hK => ?_) AllReadyH.nil
      go_simp
      have hx : Ex (fun _ => False) wo (wo.alloc (.cells #[.int .u8 xtos, .int .u16 xid, .bool xdf, .bool xmf, .int .i64 xoff, .int .u8 xttl, .int .u8 xpr, .int .u32 xsrc, .int .u32 xdst, .slice A1 xb.length c1] 27)) := (Ex.refl _ wo).alloc _
      have hb : (wo.alloc (.cells #[.int .u8 xtos, .int .u16 xid, .bool xdf, .bool xmf, .int .i64 xoff, .int .u8 xttl, .int .u8 xpr, .int .u32 xsrc, .int .u32 xdst, .slice A1 xb.length c1] 27)).heap[wo.heap.size]? = some (.cells #[.int .u8 xtos, .int .u16 xid, .bool xdf, .bool xmf, .int .i64 xoff, .int .u8 xttl, .int .u8 xpr, .int .u32 xsrc, .int .u32 xdst, .slice A1 xb.length c1] 27) := heap_alloc_new wo _
      obtain ⟨rw, hrw⟩ : ∃ rw, rw = wo.heap.size := ⟨_, rfl⟩
      have hb_rw : wo.heap.size ≤ rw := by omega
      rw [← hrw] at hb
      try simp only [← hrw]
      generalize wo.alloc (.cells #[.int .u8 xtos, .int .u16 xid, .bool xdf, .bool xmf, .int .i64 xoff, .int .u8 xttl, .int .u8 xpr, .int .u32 xsrc, .int .u32 xdst, .slice A1 xb.length c1] 27) = wq at hx hb ⊢
      clear hrw
      have HX_wq := Lib.hid hx
      clear hx
      have B_rw := Lib.hid hb
      clear hb
      have hS_wq : Ex (fun k => k = hpx) w8 wq := ((((Ex.refl (fun k => k = hpx) w8).trans (HX_w9.out.mono (fun _ _ h => h.elim))).trans (HX_wo.out.mono (fun _ _ h => h.elim))).trans (HX_wq.out.mono (fun _ _ h => h.elim)))
      refine hK.out _ _ hS_wq (fun _ => ?_)
      refine wpAnyH_ready (rs := [4]) (by kernel_rfl) (by simp) ?_
      refine AllReadyH.cons (o := { dst := some 91, op := Go.Op.load 33 (Go.Operand.tmp 90), type := 33, pos := "frag.go:136", after := #[{ on := 3, ground := Go.Ground.data }], guard := none }) rfl (fun K hK => ?_) AllReadyH.nil
      have chpx1 := row_cell (k := 1) (v := .slice none 0 0) ((((HX_w9.out.trans HX_wo.out).trans HX_wq.out).block hpx (row_lt B_hpx.out) id).trans B_hpx.out) rfl
      go_simp
      clear chpx1
      have hS_wq : Ex (fun k => k = hpx) w8 wq := ((((Ex.refl (fun k => k = hpx) w8).trans (HX_w9.out.mono (fun _ _ h => h.elim))).trans (HX_wo.out.mono (fun _ _ h => h.elim))).trans (HX_wq.out.mono (fun _ _ h => h.elim)))
      refine hK.out _ _ hS_wq (fun _ => ?_)
      refine wpAnyH_ready (rs := [8]) (by kernel_rfl) (by simp) ?_
      refine AllReadyH.cons (o := { dst := some 95, op := Go.Op.call { callee := Go.Callee.builtin Go.Builtin.append, args := #[Go.Operand.tmp 91, Go.Operand.tmp 94], argTypes := #[33, 33] }, type := 33, pos := "frag.go:136", after := #[{ on := 4, ground := Go.Ground.data }, { on := 7, ground := Go.Ground.data }, { on := 6, ground := Go.Ground.chain }], guard := none }) rfl (fun K hK => ?_) AllReadyH.nil
      obtain ⟨v7, w7a, hrun, hown, hg7, _, _⟩ := run_append_row (Pr := Tryd.prog) wq wq.heap.size 33 33 27 i1 _ 10 56 Tryd.underlying33 hj hy0 hy1 hy2 rfl (by decide) (.slice none 0 0) 0 [] (World.ownsRow_nil _ _ _ _) (some ⟨rw, 0, none⟩) 1 1 (ocl ((⟨xtos, xid, xdf, xmf, xoff, xttl, xpr, xsrc, xdst, xb⟩ : Pk), A1, c1)) rfl (fun j u hu => ⟨_, rfl, by rw [Addr.add_lit]; exact row_cell B_rw.out (by simpa [ocl, pcl] using hu)⟩) (fun u hu => ocl_one _ u hu) (by simp [maxLen]) (by omega) (Nat.le_refl _)
      have hop7 : OP w7a wq.heap.size v7 [((⟨xtos, xid, xdf, xmf, xoff, xttl, xpr, xsrc, xdst, xb⟩ : Pk), A1, c1)] := by simpa [OP] using hown
      obtain ⟨A7, c7, hv7⟩ := hop7.shape
      subst hv7
      rw [if_pos (by simp [Region.wanted])]
      refine append_wp (.tmp 91) (.tmp 94) 33 rfl _ _ _ _ rfl rfl hrun ?_
      have hx : Ex (fun _ => False) wq w7a := (Ex.refl _ _).grown hg7 (fun k hk => by cases hk)
      have HOP7 := Lib.hid hop7
      have HOP7L := Lib.hid (show w8.heap.size ≤ wq.heap.size from ((((Ex.refl (fun k => k = hpx) w8).trans (HX_w9.out.mono (fun _ _ h => h.elim))).trans (HX_wo.out.mono (fun _ _ h => h.elim))).trans (HX_wq.out.mono (fun _ _ h => h.elim))).size)
      clear hrun hown hg7 hop7
      have HX_w7a := Lib.hid hx
      clear hx
      have hS_w7a : Ex (fun k => k = hpx) w8 w7a := (((((Ex.refl (fun k => k = hpx) w8).trans (HX_w9.out.mono (fun _ _ h => h.elim))).trans (HX_wo.out.mono (fun _ _ h => h.elim))).trans (HX_wq.out.mono (fun _ _ h => h.elim))).trans (HX_w7a.out.mono (fun _ _ h => h.elim)))
      refine hK.out _ _ hS_w7a (fun _ => ?_)
      refine wpAnyH_take (i := 9) (oi := { dst := some 96, op := Go.Op.nilCheck (Go.Operand.tmp 87), type := 0, pos := "frag.go:136", after := #[{ on := 0, ground := Go.Ground.data }, { on := 0, ground := Go.Ground.phase }, { on := 1, ground := Go.Ground.phase }, { on := 2, ground := Go.Ground.phase }, { on := 3, ground := Go.Ground.phase }, { on := 4, ground := Go.Ground.phase }, { on := 5, ground := Go.Ground.phase }, { on := 6, ground := Go.Ground.phase }, { on := 7, ground := Go.Ground.phase }, { on := 8, ground := Go.Ground.phase }], guard := none }) (v := ?v23) rfl (by kernel_rfl) (by kernel_rfl) (by kernel_rfl) (fun _ _ _ h => h) (Or.inl ⟨by rfl, ?hy23⟩) (by assumption) ?rest23
      case hy23 => (intro w hSw; (try dsimp only at hSw); have ecpb0 := hSw.cell cpb0 HPBH.out; have ecpb1 := hSw.cell cpb1 HPBH.out; have ecpb2 := hSw.cell cpb2 HPBH.out; have ecpb3 := hSw.cell cpb3 HPBH.out; have ecpb4 := hSw.cell cpb4 HPBH.out; have ecpb5 := hSw.cell cpb5 HPBH.out; have ecpb6 := hSw.cell cpb6 HPBH.out; have ecpb7 := hSw.cell cpb7 HPBH.out; have ecpb8 := hSw.cell cpb8 HPBH.out; have ecpb9 := hSw.cell cpb9 HPBH.out; go_simp <;> with_reducible rfl)
      try simp only [Act.put, List.setIfInBounds_toArray, List.set_cons_zero, List.set_cons_succ]
      refine wpAnyH_take (i := 10) (oi := { dst := some 97, op := Go.Op.fieldAddr 81 (Go.Operand.tmp 96) 1, type := 0, pos := "frag.go:136", after := #[{ on := 9, ground := Go.Ground.data }, { on := 0, ground := Go.Ground.phase }, { on := 1, ground := Go.Ground.phase }, { on := 2, ground := Go.Ground.phase }, { on := 3, ground := Go.Ground.phase }, { on := 4, ground := Go.Ground.phase }, { on := 5, ground := Go.Ground.phase }, { on := 6, ground := Go.Ground.phase }, { on := 7, ground := Go.Ground.phase }, { on := 8, ground := Go.Ground.phase }], guard := none }) (v := ?v24) rfl (by kernel_rfl) (by kernel_rfl) (by kernel_rfl) (fun _ _ _ h => h) (Or.inl ⟨by rfl, ?hy24⟩) (by assumption) ?rest24
      case hy24 => (intro w hSw; (try dsimp only at hSw); have ecpb0 := hSw.cell cpb0 HPBH.out; have ecpb1 := hSw.cell cpb1 HPBH.out; have ecpb2 := hSw.cell cpb2 HPBH.out; have ecpb3 := hSw.cell cpb3 HPBH.out; have ecpb4 := hSw.cell cpb4 HPBH.out; have ecpb5 := hSw.cell cpb5 HPBH.out; have ecpb6 := hSw.cell cpb6 HPBH.out; have ecpb7 := hSw.cell cpb7 HPBH.out; have ecpb8 := hSw.cell cpb8 HPBH.out; have ecpb9 := hSw.cell cpb9 HPBH.out; go_simp <;> with_reducible rfl)
      try simp only [Act.put, List.setIfInBounds_toArray, List.set_cons_zero, List.set_cons_succ]
      refine wpAnyH_ready (rs := [11]) (by kernel_rfl) (by simp) ?_
      refine AllReadyH.cons (o := { dst := none, op := Go.Op.store 33 (Go.Operand.tmp 97) (Go.Operand.tmp 95), type := 0, pos := "frag.go:136", after := #[{ on := 10, ground := Go.Ground.data }, { on := 8, ground := Go.Ground.data }, { on := 8, ground := Go.Ground.chain }, { on := 0, ground := Go.Ground.phase }, { on := 1, ground := Go.Ground.phase }, { on := 2, ground := Go.Ground.phase }, { on := 3, ground := Go.Ground.phase }, { on := 4, ground := Go.Ground.phase }, { on := 5, ground := Go.Ground.phase }, { on := 6, ground := Go.Ground.phase }, { on := 7, ground := Go.Ground.phase }, { on := 8, ground := Go.Ground.phase }], guard := none }) rfl (fun K hK => ?_) AllReadyH.nil
      have chpx1 := row_cell (k := 1) (v := .slice none 0 0) (((((HX_w9.out.trans HX_wo.out).trans HX_wq.out).trans HX_w7a.out).block hpx (row_lt B_hpx.out) id).trans B_hpx.out) rfl
      have fhpx1 := row_frozen (((((HX_w9.out.trans HX_wo.out).trans HX_wq.out).trans HX_w7a.out).block hpx (row_lt B_hpx.out) id).trans B_hpx.out) 1
      go_simp
      replace B_hpx := Lib.hid (((((HX_w9.out.trans HX_wo.out).trans HX_wq.out).trans HX_w7a.out).block hpx (row_lt B_hpx.out) id).trans B_hpx.out)
      have hb : (w7a.setCell ⟨hpx, 1, none⟩ (.slice A7 1 c7)).heap[hpx]? = some (.cells #[.int .u64 now, .slice A7 1 c7] 81) := (row_set B_hpx.out 1 (.slice A7 1 c7))
      have hx : Ex (fun j => j = hpx) w7a (w7a.setCell ⟨hpx, 1, none⟩ (.slice A7 1 c7)) := ((Ex.refl (fun j => j = hpx) w7a).setCell (p := ⟨hpx, 1, none⟩) (.inl rfl) (.slice A7 1 c7))
      clear chpx1 fhpx1
      generalize (w7a.setCell ⟨hpx, 1, none⟩ (.slice A7 1 c7)) = wst at hx hb ⊢
      clear B_hpx
      have HX_wst := Lib.hid hx
      clear hx
      have B_hpx := Lib.hid hb
      clear hb
      have hS_wst : Ex (fun k => k = hpx) w8 wst := ((((((Ex.refl (fun k => k = hpx) w8).trans (HX_w9.out.mono (fun _ _ h => h.elim))).trans (HX_wo.out.mono (fun _ _ h => h.elim))).trans (HX_wq.out.mono (fun _ _ h => h.elim))).trans (HX_w7a.out.mono (fun _ _ h => h.elim))).trans HX_wst.out)
      refine hK.out _ _ hS_wst (fun _ => ?_)
      refine wpAnyH_done (by kernel_rfl) ?_ _
      go_wp2_with fail
      go_meet
      have hl7 := HOP7.out.lt
      have hol2 := HOL.out
      have hhp := HPL8.out
      refine ⟨rfl, Lib.hid ⟨A7, c7, A1, c1, B_hpx.out, ?_, ?_, ((((((Ex.refl (fun k => k = hpx) w8).trans (HX_w9.out.mono (fun _ _ h => h.elim))).trans (HX_wo.out.mono (fun _ _ h => h.elim))).trans (HX_wq.out.mono (fun _ _ h => h.elim))).trans (HX_w7a.out.mono (fun _ _ h => h.elim))).trans HX_wst.out)⟩⟩
      · exact OP.mono (HOP7.out.keep HX_wst.out (fun k hk _ _ e => by have h1 := (hl7 k hk).1; have h2 := HOP7L.out; omega)) HOP7L.out
      · exact ((OB.keepB (OB.keep HO.out (HX_wq.out.trans HX_w7a.out) (fun _ _ _ _ => id)) HX_wst.out (by omega))).mono HOL.out
    case rest =>
      obtain ⟨rfl, hcut⟩ := hcut
      obtain ⟨A7, c7, A1, c1, hh, hop, hob, hxc⟩ := hcut.out
      obtain ⟨g, c7', hv7, hgc, hrow1⟩ := hop.get 0 (by simp)
      have hA7 : A7 = some ⟨g, 0, none⟩ := by injection hv7
      subst hA7
      have hgl := hop.lt g rfl
      have hrow : PRow wc g [((⟨xtos, xid, xdf, xmf, xoff, xttl, xpr, xsrc, xdst, xb⟩ : Pk), A1, c1)] := by
        intro i hi k u hu
        have : i = 0 := by simp at hi; exact hi
        subst this
        exact hrow1 k u hu
      have hpts : Pts wc [((⟨xtos, xid, xdf, xmf, xoff, xttl, xpr, xsrc, xdst, xb⟩ : Pk), A1, c1)] := by
        obtain ⟨r0, r1, r2, r3, r4⟩ := Pk.right_zero HRT0.out
        simp only at r0 r3 r4
        refine ⟨fun o ho => ?_, fun o ho => ?_, fun o ho => ?_⟩
        · rw [List.mem_singleton] at ho; subst ho; exact ⟨r0, r3⟩
        · rw [List.mem_singleton] at ho; subst ho; show xb.length ≤ 65535; omega
        · rw [List.mem_singleton] at ho; subst ho; exact RB.any hob.rb
      have hwh := whole_any hpx g c7 1 now [((⟨xtos, xid, xdf, xmf, xoff, xttl, xpr, xsrc, xdst, xb⟩ : Pk), A1, c1)] rfl (by omega) (by omega) wc hh hrow hpts
      have HWH := Lib.hid hwh
      have HH := Lib.hid hh
      have HOP := Lib.hid hop
      have HOB := Lib.hid hob
      have HXC := Lib.hid hxc
      have HGL := Lib.hid hgl
      clear hwh hh hop hob hxc hgl hrow hpts hcut hrow1 hgc hv7 cpb0 cpb1 cpb2 cpb3 cpb4 cpb5 cpb6 cpb7 cpb8 cpb9 hj hy0 hy1 hy2
      go_wp2_with fail
      refine HWH.out.mono ?_
      rintro e we ⟨q, A9, n9, c9, ok9, rfl, hx, hcase⟩
      obtain rfl : ok9 = false := by
        rcases hcase with ⟨_, h⟩ | ⟨h, _⟩
        · exact h
        · have := whole_one A1 c1 HNP.out h; cases this
      have HXE := Lib.hid hx
      clear hcase hx
      obtain ⟨ztos, zid, zdf, zmf, zoff, zttl, zpr, zsrc, zdst, zb⟩ := q
      have hv : pkv (⟨ztos, zid, zdf, zmf, zoff, zttl, zpr, zsrc, zdst, zb⟩ : Pk) (.slice A9 n9 c9) = .agg #[.int .u8 ztos, .int .u16 zid, .bool zdf, .bool zmf, .int .i64 zoff, .int .u8 zttl, .int .u8 zpr, .int .u32 zsrc, .int .u32 zdst, .slice A9 n9 c9] := rfl
      rw [hv]
      clear hv
      have hqbe : we.heap[qb]? = some (.cells #[.int .u8 0, .int .u16 0, .bool false, .bool false, .int .i64 0, .int .u8 0, .int .u8 0, .int .u32 0, .int .u32 0, .slice none 0 0] 27) := (HXE.out.block qb (row_lt ((HXC.out.block qb (row_lt B_qb.out) HQBH.out).trans B_qb.out)) id).trans ((HXC.out.block qb (row_lt B_qb.out) HQBH.out).trans B_qb.out)
      replace B_qb := Lib.hid hqbe
      clear hqbe
      go_upto_region 18 with fail
      have hx : Ex (fun _ => False) we (we.alloc (.cells #[.int .u8 ztos, .int .u16 zid, .bool zdf, .bool zmf, .int .i64 zoff, .int .u8 zttl, .int .u8 zpr, .int .u32 zsrc, .int .u32 zdst, .slice A9 n9 c9] 27)) := (Ex.refl _ we).alloc _
      have hb : (we.alloc (.cells #[.int .u8 ztos, .int .u16 zid, .bool zdf, .bool zmf, .int .i64 zoff, .int .u8 zttl, .int .u8 zpr, .int .u32 zsrc, .int .u32 zdst, .slice A9 n9 c9] 27)).heap[we.heap.size]? = some (.cells #[.int .u8 ztos, .int .u16 zid, .bool zdf, .bool zmf, .int .i64 zoff, .int .u8 zttl, .int .u8 zpr, .int .u32 zsrc, .int .u32 zdst, .slice A9 n9 c9] 27) := heap_alloc_new we _
      obtain ⟨tb, htb⟩ : ∃ tb, tb = we.heap.size := ⟨_, rfl⟩
      have hb_tb : we.heap.size ≤ tb := by omega
      rw [← htb] at hb
      try simp only [← htb]
      generalize we.alloc (.cells #[.int .u8 ztos, .int .u16 zid, .bool zdf, .bool zmf, .int .i64 zoff, .int .u8 zttl, .int .u8 zpr, .int .u32 zsrc, .int .u32 zdst, .slice A9 n9 c9] 27) = wf at hx hb ⊢
      clear htb
      have HX_wf := Lib.hid hx
      clear hx
      have B_tb := Lib.hid hb
      clear hb
      have hw8 := HXW7.out.size
      have hbw := HRS.out.map.lt
      replace B_qb := Lib.hid ((HX_wf.out.block qb (row_lt B_qb.out) id).trans B_qb.out)
      have cqb0 := row_cell (k := 0) (v := .int .u8 0) B_qb.out rfl
      have cqb1 := row_cell (k := 1) (v := .int .u16 0) B_qb.out rfl
      have cqb2 := row_cell (k := 2) (v := .bool false) B_qb.out rfl
      have cqb3 := row_cell (k := 3) (v := .bool false) B_qb.out rfl
      have cqb4 := row_cell (k := 4) (v := .int .i64 0) B_qb.out rfl
      have cqb5 := row_cell (k := 5) (v := .int .u8 0) B_qb.out rfl
      have cqb6 := row_cell (k := 6) (v := .int .u8 0) B_qb.out rfl
      have cqb7 := row_cell (k := 7) (v := .int .u32 0) B_qb.out rfl
      have cqb8 := row_cell (k := 8) (v := .int .u32 0) B_qb.out rfl
      have cqb9 := row_cell (k := 9) (v := .slice none 0 0) B_qb.out rfl
      have fqb0 := row_frozen B_qb.out 0
      have fqb1 := row_frozen B_qb.out 1
      have fqb2 := row_frozen B_qb.out 2
      have fqb3 := row_frozen B_qb.out 3
      have fqb4 := row_frozen B_qb.out 4
      have fqb5 := row_frozen B_qb.out 5
      have fqb6 := row_frozen B_qb.out 6
      have fqb7 := row_frozen B_qb.out 7
      have fqb8 := row_frozen B_qb.out 8
      have fqb9 := row_frozen B_qb.out 9
      go_wp2_with fail
      (try simp only [Exit.inBlock, Exit.then])
      have r0 : (wf.setCell ⟨qb, 0, none⟩ (.int .u8 0)).heap[qb]? = some (.cells #[.int .u8 0, .int .u16 0, .bool false, .bool false, .int .i64 0, .int .u8 0, .int .u8 0, .int .u32 0, .int .u32 0, .slice none 0 0] 27) := row_set B_qb.out 0 (.int .u8 0)
      have r1 : ((wf.setCell ⟨qb, 0, none⟩ (.int .u8 0)).setCell ⟨qb, 1, none⟩ (.int .u16 0)).heap[qb]? = some (.cells #[.int .u8 0, .int .u16 0, .bool false, .bool false, .int .i64 0, .int .u8 0, .int .u8 0, .int .u32 0, .int .u32 0, .slice none 0 0] 27) := row_set r0 1 (.int .u16 0)
      clear r0
      have r2 : (((wf.setCell ⟨qb, 0, none⟩ (.int .u8 0)).setCell ⟨qb, 1, none⟩ (.int .u16 0)).setCell ⟨qb, 2, none⟩ (.bool false)).heap[qb]? = some (.cells #[.int .u8 0, .int .u16 0, .bool false, .bool false, .int .i64 0, .int .u8 0, .int .u8 0, .int .u32 0, .int .u32 0, .slice none 0 0] 27) := row_set r1 2 (.bool false)
      clear r1
      have r3 : ((((wf.setCell ⟨qb, 0, none⟩ (.int .u8 0)).setCell ⟨qb, 1, none⟩ (.int .u16 0)).setCell ⟨qb, 2, none⟩ (.bool false)).setCell ⟨qb, 3, none⟩ (.bool false)).heap[qb]? = some (.cells #[.int .u8 0, .int .u16 0, .bool false, .bool false, .int .i64 0, .int .u8 0, .int .u8 0, .int .u32 0, .int .u32 0, .slice none 0 0] 27) := row_set r2 3 (.bool false)
      clear r2
      have r4 : (((((wf.setCell ⟨qb, 0, none⟩ (.int .u8 0)).setCell ⟨qb, 1, none⟩ (.int .u16 0)).setCell ⟨qb, 2, none⟩ (.bool false)).setCell ⟨qb, 3, none⟩ (.bool false)).setCell ⟨qb, 4, none⟩ (.int .i64 0)).heap[qb]? = some (.cells #[.int .u8 0, .int .u16 0, .bool false, .bool false, .int .i64 0, .int .u8 0, .int .u8 0, .int .u32 0, .int .u32 0, .slice none 0 0] 27) := row_set r3 4 (.int .i64 0)
      clear r3
      have r5 : ((((((wf.setCell ⟨qb, 0, none⟩ (.int .u8 0)).setCell ⟨qb, 1, none⟩ (.int .u16 0)).setCell ⟨qb, 2, none⟩ (.bool false)).setCell ⟨qb, 3, none⟩ (.bool false)).setCell ⟨qb, 4, none⟩ (.int .i64 0)).setCell ⟨qb, 5, none⟩ (.int .u8 0)).heap[qb]? = some (.cells #[.int .u8 0, .int .u16 0, .bool false, .bool false, .int .i64 0, .int .u8 0, .int .u8 0, .int .u32 0, .int .u32 0, .slice none 0 0] 27) := row_set r4 5 (.int .u8 0)
      clear r4
      have r6 : (((((((wf.setCell ⟨qb, 0, none⟩ (.int .u8 0)).setCell ⟨qb, 1, none⟩ (.int .u16 0)).setCell ⟨qb, 2, none⟩ (.bool false)).setCell ⟨qb, 3, none⟩ (.bool false)).setCell ⟨qb, 4, none⟩ (.int .i64 0)).setCell ⟨qb, 5, none⟩ (.int .u8 0)).setCell ⟨qb, 6, none⟩ (.int .u8 0)).heap[qb]? = some (.cells #[.int .u8 0, .int .u16 0, .bool false, .bool false, .int .i64 0, .int .u8 0, .int .u8 0, .int .u32 0, .int .u32 0, .slice none 0 0] 27) := row_set r5 6 (.int .u8 0)
      clear r5
      have r7 : ((((((((wf.setCell ⟨qb, 0, none⟩ (.int .u8 0)).setCell ⟨qb, 1, none⟩ (.int .u16 0)).setCell ⟨qb, 2, none⟩ (.bool false)).setCell ⟨qb, 3, none⟩ (.bool false)).setCell ⟨qb, 4, none⟩ (.int .i64 0)).setCell ⟨qb, 5, none⟩ (.int .u8 0)).setCell ⟨qb, 6, none⟩ (.int .u8 0)).setCell ⟨qb, 7, none⟩ (.int .u32 0)).heap[qb]? = some (.cells #[.int .u8 0, .int .u16 0, .bool false, .bool false, .int .i64 0, .int .u8 0, .int .u8 0, .int .u32 0, .int .u32 0, .slice none 0 0] 27) := row_set r6 7 (.int .u32 0)
      clear r6
      have r8 : (((((((((wf.setCell ⟨qb, 0, none⟩ (.int .u8 0)).setCell ⟨qb, 1, none⟩ (.int .u16 0)).setCell ⟨qb, 2, none⟩ (.bool false)).setCell ⟨qb, 3, none⟩ (.bool false)).setCell ⟨qb, 4, none⟩ (.int .i64 0)).setCell ⟨qb, 5, none⟩ (.int .u8 0)).setCell ⟨qb, 6, none⟩ (.int .u8 0)).setCell ⟨qb, 7, none⟩ (.int .u32 0)).setCell ⟨qb, 8, none⟩ (.int .u32 0)).heap[qb]? = some (.cells #[.int .u8 0, .int .u16 0, .bool false, .bool false, .int .i64 0, .int .u8 0, .int .u8 0, .int .u32 0, .int .u32 0, .slice none 0 0] 27) := row_set r7 8 (.int .u32 0)
      clear r7
      have r9 : ((((((((((wf.setCell ⟨qb, 0, none⟩ (.int .u8 0)).setCell ⟨qb, 1, none⟩ (.int .u16 0)).setCell ⟨qb, 2, none⟩ (.bool false)).setCell ⟨qb, 3, none⟩ (.bool false)).setCell ⟨qb, 4, none⟩ (.int .i64 0)).setCell ⟨qb, 5, none⟩ (.int .u8 0)).setCell ⟨qb, 6, none⟩ (.int .u8 0)).setCell ⟨qb, 7, none⟩ (.int .u32 0)).setCell ⟨qb, 8, none⟩ (.int .u32 0)).setCell ⟨qb, 9, none⟩ (.slice none 0 0)).heap[qb]? = some (.cells #[.int .u8 0, .int .u16 0, .bool false, .bool false, .int .i64 0, .int .u8 0, .int .u8 0, .int .u32 0, .int .u32 0, .slice none 0 0] 27) := row_set r8 9 (.slice none 0 0)
      clear r8
      have hx : Ex (fun j => j = qb) wf ((((((((((wf.setCell ⟨qb, 0, none⟩ (.int .u8 0)).setCell ⟨qb, 1, none⟩ (.int .u16 0)).setCell ⟨qb, 2, none⟩ (.bool false)).setCell ⟨qb, 3, none⟩ (.bool false)).setCell ⟨qb, 4, none⟩ (.int .i64 0)).setCell ⟨qb, 5, none⟩ (.int .u8 0)).setCell ⟨qb, 6, none⟩ (.int .u8 0)).setCell ⟨qb, 7, none⟩ (.int .u32 0)).setCell ⟨qb, 8, none⟩ (.int .u32 0)).setCell ⟨qb, 9, none⟩ (.slice none 0 0)) := (((((((((((Ex.refl (fun j => j = qb) wf).setCell (p := ⟨qb, 0, none⟩) (.inl rfl) (.int .u8 0)).setCell (p := ⟨qb, 1, none⟩) (.inl rfl) (.int .u16 0)).setCell (p := ⟨qb, 2, none⟩) (.inl rfl) (.bool false)).setCell (p := ⟨qb, 3, none⟩) (.inl rfl) (.bool false)).setCell (p := ⟨qb, 4, none⟩) (.inl rfl) (.int .i64 0)).setCell (p := ⟨qb, 5, none⟩) (.inl rfl) (.int .u8 0)).setCell (p := ⟨qb, 6, none⟩) (.inl rfl) (.int .u8 0)).setCell (p := ⟨qb, 7, none⟩) (.inl rfl) (.int .u32 0)).setCell (p := ⟨qb, 8, none⟩) (.inl rfl) (.int .u32 0)).setCell (p := ⟨qb, 9, none⟩) (.inl rfl) (.slice none 0 0))
      clear cqb0 cqb1 cqb2 cqb3 cqb4 cqb5 cqb6 cqb7 cqb8 cqb9 fqb0 fqb1 fqb2 fqb3 fqb4 fqb5 fqb6 fqb7 fqb8 fqb9
      generalize ((((((((((wf.setCell ⟨qb, 0, none⟩ (.int .u8 0)).setCell ⟨qb, 1, none⟩ (.int .u16 0)).setCell ⟨qb, 2, none⟩ (.bool false)).setCell ⟨qb, 3, none⟩ (.bool false)).setCell ⟨qb, 4, none⟩ (.int .i64 0)).setCell ⟨qb, 5, none⟩ (.int .u8 0)).setCell ⟨qb, 6, none⟩ (.int .u8 0)).setCell ⟨qb, 7, none⟩ (.int .u32 0)).setCell ⟨qb, 8, none⟩ (.int .u32 0)).setCell ⟨qb, 9, none⟩ (.slice none 0 0)) = wz at r9 hx ⊢
      replace B_qb := Lib.hid r9
      clear r9
      have HX_wz := Lib.hid hx
      clear hx
      refine bodyPost_ret (v := .tuple #[.agg #[.int .u8 0, .int .u16 0, .bool false, .bool false, .int .i64 0, .int .u8 0, .int .u8 0, .int .u32 0, .int .u32 0, .slice none 0 0], .bool false, .nilIface]) (take_results _ qb _ #[.int .u8 0, .int .u16 0, .bool false, .bool false, .int .i64 0, .int .u8 0, .int .u8 0, .int .u32 0, .int .u32 0, .slice none 0 0] _ _ rfl rfl rfl B_qb.out rfl) rfl ⟨rfl, ⟨⟨kb (⟨xtos, xid, xdf, xmf, xoff, xttl, xpr, xsrc, xdst, xb⟩ : Pk), now, hpx, [((⟨xtos, xid, xdf, xmf, xoff, xttl, xpr, xsrc, xdst, xb⟩ : Pk), A1, c1)], g, c7⟩, ?_, rfl, rfl, rfl⟩, ?_⟩
      · have hexw : Ex (fun k => k = bm) w wz := (((HXW7.out.andThen HXC.out (fun i hi e => by have := HHP0.out; omega)).andThen HXE.out (fun i hi e => e.elim)).andThen HX_wf.out (fun i hi e => e.elim)).andThen HX_wz.out (fun i hi e => by have h3 := hb_qb; have h4 := HX_w1.out.size; omega)
        have hw8z : Ex (fun k => k = hpx ∨ k = qb) w8 wz := (((HXC.out.mono (fun _ _ h => .inl h)).trans (HXE.out.mono (fun _ _ h => h.elim))).trans (HX_wf.out.mono (fun _ _ h => h.elim))).trans (HX_wz.out.mono (fun _ _ h => .inr h))
        have hbase := HRS.out.base
        have hmap := HRS.out.map.isMap
        refine ⟨?_, ?_, ?_, ?_, HRS.out.lo⟩
        · refine (hexw.block rb (row_lt HRS.out.cell) (fun e => ?_)).trans HRS.out.cell
          obtain ⟨es, c9', h2⟩ := hmap
          rw [← e, HRS.out.cell] at h2
          cases h2
        · have h1 := HMP7.out.keep hw8z (fun e => by have h2 := HHP0.out; have h3 := hb_qb; have h4 := HX_w1.out.size; rcases e with e | e <;> omega)
          rw [List.map_append]
          exact h1
        · intro h hh
          rcases List.mem_append.1 hh with hh | hh
          · refine (HRS.out.hps h hh).keepT hexw (fun k cs t hk e => ?_)
            obtain ⟨es, c9', h2⟩ := hmap
            rw [← e, hk] at h2
            cases h2
          · rw [List.mem_singleton] at hh
            subst hh
            have hqh := HQBH.out
            have hxcz : Ex (fun k => k = qb) wc wz := ((HXE.out.mono (fun _ _ h => h.elim)).trans (HX_wf.out.mono (fun _ _ h => h.elim))).trans HX_wz.out
            have hq0 : qb < w8.heap.size := HQB8.out
            refine ⟨(hxcz.block hpx (row_lt HH.out) (fun e => hqh e.symm)).trans HH.out, OP.mono (HOP.out.keep hxcz (fun k hk _ _ e => ?_)) (by omega), fun o ho => ?_, by simp, show B ≤ hpx by have := HHP0.out; omega⟩
            · have := (HOP.out.lt k hk).1
              omega
            · rw [List.mem_singleton] at ho
              subst ho
              refine ⟨(HOB.out.keep hxcz (fun k hk _ _ e => ?_)).mono (by omega), HOK.out, HRT0.out⟩
              have := (HOB.out.lt k hk).1
              omega
        · rw [List.pairwise_append]
          refine ⟨HRS.out.apart, List.pairwise_singleton _ _, fun a ha b hb => ?_⟩
          rw [List.mem_singleton] at hb
          subst hb
          have h1 := HRS.out.hps a ha
          have h2 := row_lt h1.1
          have h3 := (h1.2.1.lt a.g rfl).2
          have h4 := HHP0.out
          have h5 := HGL.out.1
          refine ⟨fun e => ?_, ?_, ?_⟩
          · have hno := HNO.out
            unfold hpOf lk at hno
            rw [Option.map_eq_none_iff, List.find?_eq_none] at hno
            have := hno (a.k, a.hb) (List.mem_map_of_mem ha)
            simp at this
            exact this e
          · show a.hb ≠ hpx
            omega
          · show a.g ≠ g
            omega
      · exact (((HXW7.out.andThen HXC.out (fun i hi e => by have := HHP0.out; omega)).andThen HXE.out (fun i hi e => e.elim)).andThen HX_wf.out (fun i hi e => e.elim)).andThen HX_wz.out (fun i hi e => by have h3 := hb_qb; have h4 := HX_w1.out.size; omega)
end Go.Proofs.YtabjihchcmjdmaaDoor
