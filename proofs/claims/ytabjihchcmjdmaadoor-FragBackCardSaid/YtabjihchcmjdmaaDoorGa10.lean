/-
  Errors, bytes, packets: the ground of law 10. By an AI agent.
-/
import Derived.WalkKit
import Derived.Laws.BitsLemmas
import Derived.Lib.Hide
import Derived.WalkLawsBesides
import Derived.WalkSpells
import Derived.Deep.AppendSrc
import Derived.Deep.AppendLies
import Derived.Laws.MakeOwn
import Derived.Laws.OwnMore
import Derived.Lib.ConvBytes
import Derived.Laws.IdiomStrings
import Derived.Laws.BytesArg
import Derived.Test.YtabjihchcmjdmaaDoorProg
import Derived.LaidEql
import Derived.Stop.Asserts
import Derived.RowKitTokens
import Derived.Deep.QuietTactic
import Derived.Deep.RegionHeld
import Derived.Deep.Cut
import Derived.Deep.LoopGhost
import Derived.Laws.CopyOwn
import Derived.Laws.ResultCell
import Derived.Laws.Rows
import Derived.Deep.DeepCutAuto
import Derived.Deep.CutBlock
/-
  Words on bytes in memory for this seat's proofs: a slice that reads as a list of bytes, a world of which some blocks may have changed. By an AI agent.
-/
namespace Go.Proofs.YtabjihchcmjdmaaDoor
open Go.RowKit

/-- a byte as a value -/
def u8v (b : UInt8) : Value := .int .u8 (b.toNat : Int)

/-- The slice v reads as the bytes l, in blocks of which P holds. -/
def RB (w : World) (P : Nat → Prop) (v : Value) (l : List UInt8) : Prop :=
  l.length ≤ 9223372036854775807 ∧ ∃ A c, v = .slice A l.length c ∧ l.length ≤ c ∧
    ∀ i (h : i < l.length), ∃ b off, A = some ⟨b, off, none⟩ ∧ P b ∧ w.cell? ⟨b, off + i, none⟩ = some (.int .u8 (l[i].toNat : Int))

/-- The slice v reads as slices, each of which reads as bytes. -/
def RB2 (w : World) (P : Nat → Prop) (v : Value) (ls : List (List UInt8)) : Prop :=
  ls.length ≤ 9223372036854775807 ∧ ∃ A c, v = .slice A ls.length c ∧ ls.length ≤ c ∧
    ∀ i (h : i < ls.length), ∃ b off vi, A = some ⟨b, off, none⟩ ∧ P b ∧ w.cell? ⟨b, off + i, none⟩ = some vi ∧ RB w P vi ls[i]

/-- The slice v reads as these numbers of sixteen bits. -/
def RW (w : World) (P : Nat → Prop) (v : Value) (l : List UInt16) : Prop :=
  l.length ≤ 9223372036854775807 ∧ ∃ A c, v = .slice A l.length c ∧ l.length ≤ c ∧
    ∀ i (h : i < l.length), ∃ b off, A = some ⟨b, off, none⟩ ∧ P b ∧ w.cell? ⟨b, off + i, none⟩ = some (.int .u16 (l[i].toNat : Int))
/-- w' is w but for blocks of S, and new ones. -/
structure Ex (S : Nat → Prop) (w w' : World) : Prop where
  os : w'.os = w.os
  tape : w'.tape = w.tape
  output : w'.output = w.output
  size : w.heap.size ≤ w'.heap.size
  block : ∀ k, k < w.heap.size → ¬ S k → w'.heap[k]? = w.heap[k]?

theorem Ex.refl (S : Nat → Prop) (w : World) : Ex S w w := ⟨rfl, rfl, rfl, Nat.le_refl _, fun _ _ _ => rfl⟩
theorem Ex.trans {S : Nat → Prop} {a b c : World} (h : Ex S a b) (k : Ex S b c) : Ex S a c :=
  ⟨k.os.trans h.os, k.tape.trans h.tape, k.output.trans h.output, Nat.le_trans h.size k.size, fun i hi hs => (k.block i (Nat.lt_of_lt_of_le hi h.size) hs).trans (h.block i hi hs)⟩
theorem Ex.mono {S T : Nat → Prop} {w w' : World} (h : Ex S w w') (hs : ∀ k, k < w.heap.size → S k → T k) : Ex T w w' :=
  ⟨h.os, h.tape, h.output, h.size, fun i hi ht => h.block i hi (fun hk => ht (hs i hi hk))⟩
theorem Ex.drew {S : Nat → Prop} {a w : World} (h : Ex S a w) : Ex S a w.drew := ⟨h.os, h.tape, h.output, h.size, h.block⟩
theorem Ex.drewN {S : Nat → Prop} {a w : World} (h : Ex S a w) (n : Nat) : Ex S a (w.drewN n) := ⟨h.os, h.tape, h.output, h.size, h.block⟩
theorem Ex.alloc {S : Nat → Prop} {a w : World} (h : Ex S a w) (o : Obj) : Ex S a (w.alloc o) :=
  h.trans ⟨rfl, rfl, rfl, by simp, fun k hk _ => Below.heap_alloc _ _ _ hk⟩
theorem Ex.setCell {S : Nat → Prop} {a w : World} (h : Ex S a w) {p : Addr} (hp : S p.block ∨ a.heap.size ≤ p.block) (u : Value) : Ex S a (w.setCell p u) :=
  ⟨h.os, h.tape, h.output, by simpa [World.setCell] using h.size, fun k hk hs => by
    rw [Below.heap_setCell _ _ _ _ (fun e => by subst e; rcases hp with hp | hp; exact hs hp; omega)]; exact h.block k hk hs⟩
theorem Ex.grown {S : Nat → Prop} {a w w' : World} {row : Option Nat} (h : Ex S a w) (hg : w.grownBy w' row) (hr : ∀ k, row = some k → S k ∨ a.heap.size ≤ k) : Ex S a w' :=
  ⟨hg.os.trans h.os, hg.tape.trans h.tape, hg.output.trans h.output, Nat.le_trans h.size hg.size, fun k hk hs =>
    (hg.block k (Nat.lt_of_lt_of_le hk h.size) (fun e => by rcases hr k e.symm with q | q; exact hs q; omega)).trans (h.block k hk hs)⟩
/-- a second stretch that begins later: it may have changed what is new since -/
theorem Ex.andThen {S T : Nat → Prop} {a b c : World} (h : Ex S a b) (k : Ex T b c) (ht : ∀ i, i < a.heap.size → T i → S i) : Ex S a c :=
  ⟨k.os.trans h.os, k.tape.trans h.tape, k.output.trans h.output, Nat.le_trans h.size k.size, fun i hi hs => (k.block i (Nat.lt_of_lt_of_le hi h.size) (fun e => hs (ht i hi e))).trans (h.block i hi hs)⟩
theorem Ex.below {S : Nat → Prop} {w w' : World} (h : Ex S w w') (B : Nat) (hB : B ≤ w.heap.size) (hs : ∀ k, k < B → ¬ S k) : Below B w w' :=
  ⟨h.os, h.tape, h.output, h.size, fun k hk => h.block k (by omega) (hs k hk)⟩
theorem Ex.ofBelow {w w' : World} {B : Nat} (h : Below B w w') : Ex (fun k => B ≤ k) w w' := ⟨h.os, h.tape, h.output, h.size, fun k _ hk => h.block k (by omega)⟩
theorem Ex.cell {S : Nat → Prop} {w w' : World} (h : Ex S w w') {p : Addr} {v : Value} (hc : w.cell? p = some v) (hs : ¬ S p.block) : w'.cell? p = some v :=
  (World.cell?_of_block (h.block p.block (World.block_lt_of_cell? w p hc) hs)).trans hc
theorem Ex.frozen {S : Nat → Prop} {w w' : World} (h : Ex S w w') {p : Addr} (hp : p.block < w.heap.size) (hs : ¬ S p.block) : w'.frozen? p = w.frozen? p :=
  World.frozen?_of_block (h.block p.block hp hs)

theorem RB.keep {w w' : World} {P S : Nat → Prop} {v : Value} {l : List UInt8} (h : RB w P v l) (hx : Ex S w w') (hs : ∀ k, k < w.heap.size → P k → ¬ S k) : RB w' P v l := by
  obtain ⟨h1, A, c, h2, h3, h4⟩ := h
  refine ⟨h1, A, c, h2, h3, fun i hi => ?_⟩
  obtain ⟨b, off, e, hp, hc⟩ := h4 i hi
  exact ⟨b, off, e, hp, hx.cell hc (hs b (World.block_lt_of_cell? w _ hc) hp)⟩
theorem RB.mono {w : World} {P Q : Nat → Prop} {v : Value} {l : List UInt8} (h : RB w P v l) (hs : ∀ k, k < w.heap.size → P k → Q k) : RB w Q v l := by
  obtain ⟨h1, A, c, h2, h3, h4⟩ := h
  refine ⟨h1, A, c, h2, h3, fun i hi => ?_⟩
  obtain ⟨b, off, e, hp, hc⟩ := h4 i hi
  exact ⟨b, off, e, hs b (World.block_lt_of_cell? w _ hc) hp, hc⟩
theorem RB2.keep {w w' : World} {P S : Nat → Prop} {v : Value} {l : List (List UInt8)} (h : RB2 w P v l) (hx : Ex S w w') (hs : ∀ k, k < w.heap.size → P k → ¬ S k) : RB2 w' P v l := by
  obtain ⟨h1, A, c, h2, h3, h4⟩ := h
  refine ⟨h1, A, c, h2, h3, fun i hi => ?_⟩
  obtain ⟨b, off, vi, e, hp, hc, hr⟩ := h4 i hi
  exact ⟨b, off, vi, e, hp, hx.cell hc (hs b (World.block_lt_of_cell? w _ hc) hp), hr.keep hx hs⟩
theorem RB.nil (w : World) (P : Nat → Prop) : RB w P (.slice none 0 0) [] := ⟨by simp, none, 0, rfl, by simp, fun i h => by simp at h⟩
theorem RB.take {w : World} {P : Nat → Prop} {A : Option Addr} {n c : Nat} {l : List UInt8} (h : RB w P (.slice A n c) l) (m : Nat) : RB w P (.slice A (l.take m).length c) (l.take m) := by
  obtain ⟨h1, A', c', e, h3, h4⟩ := h
  injection e with e1 e2 e3
  subst e1 e2 e3
  refine ⟨by simp; omega, _, _, rfl, by simp; omega, fun i hi => ?_⟩
  have hi' : i < l.length := by simp at hi; omega
  obtain ⟨b, off, e, hp, hc⟩ := h4 i hi'
  exact ⟨b, off, e, hp, by rw [hc]; simp⟩
theorem RB.slice {w : World} {P : Nat → Prop} {b off n c : Nat} {l : List UInt8} (h : RB w P (.slice (some ⟨b, off, none⟩) n c) l) (i j : Nat) (hij : i ≤ j) (hj : j ≤ l.length) :
    RB w P (.slice (some ⟨b, off + i, none⟩) (j - i) (c - i)) ((l.take j).drop i) := by
  obtain ⟨h1, A', c', e, h3, h4⟩ := h
  injection e with e1 e2 e3
  subst e1 e2 e3
  have hlen : ((l.take j).drop i).length = j - i := by simp; omega
  refine ⟨by rw [hlen]; omega, _, _, by rw [hlen], by rw [hlen]; omega, fun k hk => ?_⟩
  rw [hlen] at hk
  obtain ⟨b', off', e, hp, hc⟩ := h4 (i + k) (by omega)
  injection e with e
  injection e with e4 e5
  subst e4 e5
  exact ⟨b, off + i, rfl, hp, by rw [Nat.add_assoc, hc]; simp⟩
theorem RB2.old {w : World} {P : Nat → Prop} {v : Value} {ls : List (List UInt8)} (h : RB2 w P v ls) : RB2 w (fun k => P k ∧ k < w.heap.size) v ls := by
  obtain ⟨h1, A, c, h2, h3, h4⟩ := h
  refine ⟨h1, A, c, h2, h3, fun i hi => ?_⟩
  obtain ⟨b, off, vi, e, hp, hc, g1, A', c', g2, g3, g4⟩ := h4 i hi
  refine ⟨b, off, vi, e, ⟨hp, World.block_lt_of_cell? w _ hc⟩, hc, g1, A', c', g2, g3, fun j hj => ?_⟩
  obtain ⟨b', off', e', hp', hc'⟩ := g4 j hj
  exact ⟨b', off', e', ⟨hp', World.block_lt_of_cell? w _ hc'⟩, hc'⟩
theorem RB.old {w : World} {P : Nat → Prop} {v : Value} {l : List UInt8} (h : RB w P v l) : RB w (fun k => P k ∧ k < w.heap.size) v l := by
  obtain ⟨g1, A', c', g2, g3, g4⟩ := h
  refine ⟨g1, A', c', g2, g3, fun j hj => ?_⟩
  obtain ⟨b', off', e', hp', hc'⟩ := g4 j hj
  exact ⟨b', off', e', ⟨hp', World.block_lt_of_cell? w _ hc'⟩, hc'⟩
/-- an owned row of slices reads as slices, where each of them reads as bytes -/
theorem RB2.ofRow {w : World} {base : Nat} {t : TypeId} {v : Value} {n : Nat} {vals : List Value} {P Q : Nat → Prop} (ls : List (List UInt8)) (h : w.ownsRow base t 1 v n vals) (hn : n = ls.length) (hl : ls.length ≤ 140737488355328)
    (hQ : ∀ k, base ≤ k → Q k) (hPQ : ∀ k, P k → Q k) (hv : ∀ j (hj : j < vals.length) (hj' : j < ls.length), RB w P vals[j] ls[j]) : RB2 w Q v ls := by
  subst hn
  have hlen := h.1
  rw [Nat.mul_one] at hlen
  refine ⟨by omega, ?_⟩
  rcases h.2 with ⟨rfl, h0⟩ | ⟨g, cap, cur, rfl, hb, hg, hnc, _⟩
  · exact ⟨none, 0, by rw [h0], by omega, fun i hi => by omega⟩
  · refine ⟨_, cap, rfl, hnc, fun i hi => ⟨g, 0, vals[i]'(by omega), rfl, hQ g hb, ?_, ?_⟩⟩
    · have := h.cells (g := g) rfl i (vals[i]'(by omega)) (by simp)
      simpa [Addr.add_lit] using this
    · exact (hv i (by omega) hi).mono (fun k _ hp => hPQ k hp)
theorem RB2.nil (w : World) (P : Nat → Prop) : RB2 w P (.slice none 0 0) [] := ⟨by simp, none, 0, rfl, by simp, fun i h => by simp at h⟩

/-- a block that was just laid out of bytes -/
theorem RB.lit (w : World) (P : Nat → Prop) (l : List UInt8) (t : TypeId) (hP : P w.heap.size) (hl : l.length ≤ 140737488355328) :
    RB (w.alloc (.cells (l.map u8v).toArray t)) P (.slice (some ⟨w.heap.size, 0, none⟩) l.length l.length) l := by
  refine ⟨by omega, _, _, rfl, Nat.le_refl _, fun i hi => ⟨_, _, rfl, hP, ?_⟩⟩
  rw [World.cell?_alloc_at _ _ _ _ rfl]
  simp [hi, u8v]

/-! ### rows of bytes that the call itself made -/

/-- the cells of a block that was just laid, as an append's source -/
theorem new_cells (w : World) (cs : Array Value) (t : TypeId) : ∀ j u, cs.toList[j]? = some u → ∃ a, some (⟨w.heap.size, 0, none⟩ : Addr) = some a ∧ (w.alloc (.cells cs t)).cell? (a.add j) = some u := by
  intro j u h
  refine ⟨_, rfl, ?_⟩
  rw [Addr.add_lit, World.cell?_alloc_at _ _ _ _ rfl]
  simpa using h
/-- a block that was just laid out of slices -/
theorem RB2.made (w : World) (P : Nat → Prop) (cs : Array Value) (t : TypeId) (ls : List (List UInt8)) (n c : Nat) (hl : cs.size = ls.length) (hn : n = ls.length) (hc : n ≤ c) (hlen : ls.length ≤ 140737488355328)
    (hv : ∀ i (h : i < cs.size) (h' : i < ls.length), RB w P cs[i] ls[i]) (g : Nat) (hg : g = w.heap.size) : RB2 (w.alloc (.cells cs t)) (fun k => P k ∨ k = w.heap.size) (.slice (some ⟨g, 0, none⟩) n c) ls := by
  subst hn
  subst hg
  refine ⟨by omega, _, _, rfl, hc, fun i hi => ⟨_, _, cs[i]'(by omega), rfl, .inr rfl, ?_, ?_⟩⟩
  · rw [World.cell?_alloc_at _ _ _ _ rfl]
    simp [show i < cs.size by omega]
  · exact ((hv i (by omega) hi).keep (S := fun _ => False) ((Ex.refl _ w).alloc _) (fun _ _ _ => id)).mono (fun _ _ h => .inl h)
theorem RB2.one {w : World} {P : Nat → Prop} {v : Value} {l : List UInt8} (h : RB w P v l) (t : TypeId) {g : Nat} (hg : g = w.heap.size) : RB2 (w.alloc (.cells #[v] t)) (fun k => P k ∨ k = w.heap.size) (.slice (some ⟨g, 0, none⟩) 1 1) [l] :=
  RB2.made w P #[v] t [l] 1 1 rfl rfl (by omega) (by simp) (fun i hi hi' => by
    obtain rfl : i = 0 := by simp at hi; exact hi
    exact h) g hg
theorem RB2.two {w : World} {P : Nat → Prop} {v1 v2 : Value} {l1 l2 : List UInt8} (h1 : RB w P v1 l1) (h2 : RB w P v2 l2) (t : TypeId) {g : Nat} (hg : g = w.heap.size) : RB2 (w.alloc (.cells #[v1, v2] t)) (fun k => P k ∨ k = w.heap.size) (.slice (some ⟨g, 0, none⟩) 2 2) [l1, l2] :=
  RB2.made w P #[v1, v2] t [l1, l2] 2 2 rfl rfl (by omega) (by simp) (fun i hi hi' => by
    have : i = 0 ∨ i = 1 := by simp at hi; omega
    rcases this with rfl | rfl
    · exact h1
    · exact h2) g hg
theorem RB.any {w : World} {P : Nat → Prop} {v : Value} {l : List UInt8} (h : RB w P v l) : RB w (fun _ => True) v l := h.mono (fun _ _ _ => trivial)
/-- append onto an owned row, of whatever slice: also of a nil one -/
theorem run_append_row {Pr : Program} (w : World) (base : Nat) (t ty e : TypeId) (i : TypeInfo) (z : Value) (size bytes : Nat) (ht : Pr.underlying t = some (.slice e)) (hi : Pr.info? e = some i) (hz : i.zero = some z)
    (hsize : i.size = size) (hby : i.bytes = bytes) (hzs : z.cells.size = size) (hsz : 0 < size)
    (v : Value) (n : Nat) (xs : List Value) (hown : w.ownsRow base e size v n xs)
    (A : Option Addr) (m c : Nat) (news : List Value) (hl : news.length = m * size) (hnews : ∀ j u, news[j]? = some u → ∃ a, A = some a ∧ w.cell? (a.add j) = some u) (h1 : ∀ u ∈ news, u.oneCell' = true)
    (h63 : n + m ≤ maxLen) (hbytes : (n + m) * bytes ≤ 140737488355328) (hbase : base ≤ w.heap.size) :
    ∃ v' w', (Builtin.append_ #[t, t] ty #[v, .slice A m c]).run Pr w = .ok v' w' ∧ w'.ownsRow base e size v' (n + m) (xs ++ news) ∧ w.grownBy w' v.ownBlock ∧
      (v' = .slice none 0 0 ↔ v = .slice none 0 0 ∧ m = 0) ∧ (v'.ownBlock = v.ownBlock ∨ v'.ownBlock = some w.heap.size) := by
  cases A with
  | some a =>
    exact run_append_own_at w base t ty e i z size bytes ht hi hz hsize hby hzs hsz v n xs hown a m c news hl (fun j u h => by
      obtain ⟨a', e', hc⟩ := hnews j u h
      obtain rfl := Option.some.inj e'
      exact hc) h1 h63 hbytes hbase
  | none =>
    have hn : news = [] := by
      cases news with
      | nil => rfl
      | cons u r => obtain ⟨a, e', _⟩ := hnews 0 u rfl; cases e'
    subst hn
    have hm : m = 0 := by
      rcases Nat.eq_zero_or_pos m with h | h
      · exact h
      · have := Nat.mul_pos h hsz; simp at hl; omega
    subst hm
    subst hsize
    rcases hown.2 with ⟨rfl, rfl⟩ | ⟨g, cap, cur, rfl, hbg, hg, hnc, hcm, hcs, htake⟩
    · refine ⟨.slice none 0 0, w, ?_, by simpa using hown, ⟨rfl, rfl, rfl, Nat.le_refl _, fun _ _ _ => rfl⟩, by simp, Or.inl rfl⟩
      simp [Builtin.append_, run_underlying ht, sizeOf, typeInfo, hi, Builtin.lenOf, Builtin.firstCells]
    · refine ⟨.slice (some ⟨g, 0, none⟩) n cap, w, ?_, by simpa using hown, ⟨rfl, rfl, rfl, Nat.le_refl _, fun _ _ _ => rfl⟩, by simp, Or.inl rfl⟩
      simp [Builtin.append_, run_underlying ht, sizeOf, typeInfo, hi, Builtin.lenOf, Builtin.firstCells, hnc, storeCells]

theorem wpList_append_row {Pr : Program} {w : World} {ops : Array Oper} {rest : List Oper} {o : Oper} {a : Act} {Q : Exit → Act → World → Prop} (hgd : o.guard = none) (s x : Operand) (t : TypeId)
    (ho : o.op = .call { callee := .builtin .append, args := #[s, x], argTypes := #[t, t] })
    (base : Nat) (e : TypeId) (i : TypeInfo) (z : Value) (size bytes : Nat) (ht : Pr.underlying t = some (.slice e)) (hi : Pr.info? e = some i) (hz : i.zero = some z)
    (hsize : i.size = size) (hby : i.bytes = bytes) (hzs : z.cells.size = size) (hsz : 0 < size)
    (v : Value) (n : Nat) (xs : List Value) (hs : a.eval s = v) (hown : w.ownsRow base e size v n xs)
    (A : Option Addr) (m c : Nat) (hx : a.eval x = .slice A m c) (news : List Value) (hl : news.length = m * size) (hnews : ∀ j u, news[j]? = some u → ∃ a, A = some a ∧ w.cell? (a.add j) = some u) (h1 : ∀ u ∈ news, u.oneCell' = true)
    (h63 : n + m ≤ maxLen) (hbytes : (n + m) * bytes ≤ 140737488355328) (hbase : base ≤ w.heap.size)
    (h : ∀ v' w', w'.ownsRow base e size v' (n + m) (xs ++ news) → w.grownBy w' v.ownBlock → (v' = .slice none 0 0 ↔ v = .slice none 0 0 ∧ m = 0) → (v'.ownBlock = v.ownBlock ∨ v'.ownBlock = some w.heap.size) → wpList Pr ops Q rest (a.put o.dst v') w') :
    wpList Pr ops Q (o :: rest) a w := by
  refine wpList_plain hgd fun K hK => ?_
  obtain ⟨v', w', hr, h2, h3, h4, h5⟩ := run_append_row (Pr := Pr) w base t o.type e i z size bytes ht hi hz hsize hby hzs hsz v n xs hown A m c news hl hnews h1 h63 hbytes hbase
  unfold Oper.wp execOp
  simp only [ho, resolve, invoke, builtin, Sem.run_bind, Sem.run_pure, Result.andThen_ok, List.map_toArray, List.map_cons, List.map_nil, hs, hx, hr]
  exact hK _ _ (h v' w' h2 h3 h4 h5)

/-- The slice v owns the bytes l, in a block from B on. -/
def OB (w : World) (B : Nat) (v : Value) (l : List UInt8) : Prop := l.length ≤ 140737488355328 ∧ w.ownsRow B 5 1 v l.length (l.map u8v)

theorem u8v_one (u : Value) (l : List UInt8) (h : u ∈ l.map u8v) : u.oneCell' = true := by
  obtain ⟨_, _, rfl⟩ := List.mem_map.1 h
  rfl
theorem OB.nil (w : World) (B : Nat) : OB w B (.slice none 0 0) [] := ⟨by simp, World.ownsRow_nil w B _ 1⟩
theorem OB.shape {w : World} {B : Nat} {v : Value} {l : List UInt8} (h : OB w B v l) : ∃ A c, v = .slice A l.length c := by
  rcases h.2.2 with ⟨hv, hl⟩ | ⟨g, cap, cur, hv, _⟩
  · exact ⟨none, 0, by rw [hl]; exact hv⟩
  · exact ⟨_, cap, hv⟩
theorem OB.rb {w : World} {B : Nat} {v : Value} {l : List UInt8} (h : OB w B v l) : RB w (fun k => v.ownBlock = some k ∧ B ≤ k) v l := by
  refine ⟨by have := h.1; omega, ?_⟩
  rcases h.2.2 with ⟨rfl, hl⟩ | ⟨g, cap, cur, rfl, hb, hg, hn, _⟩
  · exact ⟨none, 0, by rw [hl], by omega, fun i hi => by omega⟩
  · refine ⟨_, cap, rfl, hn, fun i hi => ⟨g, 0, rfl, ⟨rfl, hb⟩, ?_⟩⟩
    have := h.2.cells (g := g) rfl i (u8v l[i]) (by simp [hi])
    simpa [Addr.add_lit, u8v] using this
theorem OB.keep {w w' : World} {S : Nat → Prop} {B : Nat} {v : Value} {l : List UInt8} (h : OB w B v l) (hx : Ex S w w') (hs : ∀ k, v.ownBlock = some k → k < w.heap.size → B ≤ k → ¬ S k) : OB w' B v l := by
  refine ⟨h.1, h.2.1, ?_⟩
  rcases h.2.2 with hn | ⟨g, cap, cur, rfl, hb, hg, rest⟩
  · exact .inl hn
  · have hlt := (Array.getElem?_eq_some_iff.1 hg).1
    exact .inr ⟨g, cap, cur, rfl, hb, (hx.block g hlt (hs g rfl hlt hb)).trans hg, rest⟩
theorem OB.mono {w : World} {B B' : Nat} {v : Value} {l : List UInt8} (h : OB w B v l) (hb : B' ≤ B) : OB w B' v l := by
  refine ⟨h.1, h.2.1, ?_⟩
  rcases h.2.2 with hn | ⟨g, cap, cur, rfl, hb', rest⟩
  · exact .inl hn
  · exact .inr ⟨g, cap, cur, rfl, Nat.le_trans hb hb', rest⟩
theorem OB.lt {w : World} {B : Nat} {v : Value} {l : List UInt8} (h : OB w B v l) : ∀ k, v.ownBlock = some k → B ≤ k ∧ k < w.heap.size := h.2.lt
/-- a block that was just laid out of bytes is owned -/
theorem OB.lit (w : World) (B : Nat) (l : List UInt8) (hB : B ≤ w.heap.size) (hl : l.length ≤ 140737488355328) :
    OB (w.alloc (.cells (l.map u8v).toArray 5)) B (.slice (some ⟨w.heap.size, 0, none⟩) l.length l.length) l :=
  ⟨hl, by simp, .inr ⟨w.heap.size, l.length, _, rfl, hB, heap_alloc_new w _, Nat.le_refl _, by simp only [maxLen]; omega, by simp, by simp [List.take_of_length_le]⟩⟩

theorem OB.alloc {w : World} {B : Nat} {v : Value} {l : List UInt8} (h : OB w B v l) (o : Obj) : OB (w.alloc o) B v l :=
  h.keep (S := fun _ => False) ((Ex.refl _ w).alloc o) (fun _ _ _ _ => id)
theorem RB.alloc {w : World} {P : Nat → Prop} {v : Value} {l : List UInt8} (h : RB w P v l) (o : Obj) : RB (w.alloc o) P v l :=
  h.keep (S := fun _ => False) ((Ex.refl _ w).alloc o) (fun _ _ _ => id)
theorem RB2.alloc {w : World} {P : Nat → Prop} {v : Value} {l : List (List UInt8)} (h : RB2 w P v l) (o : Obj) : RB2 (w.alloc o) P v l :=
  h.keep (S := fun _ => False) ((Ex.refl _ w).alloc o) (fun _ _ _ => id)
/-- a block that was just laid out of these values -/
theorem RB.made (w : World) (l : List UInt8) (cs : Array Value) (t : TypeId) (hc : cs.toList = l.map u8v) (hl : l.length ≤ 140737488355328) (n c : Nat) (hn : n = l.length) (hcc : n ≤ c) {g : Nat} (hg : g = w.heap.size) :
    RB (w.alloc (.cells cs t)) (fun k => k = w.heap.size) (.slice (some ⟨g, 0, none⟩) n c) l := by
  subst hn
  subst hg
  obtain ⟨cs⟩ := cs
  simp only at hc
  subst hc
  refine ⟨by omega, _, _, rfl, hcc, fun i hi => ⟨_, _, rfl, rfl, ?_⟩⟩
  rw [World.cell?_alloc_at _ _ _ _ rfl]
  simp [hi, u8v]
/-- the byte of a number -/
def by8 (x : Int) : UInt8 := UInt8.ofNat (x % 256).toNat
theorem by8_toNat (x : Int) : ((by8 x).toNat : Int) = x % 256 := by
  unfold by8
  rw [UInt8.toNat_ofNat']
  omega
theorem u8v_by8 (x : Int) : u8v (by8 x) = .int .u8 (x % 256) := by unfold u8v; rw [by8_toNat]
theorem by8_mod (x : Int) : by8 (x % 256) = by8 x := by unfold by8; congr 1; omega
theorem by8_u8 (b : UInt8) : by8 (b.toNat : Int) = b := by
  apply UInt8.toNat_inj.1
  have h := by8_toNat (b.toNat : Int)
  have := b.toNat_lt
  omega

theorem OB.form {w : World} {B : Nat} {v : Value} {l : List UInt8} (h : OB w B v l) (hn : 0 < l.length) : ∃ g cap, v = .slice (some ⟨g, 0, none⟩) l.length cap ∧ B ≤ g ∧ g < w.heap.size := h.2.form hn
theorem OB.cell {w : World} {B g n c : Nat} {l : List UInt8} (h : OB w B (.slice (some ⟨g, 0, none⟩) n c) l) (i : Nat) (hi : i < l.length) : w.cell? ⟨g, i, none⟩ = some (.int .u8 (l[i].toNat : Int)) := by
  have := h.2.cells (g := g) rfl i (u8v l[i]) (by simp [hi])
  simpa [Addr.add_lit, u8v] using this
theorem OB.frozen {w : World} {B g n c : Nat} {l : List UInt8} (h : OB w B (.slice (some ⟨g, 0, none⟩) n c) l) (i : Nat) : w.frozen? ⟨g, i, none⟩ = false := by
  have e : n = l.length := by
    obtain ⟨A', c', e⟩ := h.shape
    injection e
  subst e
  exact h.2.frozenAt i
/-- a byte is written -/
theorem OB.set {w : World} {B g n c : Nat} {l : List UInt8} (h : OB w B (.slice (some ⟨g, 0, none⟩) n c) l) (i : Nat) (x : UInt8) (u : Value) (hu : u = .int .u8 (x.toNat : Int)) :
    OB (w.setCell ⟨g, i, none⟩ u) B (.slice (some ⟨g, 0, none⟩) n c) (l.set i x) := by
  subst hu
  have e : n = l.length := by
    obtain ⟨A', c', e⟩ := h.shape
    injection e
  subst e
  refine ⟨by simpa using h.1, ?_⟩
  have := (h.2.stored i (u8v x)).1
  simpa [List.map_set, u8v] using this

/-- append of bytes onto bytes of the call's own, in the walk. -/
theorem wpList_append_ob {Pr : Program} {w : World} {ops : Array Oper} {rest : List Oper} {o : Oper} {a : Act} {Q : Exit → Act → World → Prop} (i : TypeInfo) (t : TypeId)
    (ht : Pr.underlying t = some (.slice 5)) (hi : Pr.info? 5 = some i) (hz : i.zero = some (.int .u8 0)) (hsize : i.size = 1) (hby : i.bytes = 1)
    (hgd : o.guard = none) (s x : Operand) (ho : o.op = .call { callee := .builtin .append, args := #[s, x], argTypes := #[t, t] })
    (B : Nat) (v : Value) (l : List UInt8) (hs : a.eval s = v) (P : Nat → Prop) (y : Value) (r : List UInt8) (hx : a.eval x = y)
    (hown : OB w B v l) (hr : RB w P y r) (hlen : l.length + r.length ≤ 140737488355328) (hbase : B ≤ w.heap.size)
    (h : ∀ A c w', OB w' B (.slice A (l.length + r.length) c) (l ++ r) → w.grownBy w' v.ownBlock → (A = none ↔ v = .slice none 0 0 ∧ r = []) → ((Value.slice A (l.length + r.length) c).ownBlock = v.ownBlock ∨ (Value.slice A (l.length + r.length) c).ownBlock = some w.heap.size) → wpList Pr ops Q rest (a.put o.dst (.slice A (l.length + r.length) c)) w') :
    wpList Pr ops Q (o :: rest) a w := by
  obtain ⟨_, A, c, rfl, _, hcell⟩ := hr
  refine wpList_append_row hgd s x t ho B 5 i (.int .u8 0) 1 1 ht hi hz hsize hby rfl (by decide) v l.length (l.map u8v) hs hown.2 A r.length c hx (r.map u8v) (by simp) ?_ (fun u hu => u8v_one u r hu) (by simp only [maxLen]; omega) (by omega) hbase ?_
  · intro j u hu
    simp only [List.getElem?_map, Option.map_eq_some_iff] at hu
    obtain ⟨b, hb, rfl⟩ := hu
    obtain ⟨hj, rfl⟩ := List.getElem?_eq_some_iff.1 hb
    obtain ⟨b', off, rfl, _, hc⟩ := hcell j hj
    exact ⟨_, rfl, by rw [Addr.add_lit]; exact hc⟩
  · intro v' w' ho' hg hn hb
    have hob : OB w' B v' (l ++ r) := ⟨by simpa using hlen, by simpa using ho'⟩
    obtain ⟨A', c', rfl⟩ := hob.shape
    rw [List.length_append] at hob hn hb ⊢
    refine h A' c' w' hob hg ?_ hb
    rw [← show (r.length = 0) = (r = []) from by simp, ← hn]
    constructor
    · rintro rfl
      rcases hob.2.2 with ⟨e, _⟩ | ⟨g, cap, cur, e, _⟩
      · exact e
      · cases e
    · intro e; injection e

theorem Ex.append {S : Nat → Prop} {a w w' : World} {B : Nat} {v : Value} {l : List UInt8} (h : Ex S a w) (ho : OB w B v l) (hg : w.grownBy w' v.ownBlock) (hB : a.heap.size ≤ B) : Ex S a w' :=
  h.grown hg (fun k hk => .inr (Nat.le_trans hB (ho.lt k hk).1))
/-- the same, the whole under a name, and what is kept since a world that was -/
theorem wpList_append_om {Pr : Program} {w : World} {ops : Array Oper} {rest : List Oper} {o : Oper} {a : Act} {Q : Exit → Act → World → Prop} (i : TypeInfo) (t : TypeId)
    (ht : Pr.underlying t = some (.slice 5)) (hi : Pr.info? 5 = some i) (hz : i.zero = some (.int .u8 0)) (hsize : i.size = 1) (hby : i.bytes = 1)
    (hgd : o.guard = none) (s x : Operand) (ho : o.op = .call { callee := .builtin .append, args := #[s, x], argTypes := #[t, t] })
    (w0 : World) (S : Nat → Prop) (B : Nat) (v : Value) (l : List UInt8) (hs : a.eval s = v) (P : Nat → Prop) (y : Value) (r m : List UInt8) (hm : l ++ r = m) (hx : a.eval x = y)
    (hex : Ex S w0 w) (hown : OB w B v l) (hr : RB w P y r) (hlen : l.length + r.length ≤ 140737488355328) (h0 : w0.heap.size ≤ B) (hbase : B ≤ w.heap.size)
    (h : ∀ A c w', OB w' B (.slice A m.length c) m → Ex S w0 w' → w.heap.size ≤ w'.heap.size → wpList Pr ops Q rest (a.put o.dst (.slice A m.length c)) w') :
    wpList Pr ops Q (o :: rest) a w := by
  subst hm
  rw [List.length_append] at h
  exact wpList_append_ob i t ht hi hz hsize hby hgd s x ho B v l hs P y r hx hown hr hlen hbase (fun A c w' h1 h2 _ _ => h A c w' h1 (hex.append hown h2 h0) h2.size)

/-! ### texts -/

/-- bytes as a text -/
def bs (l : List UInt8) : ByteArray := ⟨l.toArray⟩
theorem bs_toList (l : List UInt8) : (bs l).data.toList = l := by simp [bs]
theorem bs_of (s : ByteArray) : bs s.data.toList = s := by simp [bs]
theorem bs_size (l : List UInt8) : (bs l).size = l.length := by simp [bs, ByteArray.size]
theorem bs_get (l : List UInt8) (k : Nat) (h : k < l.length) : (bs l)[k]'(by rw [bs_size]; exact h) = l[k] := rfl
theorem bs_append (a b : List UInt8) : bs a ++ bs b = bs (a ++ b) := by
  apply ByteArray.ext
  simp [bs, ByteArray.data_append]
theorem bs_inj {a b : List UInt8} : bs a = bs b ↔ a = b := ⟨fun h => by rw [← bs_toList a, h, bs_toList], fun h => by rw [h]⟩
theorem bs_nil : bs [] = ⟨#[]⟩ := rfl
/-- 'string(b)' -/
theorem RB.str {Pr : Program} {w : World} {P : Nat → Prop} {v : Value} {l : List UInt8} (h : RB w P v l) (src dst e : TypeId) (hs : Pr.underlying src = some (.slice e)) (he : Pr.underlying e = some (.int .u8)) (hd : Pr.underlying dst = some .string) :
    (convert src dst v).run Pr w = .ok (.string (bs l)) w := by
  obtain ⟨_, A, c, rfl, _, hc⟩ := h
  cases A with
  | none =>
    have hn : l = [] := by
      cases l with
      | nil => rfl
      | cons x r => obtain ⟨b, off, e, _⟩ := hc 0 (by simp); cases e
    subst hn
    exact run_convert_bytes_nil w src e hs he 0 c dst hd
  | some a =>
    refine run_convert_bytes_back w src dst e a c l hs he hd (fun j hj => ?_)
    obtain ⟨b, off, e, _, hcj⟩ := hc j hj
    obtain rfl := Option.some.inj e
    rw [Addr.add_lit]
    exact hcj

/-- the world behind '[]byte(s)', and the capacity -/
def tw (w : World) (l : List UInt8) : World := Lib.bytesWorld w 5 (bs l)
def tc (w : World) (l : List UInt8) : Nat := grownCap w (bs l).size 0 5
theorem tw_size (w : World) (l : List UInt8) : (tw w l).heap.size = w.heap.size + 1 := Lib.bytesWorld_size _ _ _
theorem conv_text {Pr : Program} (src dst : TypeId) (hs : Pr.underlying src = some .string) (hd : Pr.underlying dst = some (.slice 5)) (he : Pr.underlying 5 = some (.int .u8)) (w : World) (l : List UInt8) :
    (convert src dst (.string (bs l))).run Pr w = .ok (.slice (some ⟨w.heap.size, 0, none⟩) l.length (tc w l)) (tw w l) := by
  rw [Lib.run_convert_string_bytes w src dst 5 (bs l) hs hd he, bs_size]
  rfl
theorem Ex.text {S : Nat → Prop} {a w : World} (h : Ex S a w) (l : List UInt8) : Ex S a (tw w l) :=
  h.trans ⟨rfl, rfl, rfl, by rw [tw_size]; omega, fun k hk _ => Lib.bytesWorld_at_old _ _ _ _ hk⟩
theorem RB.text (w : World) (l : List UInt8) (hl : l.length ≤ 9223372036854775807) (g : Nat) (hg : g = w.heap.size) : RB (tw w l) (fun k => k = w.heap.size) (.slice (some ⟨g, 0, none⟩) l.length (tc w l)) l := by
  subst hg
  refine ⟨hl, _, _, rfl, ?_, fun i hi => ⟨_, _, rfl, rfl, ?_⟩⟩
  · have := grownCap_ge w (bs l).size 0 5
    rw [bs_size] at this
    unfold tc
    rw [bs_size]
    exact this
  · rw [Nat.zero_add]
    have := Lib.bytesWorld_cell w 5 (bs l) i (by rw [bs_size]; exact hi)
    rw [bs_toList] at this
    show (Lib.bytesWorld w 5 (bs l)).cell? _ = _
    rw [this]
    simp [List.getD_eq_getElem?_getD, hi]

end Go.Proofs.YtabjihchcmjdmaaDoor
/-
  The contracts of errors: strconv.Itoa of a small number, Errno.Error, Wrong.Error, Wrap, errors.As at a *Errno, api.Code. By an AI agent.
-/
namespace Go.Proofs.YtabjihchcmjdmaaDoor
open Go.RowKit Go.Extern.Stop Go.Stop Go.Extern

/-- a number below 100, as text -/
def num (k : Nat) : List UInt8 := if k < 10 then [UInt8.ofNat (48 + k)] else [UInt8.ofNat (48 + k / 10), UInt8.ofNat (48 + k % 10)]

set_option maxRecDepth 100000 in
theorem small_any (k : Nat) (h : k ≤ 13) (w : World) : Calls Tryd.prog 88 #[.int .i64 (k : Int)] w fun e w' => e = .returned (.string (bs (num k))) ∧ w = w' := by
  have : k = 0 ∨ k = 1 ∨ k = 2 ∨ k = 3 ∨ k = 4 ∨ k = 5 ∨ k = 6 ∨ k = 7 ∨ k = 8 ∨ k = 9 ∨ k = 10 ∨ k = 11 ∨ k = 12 ∨ k = 13 := by omega
  rcases this with rfl | rfl | rfl | rfl | rfl | rfl | rfl | rfl | rfl | rfl | rfl | rfl | rfl | rfl
  all_goals
    go_enter Tryd.func88, Tryd.ntmps88
    go_wp2
    go_ret
    exact ⟨rfl, rfl⟩

theorem formatInt_any (k : Nat) (h : k ≤ 13) (w : World) : Calls Tryd.prog 87 #[.int .i64 (k : Int), .int .i64 10] w fun e w' => e = .returned (.string (bs (num k))) ∧ w = w' := by
  have h1 : (0 : Int) ≤ (k : Int) := by omega
  have h2 : (k : Int) < 100 := by omega
  have h3 : decide ((0 : Int) ≤ (k : Int)) = true := by simp
  have h4 : decide ((k : Int) < 100) = true := by simp; omega
  go_enter Tryd.func87, Tryd.ntmps87
  go_wp2_with fail
  refine (small_any k h _).mono ?_
  rintro e w' ⟨rfl, rfl⟩
  go_wp2_with fail
  go_ret
  exact ⟨rfl, rfl⟩
theorem sitoa_any (k : Nat) (h : k ≤ 13) (w : World) : Calls Tryd.prog 86 #[.int .i64 (k : Int)] w fun e w' => e = .returned (.string (bs (num k))) ∧ w = w' := by
  go_enter Tryd.func86, Tryd.ntmps86
  go_wp2_with fail
  refine (formatInt_any k h _).mono ?_
  rintro e w' ⟨rfl, rfl⟩
  go_wp2_with fail
  go_ret
  exact ⟨rfl, rfl⟩
theorem itoa_any (k : Nat) (h : k ≤ 13) (w : World) : Calls Tryd.prog 85 #[.int .i64 (k : Int)] w fun e w' => e = .returned (.string (bs (num k))) ∧ w = w' := by
  go_enter Tryd.func85, Tryd.ntmps85
  go_wp2_with fail
  refine (sitoa_any k h _).mono ?_
  rintro e w' ⟨rfl, rfl⟩
  go_wp2_with fail
  go_ret
  exact ⟨rfl, rfl⟩

/-- the text of an error: its layers, and its number -/
def etx : List (List UInt8) → Nat → List UInt8
  | [], k => [101, 114, 114, 111, 114, 32] ++ num k
  | s :: r, k => s ++ [58, 32] ++ etx r k
theorem num_len (k : Nat) : (num k).length ≤ 2 := by unfold num; split <;> simp
theorem errno_any (k : Nat) (h : k ≤ 13) (w : World) : Calls Tryd.prog 84 #[.int .i64 (k : Int)] w fun e w' => e = .returned (.string (bs (etx [] k))) ∧ w = w' := by
  have hb := bs_append [101, 114, 114, 111, 114, 32] (num k)
  have hb2 : bs [101, 114, 114, 111, 114, 32] = ⟨#[101, 114, 114, 111, 114, 32]⟩ := rfl
  rw [hb2] at hb
  have hz := bs_size (num k)
  have hz2 := num_len k
  go_enter Tryd.func84, Tryd.ntmps84
  go_wp2_with fail
  refine (itoa_any k h _).mono ?_
  rintro e w' ⟨rfl, rfl⟩
  go_wp2_with fail
  go_ret
  exact ⟨rfl, rfl⟩

/-- v is an error of these layers and this number, that lies in blocks of which P holds -/
def EC (w : World) (P : Nat → Prop) : List (List UInt8) → Value → Nat → Prop
  | [], v, k => v = .iface 57 (.int .i64 (k : Int))
  | s :: r, v, k => ∃ e v', v = .iface 113 (.pointer (some ⟨e, 0, none⟩)) ∧ P e ∧ w.cell? ⟨e, 0, none⟩ = some (.string (bs s)) ∧ w.cell? ⟨e, 1, none⟩ = some v' ∧ EC w P r v' k
theorem EC.keep {w w' : World} {P S : Nat → Prop} (hx : Ex S w w') (hs : ∀ j, P j → ¬ S j) : ∀ {r v k}, EC w P r v k → EC w' P r v k
  | [], _, _, h => h
  | _ :: _, _, _, ⟨e, v', h1, h2, h3, h4, h5⟩ => ⟨e, v', h1, h2, hx.cell h3 (hs _ h2), hx.cell h4 (hs _ h2), EC.keep hx hs h5⟩
theorem EC.mono {w : World} {P Q : Nat → Prop} (hs : ∀ j, P j → Q j) : ∀ {r v k}, EC w P r v k → EC w Q r v k
  | [], _, _, h => h
  | _ :: _, _, _, ⟨e, v', h1, h2, h3, h4, h5⟩ => ⟨e, v', h1, hs _ h2, h3, h4, EC.mono hs h5⟩
set_option linter.unusedSimpArgs false in
/-- 'err.Error()' of a Wrong, given that of what it wraps -/
theorem werror_step (s t : List UInt8) (e f : Nat) (ty : TypeId) (y : Value) (w : World) (h3 : w.cell? ⟨e, 0, none⟩ = some (.string (bs s))) (h4 : w.cell? ⟨e, 1, none⟩ = some (.iface ty y))
    (hm : ∀ W, (Go.method 279 ty y "Error").run Tryd.prog W = .ok (f, y) W) (hf : ∀ W, (callFunc f #[y]).run Tryd.prog W = .ok (.enter f #[y]) W) (hl : s.length + t.length ≤ 1000)
    (ihc : ∀ W, Ex (fun _ => False) w W → Calls Tryd.prog f #[y] W fun e w' => e = .returned (.string (bs t)) ∧ Ex (fun _ => False) W w') :
    Calls Tryd.prog 102 #[.pointer (some ⟨e, 0, none⟩)] w fun e w' => e = .returned (.string (bs (s ++ [58, 32] ++ t))) ∧ Ex (fun _ => False) w w' := by
  have c0 : ∀ W, Ex (fun _ => False) w W → W.cell? ⟨e, 0, none⟩ = some (.string (bs s)) := fun W hx => hx.cell h3 id
  have c1 : ∀ W, Ex (fun _ => False) w W → W.cell? ⟨e, 1, none⟩ = some (.iface ty y) := fun W hx => hx.cell h4 id
  have hz1 := bs_size s
  have hz2 := bs_size t
  have hz3 := bs_size (s ++ [58, 32])
  have hb1 : bs s ++ ⟨#[58, 32]⟩ = bs (s ++ [58, 32]) := bs_append s [58, 32]
  have hb2 := bs_append (s ++ [58, 32]) t
  have n1 : ¬ 9223372036854775807 < s.length + 2 := by omega
  have n2 : ¬ 9223372036854775807 < s.length + 2 + t.length := by omega
  have hxd : Ex (fun _ => False) w w.drew := (Ex.refl _ w).drew
  go_enter Tryd.func102, Tryd.ntmps102
  go_wp2_with fail
  refine wp_region_held_drew (S := fun w' => Ex (fun _ => False) w w') (by kernel_rfl) hxd (fun _ => ?_)
  refine wpAnyH_take (i := 0) (v := ?v0) rfl (by kernel_rfl) (by kernel_rfl) (by kernel_rfl) (fun _ _ _ h => h) (Or.inl ⟨by rfl, ?hy0⟩) (by assumption) ?rest0
  case hy0 => (intro w hSw; (try dsimp only at hSw); go_simp <;> with_reducible rfl)
  try simp only [Act.put, List.setIfInBounds_toArray, List.set_cons_zero, List.set_cons_succ]
  refine wpAnyH_take (i := 1) (v := ?v1) rfl (by kernel_rfl) (by kernel_rfl) (by kernel_rfl) (fun _ _ _ h => h) (Or.inl ⟨by rfl, ?hy1⟩) (by assumption) ?rest1
  case hy1 => (intro w hSw; (try dsimp only at hSw); go_simp <;> with_reducible rfl)
  try simp only [Act.put, List.setIfInBounds_toArray, List.set_cons_zero, List.set_cons_succ]
  refine wpAnyH_take (i := 2) (v := ?v2) rfl (by kernel_rfl) (by kernel_rfl) (by kernel_rfl) (fun _ _ _ h => h) (Or.inl ⟨by rfl, ?hy2⟩) (by assumption) ?rest2
  case hy2 => (intro w hSw; (try dsimp only at hSw); go_simp <;> with_reducible rfl)
  try simp only [Act.put, List.setIfInBounds_toArray, List.set_cons_zero, List.set_cons_succ]
  refine wpAnyH_take (i := 3) (v := ?v3) rfl (by kernel_rfl) (by kernel_rfl) (by kernel_rfl) (fun _ _ _ h => h) (Or.inl ⟨by rfl, ?hy3⟩) (by assumption) ?rest3
  case hy3 => (intro w hSw; (try dsimp only at hSw); go_simp <;> with_reducible rfl)
  try simp only [Act.put, List.setIfInBounds_toArray, List.set_cons_zero, List.set_cons_succ]
  refine wpAnyH_take (i := 4) (v := ?v4) rfl (by kernel_rfl) (by kernel_rfl) (by kernel_rfl) (fun _ _ _ h => h) (Or.inl ⟨by rfl, ?hy4⟩) (by assumption) ?rest4
  case hy4 => (intro w hSw; (try dsimp only at hSw); go_simp <;> with_reducible rfl)
  try simp only [Act.put, List.setIfInBounds_toArray, List.set_cons_zero, List.set_cons_succ]
  refine wpAnyH_take (i := 5) (v := ?v5) rfl (by kernel_rfl) (by kernel_rfl) (by kernel_rfl) (fun _ _ _ h => h) (Or.inl ⟨by rfl, ?hy5⟩) (by assumption) ?rest5
  case hy5 => (intro w hSw; (try dsimp only at hSw); go_simp <;> with_reducible rfl)
  try simp only [Act.put, List.setIfInBounds_toArray, List.set_cons_zero, List.set_cons_succ]
  refine wpAnyH_take (i := 6) (v := ?v6) rfl (by kernel_rfl) (by kernel_rfl) (by kernel_rfl) (fun _ _ _ h => h) (Or.inl ⟨by rfl, ?hy6⟩) (by assumption) ?rest6
  case hy6 => (intro w hSw; (try dsimp only at hSw); go_simp <;> with_reducible rfl)
  try simp only [Act.put, List.setIfInBounds_toArray, List.set_cons_zero, List.set_cons_succ]
  refine wpAnyH_take (i := 7) (v := ?v7) rfl (by kernel_rfl) (by kernel_rfl) (by kernel_rfl) (fun _ _ _ h => h) (Or.inl ⟨by rfl, ?hy7⟩) (by assumption) ?rest7
  case hy7 => (intro w hSw; (try dsimp only at hSw); go_simp <;> with_reducible rfl)
  try simp only [Act.put, List.setIfInBounds_toArray, List.set_cons_zero, List.set_cons_succ]
  refine wpAnyH_take (i := 8) (v := ?v8) rfl (by kernel_rfl) (by kernel_rfl) (by kernel_rfl) (fun _ _ _ h => h) (Or.inl ⟨by rfl, ?hy8⟩) (by assumption) ?rest8
  case hy8 => (intro w hSw; (try dsimp only at hSw); go_simp <;> with_reducible rfl)
  try simp only [Act.put, List.setIfInBounds_toArray, List.set_cons_zero, List.set_cons_succ]
  refine wpAnyH_ready (rs := [9]) (by kernel_rfl) (by simp) ?_
  refine AllReadyH.cons rfl (fun K hK => ?_) AllReadyH.nil
  go_simp
  refine (ihc _ (by assumption)).mono ?_; rintro e2 w2 ⟨rfl, hx2⟩; refine hK.out _ _ (Ex.trans (by assumption) hx2) (fun _ => ?_)
  try simp only [Act.put, List.setIfInBounds_toArray, List.set_cons_zero, List.set_cons_succ]
  refine wpAnyH_take (i := 10) (oi := { dst := some 13, op := Go.Op.binOp Go.BinOp.add 9 (Go.Operand.tmp 7) (Go.Operand.tmp 12) 9, type := 9, pos := "api.go:40", after := #[{ on := 4, ground := Go.Ground.data }, { on := 9, ground := Go.Ground.data }], guard := none }) (v := ?v10) rfl (by kernel_rfl) (by kernel_rfl) (by kernel_rfl) (fun _ _ _ h => h) (Or.inl ⟨by rfl, ?hy10⟩) (by assumption) ?rest10
  case hy10 => (intro w hSw; (try dsimp only at hSw); go_simp <;> with_reducible rfl)
  try simp only [Act.put, List.setIfInBounds_toArray, List.set_cons_zero, List.set_cons_succ]
  refine wpAnyH_take (i := 11) (oi := { dst := some 2, op := Go.Op.assign (Go.Operand.tmp 13), type := 9, pos := "api.go:40", after := #[{ on := 10, ground := Go.Ground.data }, { on := 9, ground := Go.Ground.chain }, { on := 0, ground := Go.Ground.phase }, { on := 1, ground := Go.Ground.phase }, { on := 2, ground := Go.Ground.phase }, { on := 3, ground := Go.Ground.phase }, { on := 4, ground := Go.Ground.phase }, { on := 5, ground := Go.Ground.phase }, { on := 6, ground := Go.Ground.phase }, { on := 7, ground := Go.Ground.phase }, { on := 8, ground := Go.Ground.phase }, { on := 9, ground := Go.Ground.phase }, { on := 10, ground := Go.Ground.phase }], guard := none }) (v := ?v11) rfl (by kernel_rfl) (by kernel_rfl) (by kernel_rfl) (fun _ _ _ h => h) (Or.inl ⟨by rfl, ?hy11⟩) (by assumption) ?rest11
  case hy11 => (intro w hSw; (try dsimp only at hSw); go_simp <;> with_reducible rfl)
  try simp only [Act.put, List.setIfInBounds_toArray, List.set_cons_zero, List.set_cons_succ]
  refine wpAnyH_done (by kernel_rfl) ?_ _
  go_wp2
  go_ret
  refine ⟨?_, by assumption⟩
  simp

theorem meth_errno (k : Int) (W : World) : (Go.method 279 57 (.int .i64 k) "Error").run Tryd.prog W = .ok (84, .int .i64 k) W := by kernel_rfl
theorem meth_wrong (p : Addr) (W : World) : (Go.method 279 113 (.pointer (some p)) "Error").run Tryd.prog W = .ok (102, .pointer (some p)) W := by kernel_rfl
theorem call_errno (k : Int) (W : World) : (callFunc 84 #[.int .i64 k]).run Tryd.prog W = .ok (.enter 84 #[.int .i64 k]) W := by kernel_rfl
theorem call_wrong (p : Addr) (W : World) : (callFunc 102 #[.pointer (some p)]).run Tryd.prog W = .ok (.enter 102 #[.pointer (some p)]) W := by kernel_rfl
/-- 'err.Error()', whatever the layers -/
theorem etext {P : Nat → Prop} (k : Nat) (hk : k ≤ 13) : ∀ (r : List (List UInt8)) (v : Value) (w : World), EC w P r v k → (etx r k).length ≤ 1000 →
    ∃ ty y f, v = .iface ty y ∧ (∀ W, (Go.method 279 ty y "Error").run Tryd.prog W = .ok (f, y) W) ∧ (∀ W, (callFunc f #[y]).run Tryd.prog W = .ok (.enter f #[y]) W) ∧
      ∀ W, Ex (fun _ => False) w W → Calls Tryd.prog f #[y] W fun e w' => e = .returned (.string (bs (etx r k))) ∧ Ex (fun _ => False) W w'
  | [], v, w, h, _ => ⟨_, _, _, h, meth_errno _, call_errno _, fun W _ => (errno_any k hk W).mono fun e w' ⟨h1, h2⟩ => ⟨h1, h2 ▸ Ex.refl _ W⟩⟩
  | s :: r, v, w, ⟨e, v', h1, h2, h3, h4, h5⟩, hl => by
    have hl' : s.length + (etx r k).length + 2 ≤ 1000 := by simp [etx] at hl; omega
    obtain ⟨ty, y, f, rfl, g1, g2, g3⟩ := etext k hk r v' w h5 (by omega)
    exact ⟨_, _, _, h1, meth_wrong _, call_wrong _, fun W hx => werror_step s (etx r k) e f ty y W (hx.cell h3 id) (hx.cell h4 id) g1 g2 (by omega) (fun W' hx' => g3 W' (hx.trans hx'))⟩

/-- an error: not nil -/
theorem wrap_any (s : List UInt8) (ty : TypeId) (y : Value) (w : World) :
    Calls Tryd.prog 37 #[.string (bs s), .iface ty y] w fun e w' => e = .returned (.iface 113 (.pointer (some ⟨w.heap.size, 0, none⟩))) ∧ w.alloc (.cells #[.string (bs s), .iface ty y] 115) = w' := by
  go_enter Tryd.func37, Tryd.ntmps37
  go_wp2_with fail
  go_ret
  exact ⟨rfl, rfl⟩
theorem EC.wrap {w : World} {P Q : Nat → Prop} {s : List UInt8} {r : List (List UInt8)} {v : Value} {k : Nat} (h : EC w P r v k) (hQ : Q w.heap.size) (hPQ : ∀ j, P j → Q j) (t : TypeId) :
    EC (w.alloc (.cells #[.string (bs s), v] t)) Q (s :: r) (.iface 113 (.pointer (some ⟨w.heap.size, 0, none⟩))) k :=
  ⟨w.heap.size, v, rfl, hQ, by rw [World.cell?_alloc_at _ _ _ _ rfl]; rfl, by rw [World.cell?_alloc_at _ _ _ _ rfl]; rfl, (EC.mono hPQ h).keep (S := fun _ => False) ((Ex.refl _ w).alloc _) (fun _ _ => id)⟩
/-- the layer's name -/
def lay1 : List UInt8 := [111, 99, 116, 101, 116, 115]
end Go.Proofs.YtabjihchcmjdmaaDoor
/-
  The contracts of octets.Writer. By an AI agent.
-/
namespace Go.Proofs.YtabjihchcmjdmaaDoor
open Go.RowKit

theorem Tryd.info5 : (Tryd.prog.info? 5).map (fun i => (i.zero, i.size, i.bytes)) = some (some (.int .u8 0), 1, 1) := by kernel_rfl
theorem info_parts {a : Option TypeInfo} {z : Value} {s b : Nat} (h : a.map (fun i => (i.zero, i.size, i.bytes)) = some (some z, s, b)) : ∃ i, a = some i ∧ i.zero = some z ∧ i.size = s ∧ i.bytes = b := by
  cases a with
  | none => simp at h
  | some i => simp at h; exact ⟨i, rfl, h.1, h.2.1, h.2.2⟩

/-- the writer at block p has put l; its bytes lie in block q -/
def WR (w : World) (p : Nat) (q : Option Nat) (l : List UInt8) : Prop :=
  ∃ v, w.cell? ⟨p, 0, none⟩ = some v ∧ w.frozen? ⟨p, 0, none⟩ = false ∧ OB w 0 v l ∧ v.ownBlock = q ∧ q ≠ some p
theorem WR.keep {w w' : World} {S : Nat → Prop} {p : Nat} {q : Option Nat} {l : List UInt8} (h : WR w p q l) (hx : Ex S w w') (hp : ¬ S p) (hq : ∀ k, q = some k → k < w.heap.size → ¬ S k) : WR w' p q l := by
  obtain ⟨v, h1, h2, h3, h4, h5⟩ := h
  exact ⟨v, hx.cell h1 hp, (hx.frozen (World.block_lt_of_cell? w _ h1) hp).trans h2, h3.keep hx (fun k hk hl _ => hq k (h4 ▸ hk) hl), h4, h5⟩
/-- what a call on the writer leaves -/
def WPost (w : World) (p : Nat) (q : Option Nat) (l : List UInt8) (w' : World) : Prop :=
  ∃ q', WR w' p q' l ∧ (q' = q ∨ ∃ k, q' = some k ∧ w.heap.size ≤ k) ∧ Ex (fun j => j = p ∨ q = some j) w w'
theorem WPost.trans {w w1 w2 : World} {p : Nat} {q q1 : Option Nat} {l2 : List UInt8} (hq : q1 = q ∨ ∃ k, q1 = some k ∧ w.heap.size ≤ k) (hx : Ex (fun j => j = p ∨ q = some j) w w1) (h : WPost w1 p q1 l2 w2) : WPost w p q l2 w2 := by
  obtain ⟨q2, h1, h2, h3⟩ := h
  refine ⟨q2, h1, ?_, hx.andThen h3 (fun i hi hj => ?_)⟩
  · rcases h2 with rfl | ⟨k, rfl, hk⟩
    · exact hq
    · exact .inr ⟨k, rfl, Nat.le_trans hx.size hk⟩
  · rcases hj with rfl | hj
    · exact .inl rfl
    · rcases hq with rfl | ⟨k, rfl, hk⟩
      · exact .inr hj
      · obtain rfl := Option.some.inj hj; omega

theorem WPost.made {w w1 : World} {p g : Nat} {q : Option Nat} {v u : Value} {m : List UInt8} (h4 : v.ownBlock = q) (h5 : q ≠ some p) (hlt : p < w.heap.size) (hx : Ex (fun j => v.ownBlock = some j) w w1)
    (hc1 : w1.cell? ⟨p, 0, none⟩ = some v) (hf1 : w1.frozen? ⟨p, 0, none⟩ = false) (ho : OB w1 0 u m) (hb : u.ownBlock = v.ownBlock ∨ u.ownBlock = some g) (hg : w.heap.size ≤ g) :
    WPost w p q m (w1.setCell ⟨p, 0, none⟩ u) := by
  subst h4
  have hne : u.ownBlock ≠ some p := by
    rcases hb with e | e
    · rw [e]; exact h5
    · rw [e]; intro h; obtain rfl := Option.some.inj h; omega
  refine ⟨u.ownBlock, ⟨u, World.cell?_setCell_same _ _ _ hc1, by rw [World.frozen?_setCell]; exact hf1, ho.keep (S := fun j => j = p) ((Ex.refl (fun j => j = p) w1).setCell (p := ⟨p, 0, none⟩) (.inl rfl) u) (fun k hk _ _ e => hne (by rw [hk, e])), rfl, hne⟩, ?_, (hx.mono (fun k _ h => .inr h)).setCell (p := ⟨p, 0, none⟩) (.inl (.inl rfl)) u⟩
  rcases hb with e | e
  · exact .inl e
  · exact .inr ⟨g, e, hg⟩

/-- the last bytes of a number, the highest first -/
def txt (n : Int) : Nat → List UInt8
  | 0 => []
  | k + 1 => txt (n / 256) k ++ [by8 n]
theorem txt_len (k : Nat) : ∀ n, (txt n k).length = k := by
  induction k with
  | zero => intro n; rfl
  | succ k ih => intro n; simp [txt, ih]

end Go.Proofs.YtabjihchcmjdmaaDoor
/-
  The contracts of octets.Reader. By an AI agent.
-/
namespace Go.Proofs.YtabjihchcmjdmaaDoor
open Go.RowKit

/-- the reader at block p has l left, that lies in block g from o on -/
def RD (w : World) (p g o : Nat) (l : List UInt8) : Prop :=
  ∃ A c, w.cell? ⟨p, 0, none⟩ = some (.slice A l.length c) ∧ w.frozen? ⟨p, 0, none⟩ = false ∧ l.length ≤ c ∧ l.length ≤ 1000000000 ∧ g ≠ p ∧ (A = none → l = []) ∧
    (∀ b, A = some b → b.spot = none) ∧ ∀ i (h : i < l.length), A = some ⟨g, o, none⟩ ∧ w.cell? ⟨g, o + i, none⟩ = some (.int .u8 (l[i].toNat : Int))
theorem RD.keep {w w' : World} {S : Nat → Prop} {p g o : Nat} {l : List UInt8} (h : RD w p g o l) (hx : Ex S w w') (hp : ¬ S p) (hg : l ≠ [] → ¬ S g) : RD w' p g o l := by
  obtain ⟨A, c, h1, h2, h3, h4, h5, h6, h7, h8⟩ := h
  exact ⟨A, c, hx.cell h1 hp, (hx.frozen (World.block_lt_of_cell? w _ h1) hp).trans h2, h3, h4, h5, h6, h7, fun i hi => ⟨(h8 i hi).1, hx.cell (h8 i hi).2 (hg (by intro e; subst e; simp at hi))⟩⟩

theorem nil_is (w : World) : (binOp .eql 25 (.slice none 0 0) (.slice none 0 0)).run Tryd.prog w = .ok (.bool true) w := by kernel_rfl
theorem nil_not (a : Addr) (n c : Nat) (w : World) : (binOp .eql 25 (.slice (some a) n c) (.slice none 0 0)).run Tryd.prog w = .ok (.bool false) w := by kernel_rfl

set_option maxRecDepth 100000 in
/-- slices.Clone of bytes -/
theorem clone_any (P : Nat → Prop) (A : Option Addr) (n c : Nat) (l : List UInt8) (w : World) (hr : RB w P (.slice A n c) l) (hA : A = none → c = 0) (hl : l.length ≤ 1000000000) :
    Calls Tryd.prog 27 #[.slice A n c] w fun e w' => ∃ A' c', e = .returned (.slice A' l.length c') ∧ OB w' w.heap.size (.slice A' l.length c') l ∧ Ex (fun _ => False) w w' := by
  obtain ⟨i0, hi, hz0, hz1, hz2⟩ := info_parts Tryd.info5
  have hr0 := hr
  obtain ⟨_, A', c', e, hc, hcell⟩ := hr
  injection e with e1 e2 e3
  subst e1 e2 e3
  cases A with
  | none =>
    have : l = [] := by
      cases l with
      | nil => rfl
      | cons x r => obtain ⟨b, off, e, _⟩ := hcell 0 (by simp); cases e
    subst this
    obtain rfl := hA rfl
    have q0 := nil_is
    clear hA hr0 hcell
    go_enter Tryd.func27, Tryd.ntmps27
    go_wp2_with fail
    go_ret
    exact ⟨none, 0, rfl, OB.nil w _, Ex.refl _ w⟩
  | some a =>
    have HR := Lib.hid hr0
    clear hr0 hcell hA
    have q1 := nil_not a l.length c
    go_enter Tryd.func27, Tryd.ntmps27
    go_wp2_with (at_builtin; refine wpList_append_ob i0 25 Tryd.underlying25 hi hz0 hz1 hz2 rfl (.tmp 5) (.tmp 6) rfl w.heap.size (.slice (some ⟨w.heap.size, 0, none⟩) 0 0) [] rfl _ (.slice (some a) l.length c) l rfl (OB.lit w w.heap.size [] (Nat.le_refl _) (by simp)) (HR.out.alloc _) ?c1 ?c2 ?_; (case c1 => simp; omega); (case c2 => simp); intro A c w1 ho hg hn hb)
    go_ret
    exact ⟨A, c, by simp, by simpa using ho, ((Ex.refl (fun _ => False) w).alloc _).grown hg (fun k hk => .inr (by obtain rfl := Option.some.inj hk; exact Nat.le_refl _))⟩

end Go.Proofs.YtabjihchcmjdmaaDoor
/-
  The contracts of octets.Reader: take, Bytes, Rest, U8, U16, U32. By an AI agent.
-/
namespace Go.Proofs.YtabjihchcmjdmaaDoor
open Go.RowKit

/-- what is taken -/
def Took (w : World) (p g o : Nat) (l : List UInt8) (n : Nat) (u : Value) (w' : World) : Prop :=
  ∃ A, u = .slice A n n ∧ (l = [] ∨ A = some ⟨g, o, none⟩) ∧ RB w' (fun j => j = g) u (l.take n) ∧ RD w' p g (o + n) (l.drop n) ∧ Ex (fun j => j = p) w w'

theorem took_none {w : World} {p g o c : Nat} (h1 : w.cell? ⟨p, 0, none⟩ = some (.slice none 0 c)) (h2 : w.frozen? ⟨p, 0, none⟩ = false) (h5 : g ≠ p) : Took w p g o [] 0 (.slice none 0 0) (w.setCell ⟨p, 0, none⟩ (.slice none 0 c)) :=
  ⟨none, rfl, .inl rfl, RB.nil _ _, ⟨none, c, by rw [World.cell?_setCell_same _ _ _ h1]; rfl, by rw [World.frozen?_setCell]; exact h2, by simp, by simp, h5, fun _ => by simp, (fun b hb => by cases hb), fun i hi => by simp at hi⟩, (Ex.refl (fun j => j = p) w).setCell (p := ⟨p, 0, none⟩) (.inl rfl) _⟩
theorem took_some {w : World} {p g o b o' c n x : Nat} {l : List UInt8} (h1 : w.cell? ⟨p, 0, none⟩ = some (.slice (some ⟨b, o', none⟩) l.length c)) (h2 : w.frozen? ⟨p, 0, none⟩ = false) (h3 : l.length ≤ c) (h4 : l.length ≤ 1000000000) (h5 : g ≠ p)
    (h8 : ∀ i (h : i < l.length), some (⟨b, o', none⟩ : Addr) = some ⟨g, o, none⟩ ∧ w.cell? ⟨g, o + i, none⟩ = some (.int .u8 (l[i].toNat : Int))) (hn : n ≤ l.length) (hx : x = o' + n ∨ c = n) :
    Took w p g o l n (.slice (some ⟨b, o', none⟩) n n) (w.setCell ⟨p, 0, none⟩ (.slice (some ⟨b, x, none⟩) (l.length - n) (c - n))) := by
  have hex : Ex (fun j => j = p) w (w.setCell ⟨p, 0, none⟩ (.slice (some ⟨b, x, none⟩) (l.length - n) (c - n))) := (Ex.refl (fun j => j = p) w).setCell (p := ⟨p, 0, none⟩) (.inl rfl) _
  refine ⟨_, rfl, ?_, ⟨by simp; omega, _, n, by rw [List.length_take, Nat.min_eq_left hn], by rw [List.length_take]; omega, fun i hi => ?_⟩, ⟨some ⟨b, x, none⟩, c - n, ?_, ?_, by simp; omega, by simp; omega, h5, (fun h => by cases h), (fun a ha => by obtain rfl := Option.some.inj ha; rfl), fun i hi => ?_⟩, hex⟩
  · cases l with
    | nil => exact .inl rfl
    | cons y r => exact .inr (h8 0 (by simp)).1
  · have hi' : i < l.length := by simp at hi; omega
    obtain ⟨e, hc⟩ := h8 i hi'
    refine ⟨g, o, e, rfl, ?_⟩
    rw [hex.cell hc h5, List.getElem_take]
  · rw [World.cell?_setCell_same _ _ _ h1, List.length_drop]
  · rw [World.frozen?_setCell]; exact h2
  · simp at hi
    obtain ⟨e, hc⟩ := h8 (n + i) (by omega)
    have e := Option.some.inj e
    injection e with e1 e2 e3
    subst e1 e2
    have : x = o' + n := by rcases hx with h | h; exact h; omega
    subst this
    refine ⟨rfl, ?_⟩
    rw [Nat.add_assoc, hex.cell hc h5, List.getElem_drop]

end Go.Proofs.YtabjihchcmjdmaaDoor
/-
  The plain law of the Internet checksum: no program in sight. By an AI agent.
-/
namespace Go.Proofs.YtabjihchcmjdmaaDoor

/-- what is folded into sixteen bits -/
def fo (n : Nat) : Nat := if n = 0 then 0 else (n - 1) % 65535 + 1
theorem fo_small (n : Nat) (h : n < 65536) : fo n = n := by unfold fo; split <;> omega
theorem fo_step (n : Nat) (h : 65536 ≤ n) : fo (n % 65536 + n / 65536) = fo n := by
  unfold fo
  rw [if_neg (by omega), if_neg (by omega)]
  omega
theorem fo_le (n : Nat) : fo n ≤ 65535 := by unfold fo; split <;> omega
theorem fo_zero (n : Nat) : fo n = 0 ↔ n = 0 := by unfold fo; split <;> omega
/-- two numbers above 0 that leave the same are folded alike -/
theorem fo_mod (a b : Nat) (ha : 0 < a) (hb : 0 < b) (h : a % 65535 = b % 65535) : fo a = fo b := by
  unfold fo
  rw [if_neg (by omega), if_neg (by omega)]
  omega
theorem fo_full (n : Nat) : fo n = 65535 ↔ 0 < n ∧ n % 65535 = 0 := by unfold fo; split <;> omega
theorem fo_rest (n : Nat) : fo n % 65535 = n % 65535 := by unfold fo; split <;> omega
theorem fo_add (a b : Nat) : fo (fo a + fo b) = fo (a + b) := by
  have h1 := fo_rest a
  have h2 := fo_rest b
  have h3 := fo_zero a
  have h4 := fo_zero b
  by_cases h : a + b = 0
  · rw [h3.2 (by omega), h4.2 (by omega), h]
  · exact fo_mod _ _ (by omega) (by omega) (by omega)

/-- the number of bytes, by pairs; h: is the next one a high one? -/
def ac : Bool → List UInt8 → Nat
  | _, [] => 0
  | h, c :: r => (if h then c.toNat * 256 else c.toNat) + ac (!h) r
/-- is the next byte behind these a high one? -/
def hi (h : Bool) (l : List UInt8) : Bool := if l.length % 2 = 0 then h else !h
theorem hi_nil (h : Bool) : hi h [] = h := rfl
theorem hi_cons (h : Bool) (c : UInt8) (r : List UInt8) : hi h (c :: r) = hi (!h) r := by
  unfold hi
  simp only [List.length_cons]
  by_cases e : r.length % 2 = 0
  · rw [if_pos e, if_neg (by omega)]
  · rw [if_neg e, if_pos (by omega)]; simp
theorem ac_append (a b : List UInt8) : ∀ h, ac h (a ++ b) = ac h a + ac (hi h a) b := by
  induction a with
  | nil => intro h; simp [ac, hi_nil]
  | cons c r ih => intro h; simp only [List.cons_append, ac, ih, hi_cons]; omega
theorem hi_append (a b : List UInt8) : ∀ h, hi h (a ++ b) = hi (hi h a) b := by
  induction a with
  | nil => intro h; simp [hi_nil]
  | cons c r ih => intro h; simp only [List.cons_append, ih, hi_cons]
theorem hi_snoc (l : List UInt8) (c : UInt8) (h : Bool) : hi h (l ++ [c]) = !(hi h l) := by
  rw [hi_append, hi_cons, hi_nil]
theorem ac_snoc (l : List UInt8) (c : UInt8) (h : Bool) : ac h (l ++ [c]) = ac h l + (if hi h l then c.toNat * 256 else c.toNat) := by
  rw [ac_append]; simp [ac]
theorem ac_le (l : List UInt8) : ∀ h, ac h l ≤ 65280 * l.length := by
  induction l with
  | nil => intro h; simp [ac]
  | cons c r ih =>
    intro h
    have h1 := ih (!h)
    have h2 := c.toNat_lt
    simp only [ac, List.length_cons]
    split <;> omega
theorem hi_even (l : List UInt8) (h : Bool) (e : l.length % 2 = 0) : hi h l = h := if_pos e
/-- the sum, as the document has it -/
def su (l : List UInt8) : Nat := 65535 - fo (ac true l)
theorem su_le (l : List UInt8) : su l ≤ 65535 := by unfold su; omega

theorem take_next {α : Type} (l : List α) (i : Nat) (h : i < l.length) : l.take (i + 1) = l.take i ++ [l[i]] := by
  rw [List.take_succ_eq_append_getElem h]
theorem flat_next (ls : List (List UInt8)) (i : Nat) (h : i < ls.length) : (ls.take (i + 1)).flatten = (ls.take i).flatten ++ ls[i] := by
  rw [take_next ls i h, List.flatten_append]; simp
theorem flat_len (ls : List (List UInt8)) (i : Nat) : (ls.take i).flatten.length ≤ ls.flatten.length := by
  have h : ls.flatten = (ls.take i).flatten ++ (ls.drop i).flatten := by rw [← List.flatten_append, List.take_append_drop]
  rw [h, List.length_append]; omega
/-- one number becomes another one -/
def up (s a b : Nat) : Nat := 65535 - fo ((65535 - s) + (65535 - a) + b)
theorem up_le (s a b : Nat) : up s a b ≤ 65535 := by unfold up; omega
/-- what is updated has the sum of what it has become -/
theorem up_now (k o n : Nat) (ho : o ≤ 65535) (h : 0 < k + n) : up (65535 - fo (k + o)) o n = 65535 - fo (k + n) := by
  have h1 := fo_le (k + o)
  have h2 := fo_rest (k + o)
  have h3 := fo_zero (k + o)
  unfold up
  rw [show 65535 - (65535 - fo (k + o)) = fo (k + o) by omega]
  congr 1
  refine fo_mod _ _ ?_ h ?_
  · by_cases e : k + o = 0
    · omega
    · have : fo (k + o) ≠ 0 := fun e' => e (h3.1 e')
      omega
  · omega
/-- and back -/
theorem up_back (k o n : Nat) (ho : o ≤ 65535) (hn : n ≤ 65535) (h : 0 < k + o) : up (up (65535 - fo (k + o)) o n) n o = 65535 - fo (k + o) := by
  have h1 := fo_le (k + o)
  have h2 := fo_rest (k + o)
  have h3 := fo_zero (k + o)
  have h0 : fo (k + o) ≠ 0 := fun e' => by have := h3.1 e'; omega
  unfold up
  rw [show 65535 - (65535 - fo (k + o)) = fo (k + o) by omega]
  have g1 := fo_le (fo (k + o) + (65535 - o) + n)
  have g2 := fo_rest (fo (k + o) + (65535 - o) + n)
  rw [show 65535 - (65535 - fo (fo (k + o) + (65535 - o) + n)) = fo (fo (k + o) + (65535 - o) + n) by omega]
  have g3 : fo (fo (k + o) + (65535 - o) + n) ≠ 0 := fun e' => by have := (fo_zero _).1 e'; omega
  congr 1
  exact fo_mod _ _ (by omega) h (by omega)
/-- a pair of bytes at an even place -/
theorem ac_pair (l : List UInt8) (j : Nat) (hj : j % 2 = 0) (h : j + 1 < l.length) : ac true l = ac true (l.take j) + (l[j].toNat * 256 + l[j + 1].toNat) + ac true (l.drop (j + 2)) := by
  have e : l = l.take j ++ ([l[j], l[j + 1]] ++ l.drop (j + 2)) := by
    rw [← List.append_assoc]
    simp
  have e2 : hi true (l.take j) = true := hi_even _ _ (by rw [List.length_take]; omega)
  have e3 := congrArg (ac true) e
  rw [ac_append, e2, ac_append] at e3
  simp only [ac, hi_cons, hi_nil, Bool.not_true, Bool.not_false, if_true] at e3
  simpa [Nat.add_assoc] using e3
theorem ac_set (l : List UInt8) (j : Nat) (hj : j % 2 = 0) (h : j + 1 < l.length) (x y : UInt8) :
    ac true ((l.set j x).set (j + 1) y) = ac true (l.take j) + (x.toNat * 256 + y.toNat) + ac true (l.drop (j + 2)) := by
  have h' : j + 1 < ((l.set j x).set (j + 1) y).length := by simpa using h
  rw [ac_pair _ j hj h']
  have e1 : ((l.set j x).set (j + 1) y)[j] = x := by simp
  have e2 : ((l.set j x).set (j + 1) y)[j + 1] = y := by simp
  have e3 : ((l.set j x).set (j + 1) y).take j = l.take j := by
    rw [List.take_set_of_le (by omega), List.take_set_of_le (by omega)]
  have e4 : ((l.set j x).set (j + 1) y).drop (j + 2) = l.drop (j + 2) := by
    rw [List.drop_set_of_lt (by omega), List.drop_set_of_lt (by omega)]
  rw [e1, e2, e3, e4]
/-- each bit turned -/
def inv8 (b : UInt8) : UInt8 := 255 - b
theorem inv8_toNat (b : UInt8) : (inv8 b).toNat = 255 - b.toNat := by
  unfold inv8
  have h := b.toNat_lt
  rw [UInt8.toNat_sub_of_le _ _ (by rw [UInt8.le_iff_toNat_le]; simp; omega)]
  rfl
theorem ac_inv (n : Nat) : ∀ l : List UInt8, l.length = 2 * n → ac true (l.map inv8) + ac true l = 65535 * n := by
  induction n with
  | zero => intro l h; have : l = [] := List.eq_nil_of_length_eq_zero (by omega); subst this; rfl
  | succ n ih =>
    intro l h
    match l, h with
    | a :: b :: r, h =>
      have hr := ih r (by simp at h; omega)
      have h1 := inv8_toNat a
      have h2 := inv8_toNat b
      have h3 := a.toNat_lt
      have h4 := b.toNat_lt
      simp only [List.map_cons, ac, Bool.not_true, Bool.not_false, if_true] at hr ⊢
      simp only [Bool.false_eq_true, if_false]
      omega
theorem su_inv (l : List UInt8) (h : l.length % 2 = 0) (h0 : 0 < l.length) : su (l ++ l.map inv8) = 0 := by
  have h1 := ac_inv (l.length / 2) l (by omega)
  unfold su
  rw [ac_append, hi_even _ _ h]
  have h2 := fo_full (ac true l + ac true (l.map inv8))
  rw [h2.2 (by omega)]
theorem su_two (a b : List UInt8) (h : a.length % 2 = 0) : su (a ++ b) = 65535 - fo (fo (ac true a) + fo (ac true b)) := by
  unfold su
  rw [ac_append, hi_even _ _ h, fo_add]
theorem inv_step (l : List UInt8) (k : Nat) (h : k < l.length) : ((l.take k).map inv8 ++ l.drop k).set k (inv8 l[k]) = (l.take (k + 1)).map inv8 ++ l.drop (k + 1) := by
  rw [take_next l k h, List.map_append, List.append_assoc, List.set_append_right _ _ (by simp; omega)]
  congr 1
  simp [show k - min k l.length = 0 by omega]
  rw [List.drop_eq_getElem_cons h]
  rfl
/-- two numbers as four bytes -/
theorem su_four (x y : Nat) (a b c d : UInt8) (h1 : a.toNat * 256 + b.toNat = x) (h2 : c.toNat * 256 + d.toNat = y) : su [a, b, c, d] = 65535 - fo (x + y) := by
  have e0 : ac true [a, b, c, d] = a.toNat * 256 + (b.toNat + (c.toNat * 256 + (d.toNat + 0))) := rfl
  have e : ac true [a, b, c, d] = x + y := by omega
  unfold su
  rw [e]
end Go.Proofs.YtabjihchcmjdmaaDoor
/-
  The contracts of octets.Reader: Bytes, Rest, U8, U16, U32. By an AI agent.
-/
namespace Go.Proofs.YtabjihchcmjdmaaDoor
open Go.RowKit

/-- the number of bytes, the highest first -/
def nb (l : List UInt8) : Nat := l.foldl (fun n b => n * 256 + b.toNat) 0
theorem nb_next (l : List UInt8) (i : Nat) (h : i < l.length) : nb (l.take (i + 1)) = nb (l.take i) * 256 + l[i].toNat := by
  rw [take_next l i h, nb, List.foldl_append]; rfl
theorem nb_from (l : List UInt8) : ∀ a : Nat, l.foldl (fun n b => n * 256 + b.toNat) a < (a + 1) * 256 ^ l.length := by
  induction l with
  | nil => intro a; simp
  | cons b r ih =>
    intro a
    have h1 := ih (a * 256 + b.toNat)
    have h2 := b.toNat_lt
    have h3 : (a * 256 + b.toNat + 1) * 256 ^ r.length ≤ ((a + 1) * 256) * 256 ^ r.length := Nat.mul_le_mul_right _ (by omega)
    rw [List.foldl_cons, List.length_cons, Nat.pow_succ, Nat.mul_comm (256 ^ r.length) 256, ← Nat.mul_assoc]
    omega
theorem nb_lt (l : List UInt8) : nb l < 256 ^ l.length := by
  have := nb_from l 0
  simpa [nb] using this
theorem or_add (x c : Nat) (hc : c < 256) : x * 256 ||| c = x * 256 + c := by
  have := Nat.two_pow_add_eq_or_of_lt (i := 8) (b := c) (by simpa using hc) x
  rw [Nat.mul_comm x 256]
  simpa using this.symm
theorem or_u32 (x c : Nat) (hx : x < 16777216) (hc : c < 256) (a b : Int) (ha : a = (x : Int) * 256) (hb : b = (c : Int)) : Go.bits .or .u32 a b = (x : Int) * 256 + (c : Int) := by
  subst ha hb
  have key : (BitVec.ofInt 32 ((x : Int) * 256) ||| BitVec.ofInt 32 (c : Int)).toNat = x * 256 + c := by
    rw [BitVec.toNat_or, BitVec.toNat_ofInt, BitVec.toNat_ofInt, show (((x : Int) * 256) % ((2 ^ 32 : Nat) : Int)).toNat = x * 256 by omega, show ((c : Int) % ((2 ^ 32 : Nat) : Int)).toNat = c by omega, or_add x c hc]
  show IntKind.u32.wrap ((BitVec.ofInt 32 ((x : Int) * 256) ||| BitVec.ofInt 32 (c : Int)).toNat : Nat) = _
  rw [key, IntKind.wrap_u32]
  omega
theorem nb_small (m : List UInt8) (j k B : Nat) (h : j ≤ k) (hB : 256 ^ k = B) : nb (m.take j) < B := by
  subst hB
  exact Nat.lt_of_lt_of_le (nb_lt _) (Nat.pow_le_pow_right (by decide) (Nat.le_trans (List.length_take_le _ _) h))

end Go.Proofs.YtabjihchcmjdmaaDoor
/-
  errors.As at a *Errno, and api.Code. By an AI agent. (Turned from the worked example ToyasAs.)
-/
namespace Go.Proofs.YtabjihchcmjdmaaDoor
open Go.RowKit Go.Extern.Stop Go.Stop Go.Extern

theorem as_none (t : Value) (w : World) :
    Calls Tryd.prog 36 #[.nilIface, t] w fun e w' => e = .returned (.bool false) ∧ w' = w := by
  go_enter Tryd.func36, Tryd.ntmps36
  go_wp2
  go_ret
  exact ⟨rfl, rfl⟩
theorem as_valueOfP (t : Addr) (w : World) : (ReflectliteValue.unpack (.iface 89 (.pointer (some t)))).run Tryd.prog w
    = .ok (.agg #[.pointer (some ⟨4, 89, none⟩), .pointer (some ⟨w.heap.size, 0, none⟩), .int .u64 150]) (w.alloc (.cells #[.pointer (some t)] 89)) := by kernel_rfl
theorem as_typeP (a : Addr) (w : World) : (ReflectliteValue.methodAny (ReflectliteValue.valueError "reflectlite.Value.Type" 0) (fun t _ _ _ => ReflectliteType.toType t) #[.agg #[.pointer (some ⟨4, 89, none⟩), .pointer (some a), .int .u64 150]]).run Tryd.prog w
    = .ok (.iface 120 (.agg #[.pointer (some ⟨4, 89, none⟩)])) w := by kernel_rfl
theorem as_methodKind (h : Value) (w : World) : (Go.method 279 120 (.agg #[h]) "Kind").run Tryd.prog w = .ok (80, h) w := by kernel_rfl
theorem as_kindP (w : World) : ((ReflectliteType.abiMethod fun t => (fun a : Nat => Value.int IntKind.u8 (a : Int)) <$> Rtype.kind t) #[.pointer (some ⟨4, 89, none⟩)]).run Tryd.prog w = .ok (.int .u8 22) w := by kernel_rfl
theorem as_kindE (w : World) : ((ReflectliteType.abiMethod fun t => (fun a : Nat => Value.int IntKind.u8 (a : Int)) <$> Rtype.kind t) #[.pointer (some ⟨4, 57, none⟩)]).run Tryd.prog w = .ok (.int .u8 2) w := by kernel_rfl
theorem as_rlm (z : Sem Value) (f : TypeId → Addr → Nat → Nat → Sem Value) (v : Value) :
    ReflectliteValue.method z f #[v] = (do match ← ReflectliteValue.parts v with | none => z | some (t, a, fl) => f t a fl (fl % 32)) := rfl
theorem as_partsP (a : Addr) (w : World) : (ReflectliteValue.parts (.agg #[.pointer (some ⟨4, 89, none⟩), .pointer (some a), .int .u64 150])).run Tryd.prog w = .ok (some (89, a, 150)) w := by kernel_rfl
theorem as_isNilP (a p : Addr) (W : World) (ha : W.cell? a = some (.pointer (some p))) :
    (ReflectliteValue.method (ReflectliteValue.valueError "reflectlite.Value.IsNil" 0) ReflectliteValue.isNil #[.agg #[.pointer (some ⟨4, 89, none⟩), .pointer (some a), .int .u64 150]]).run Tryd.prog W = .ok (.bool false) W := by
  rw [as_rlm]
  simp only [Sem.run_bind, as_partsP, Result.andThen]
  simp [ReflectliteValue.isNil, loadVar, isAgg, underlying, Tryd.underlying89, ha, Result.andThen]
theorem as_methodElem (h : Value) (w : World) : (Go.method 279 120 (.agg #[h]) "Elem").run Tryd.prog w = .ok (107, .agg #[h]) w := by kernel_rfl
theorem as_methodImplements (h : Value) (w : World) : (Go.method 279 120 (.agg #[h]) "Implements").run Tryd.prog w = .ok (108, .agg #[h]) w := by kernel_rfl
theorem as_methodAssignableTo (h : Value) (w : World) : (Go.method 279 120 (.agg #[h]) "AssignableTo").run Tryd.prog w = .ok (105, .agg #[h]) w := by kernel_rfl
theorem as_elemP (w : World) : (ReflectliteType.method ReflectliteType.elem #[.agg #[.pointer (some ⟨4, 89, none⟩)]]).run Tryd.prog w = .ok (.iface 120 (.agg #[.pointer (some ⟨4, 57, none⟩)])) w := by kernel_rfl
theorem as_implementsE (w : World) : (ReflectliteType.relation "Implements" ReflectliteType.implements_ #[.agg #[.pointer (some ⟨4, 57, none⟩)], .iface 120 (.agg #[.pointer (some ⟨4, 35, none⟩)])]).run Tryd.prog w = .ok (.bool true) w := by kernel_rfl
theorem as_typeOfE (v : Value) (w : World) : (ReflectliteType.typeOf #[.iface 57 v]).run Tryd.prog w = .ok (.iface 120 (.agg #[.pointer (some ⟨4, 57, none⟩)])) w := by kernel_rfl
theorem as_typeOfW (v : Value) (w : World) : (ReflectliteType.typeOf #[.iface 113 v]).run Tryd.prog w = .ok (.iface 120 (.agg #[.pointer (some ⟨4, 113, none⟩)])) w := by kernel_rfl
theorem as_assignableE (w : World) : (ReflectliteType.relation "AssignableTo" ReflectliteType.assignableTo #[.agg #[.pointer (some ⟨4, 57, none⟩)], .iface 120 (.agg #[.pointer (some ⟨4, 57, none⟩)])]).run Tryd.prog w = .ok (.bool true) w := by kernel_rfl
theorem as_assignableW (w : World) : (ReflectliteType.relation "AssignableTo" ReflectliteType.assignableTo #[.agg #[.pointer (some ⟨4, 113, none⟩)], .iface 120 (.agg #[.pointer (some ⟨4, 57, none⟩)])]).run Tryd.prog w = .ok (.bool false) w := by kernel_rfl
theorem as_valueOfE (k : Int) (w : World) : (ReflectliteValue.unpack (.iface 57 (.int .i64 k))).run Tryd.prog w
    = .ok (.agg #[.pointer (some ⟨4, 57, none⟩), .pointer (some ⟨w.heap.size, 0, none⟩), .int .u64 130]) (w.alloc (.cells #[.int .i64 k] 57)) := by kernel_rfl
theorem as_elemOfP (w : World) : (Rtype.elem? 89).run Tryd.prog w = .ok (some 57) w := by kernel_rfl
theorem as_mkE (p : Addr) (w : World) : (ReflectliteValue.mk 57 p ReflectliteValue.flagAddr).run Tryd.prog w = .ok (.agg #[.pointer (some ⟨4, 57, none⟩), .pointer (some p), .int .u64 386]) w := by kernel_rfl
theorem as_elemV (a p : Addr) (W : World) (ha : W.cell? a = some (.pointer (some p))) :
    (ReflectliteValue.method (ReflectliteValue.valueError "reflectlite.Value.Elem" 0) ReflectliteValue.elem #[.agg #[.pointer (some ⟨4, 89, none⟩), .pointer (some a), .int .u64 150]]).run Tryd.prog W
      = .ok (.agg #[.pointer (some ⟨4, 57, none⟩), .pointer (some p), .int .u64 386]) W := by
  rw [as_rlm]
  simp only [Sem.run_bind, as_partsP, Result.andThen]
  simp [ReflectliteValue.elem, loadVar, isAgg, underlying, Tryd.underlying89, ha, Result.andThen, as_elemOfP, as_mkE]
theorem as_rls (v x : Value) : ReflectliteValue.set #[v, x] = (do
    let (some (dst, a, fl), some (src, b, _)) := (← ReflectliteValue.parts v, ← ReflectliteValue.parts x)
      | unsupported (.noEntry "extern/(internal/reflectlite.Value).Set.zeroValue")
    if fl / ReflectliteValue.flagAddr % 2 == 0 then unsupported (.noEntry "extern/(internal/reflectlite.Value).Set.unaddressable")
    let val ← loadVar src b
    if ← Rtype.directlyAssignable dst src then storeVar dst a val
    else if ← Rtype.implements dst src then
      if (← Rtype.kind src) == 20 then
        match val with
        | .nilIface => unsupported (.noEntry "extern/reflectlite: a nil value of one interface type handed on as a value of another")
        | _ => storeVar dst a val
      else storeVar dst a (.iface src val)
    else panicString ("reflectlite.Set: value of type " ++ (← Rtype.spelt src) ++ " is not assignable to type " ++ (← Rtype.spelt dst))
    pure (.tuple #[])) := rfl
theorem as_partsEa (a : Addr) (w : World) : (ReflectliteValue.parts (.agg #[.pointer (some ⟨4, 57, none⟩), .pointer (some a), .int .u64 386])).run Tryd.prog w = .ok (some (57, a, 386)) w := by kernel_rfl
theorem as_partsE (a : Addr) (w : World) : (ReflectliteValue.parts (.agg #[.pointer (some ⟨4, 57, none⟩), .pointer (some a), .int .u64 130])).run Tryd.prog w = .ok (some (57, a, 130)) w := by kernel_rfl
theorem as_directE (w : World) : (Rtype.directlyAssignable 57 57).run Tryd.prog w = .ok true w := by kernel_rfl
theorem as_setE (ta b : Addr) (k : Int) (old : Value) (W : World) (hb : W.cell? b = some (.int .i64 k)) (ht : W.cell? ta = some old) (hf : W.frozen? ta = false) :
    (ReflectliteValue.set #[.agg #[.pointer (some ⟨4, 57, none⟩), .pointer (some ta), .int .u64 386], .agg #[.pointer (some ⟨4, 57, none⟩), .pointer (some b), .int .u64 130]]).run Tryd.prog W
      = .ok (.tuple #[]) (W.setCell ta (.int .i64 k)) := by
  rw [as_rls]
  simp only [Sem.run_bind, as_partsEa, as_partsE, Result.andThen]
  simp [ReflectliteValue.flagAddr, loadVar, isAgg, underlying, Tryd.underlying57, hb, Result.andThen, as_directE, storeVar, Value.cells, storeCells, Addr.add]
  rw [run_store Tryd.prog W ta _ _ (by rfl)]
  simp [ht, hf]
theorem as_methUnwrap (p : Addr) (W : World) : (Go.method 279 113 (.pointer (some p)) "Unwrap").run Tryd.prog W = .ok (103, .pointer (some p)) W := by kernel_rfl
theorem unwrap_any (e : Nat) (v : Value) (w : World) (h : w.cell? ⟨e, 1, none⟩ = some v) : Calls Tryd.prog 103 #[.pointer (some ⟨e, 0, none⟩)] w fun ev w' => ev = .returned v ∧ w = w' := by
  go_enter Tryd.func103, Tryd.ntmps103
  go_wp2
  go_ret
  exact ⟨rfl, rfl⟩
end Go.Proofs.YtabjihchcmjdmaaDoor
/-
  errors.As at a *Errno, and api.Code: the walks. By an AI agent. (Turned from the worked example ToyasAs.)
-/
namespace Go.Proofs.YtabjihchcmjdmaaDoor
open Go.RowKit Go.Extern.Stop Go.Stop Go.Extern

theorem EC.shape {w : World} {P : Nat → Prop} {r : List (List UInt8)} {v : Value} {k : Nat} (h : EC w P r v k) : ∃ ty y, v = .iface ty y := by
  cases r with
  | nil => exact ⟨_, _, h⟩
  | cons s r => obtain ⟨e, v', h1, _⟩ := h; exact ⟨_, _, h1⟩

set_option maxRecDepth 100000 in
set_option maxHeartbeats 4000000 in
theorem errorsas_any (P : Nat → Prop) (r : List (List UInt8)) (k : Nat) (v : Value) (a : Addr) (t : Addr) (old : Value) (w : World) (hec : EC w P r v k) (ha : w.cell? a = some (.pointer (some t))) (ht : w.cell? t = some old) (hf : w.frozen? t = false) :
    Calls Tryd.prog 52 #[v, .iface 89 (.pointer (some t)), .agg #[.pointer (some ⟨4, 89, none⟩), .pointer (some a), .int .u64 150], .iface 120 (.agg #[.pointer (some ⟨4, 57, none⟩)])] w
      fun e w' => e = .returned (.bool true) ∧ Ex (fun j => j = t.block) w w' ∧ w'.cell? t = some (.int .i64 (k : Int)) := by
  have x58 := @run_callFunc_extern Tryd.prog 57 _ ReflectliteType.typeOf Tryd.func57 (by kernel_rfl) (by kernel_rfl) (by kernel_rfl) (by kernel_rfl)
  have x99 := @run_callFunc_extern Tryd.prog 105 _ (ReflectliteType.relation "AssignableTo" ReflectliteType.assignableTo) Tryd.func105 (by kernel_rfl) (by kernel_rfl) (by kernel_rfl) (by kernel_rfl)
  have x59 := @run_callFunc_extern Tryd.prog 58 _ (ReflectliteValue.method (ReflectliteValue.valueError "reflectlite.Value.Elem" 0) ReflectliteValue.elem) Tryd.func58 (by kernel_rfl) (by kernel_rfl) (by kernel_rfl) (by kernel_rfl)
  have x54 := @run_callFunc_extern Tryd.prog 49 _ (fun args => ReflectliteValue.unpack (args.getD 0 (.tuple #[]))) Tryd.func49 (by kernel_rfl) (by kernel_rfl) (by kernel_rfl) (by kernel_rfl)
  have x60 := @run_callFunc_extern Tryd.prog 59 _ ReflectliteValue.set Tryd.func59 (by kernel_rfl) (by kernel_rfl) (by kernel_rfl) (by kernel_rfl)
  have tE := as_typeOfE
  have tW := as_typeOfW
  have mA := as_methodAssignableTo
  have aE := as_assignableE
  have aW := as_assignableW
  have vE := as_valueOfE
  have mU := as_methUnwrap
  have nA := fun (v : Value) (w : World) => run_typeAssert_lacksB (P := Tryd.prog) Tryd.underlying125 (z := .nilIface) (t := 113) (by kernel_rfl) (by kernel_rfl) v 35 w
  have nU := fun (v : Value) (w : World) => run_typeAssert_hasB (P := Tryd.prog) Tryd.underlying128 (t := 113) (by kernel_rfl) v 35 w
  have hlt := World.block_lt_of_cell? w t ht
  have hal := World.block_lt_of_cell? w a ha
  obtain ⟨w1, hw1⟩ : ∃ w1, w.alloc (.cells #[.pointer (some ⟨4, 89, none⟩), .pointer (some a), .int .u64 150] 104) = w1 := ⟨_, rfl⟩
  have hx1 : Ex (fun _ => False) w w1 := hw1 ▸ (Ex.refl _ w).alloc _
  have hs1 : w1.heap.size = w.heap.size + 1 := by rw [← hw1]; simp
  have ha1 := hx1.cell ha id
  have ht1 := hx1.cell ht id
  have hf1 : w1.frozen? t = false := (hx1.frozen hlt id).trans hf
  have he1 := hec.keep hx1 (fun _ _ => id)
  have b0 : w1.cell? ⟨w.heap.size, 0, none⟩ = some (.pointer (some ⟨4, 89, none⟩)) := by rw [← hw1, World.cell?_alloc_at _ _ _ _ rfl]; rfl
  have b1 : w1.cell? ⟨w.heap.size, 1, none⟩ = some (.pointer (some a)) := by rw [← hw1, World.cell?_alloc_at _ _ _ _ rfl]; rfl
  have b2 : w1.cell? ⟨w.heap.size, 2, none⟩ = some (.int .u64 150) := by rw [← hw1, World.cell?_alloc_at _ _ _ _ rfl]; rfl
  have eV := as_elemV a t w1 ha1
  have sV := as_setE t ⟨w1.heap.size, 0, none⟩ (k : Int) old (w1.alloc (.cells #[.int .i64 (k : Int)] 57)) (by rw [World.cell?_alloc_at _ _ _ _ rfl]; rfl) (((Ex.refl (fun _ => False) w1).alloc _).cell ht1 id) ((((Ex.refl (fun _ => False) w1).alloc _).frozen (by omega) id).trans hf1)
  have HX1 := Lib.hid hx1
  have HE1 := Lib.hid he1
  have HT1 := Lib.hid ht1
  have HL := Lib.hid hlt
  clear hx1 he1 ht1 hec ha ht hf ha1 hf1 hs1 hlt hal
  go_enter Tryd.func52, Tryd.ntmps52
  go_wp2_with fail
  clear hw1
  go_loopg [0] r.length (fun g v wr => w1 = wr ∧ ∃ r', Hid (r'.length = g) ∧ Hid (EC w1 P r' v k))
  case atStart => exact ⟨rfl, r, rfl, HE1⟩
  case round =>
    obtain ⟨rfl, r', hg, he⟩ := hrel
    cases r' with
    | nil =>
      have he' : _ = _ := he.out
      obtain rfl := he'
      clear he hg
      go_wp2
      go_ret
      refine ⟨rfl, (((HX1.out.mono (T := fun j => j = t.block) (fun _ _ h => h.elim)).alloc (.cells #[.int .i64 (k : Int)] 57)).setCell (p := t) (.inl rfl) (.int .i64 (k : Int))), ?_⟩
      apply World.cell?_setCell_same (u := old)
      exact ((Ex.refl (fun _ => False) w1).alloc _).cell HT1.out id
    | cons s r'' =>
      obtain ⟨e, v', h1, h2, h3, h4, h5⟩ := he.out
      obtain rfl := h1
      obtain ⟨ty, y, rfl⟩ := h5.shape
      have H5 := Lib.hid h5
      clear h5 h3 he
      go_wp2_with fail
      refine (unwrap_any e _ _ h4).mono ?_
      rintro e2 w2 ⟨rfl, rfl⟩
      go_wp2_with fail
      go_roundg r''.length
      case measure => have := hg.out; simp at this; omega
      case rel => exact ⟨rfl, r'', rfl, H5.out⟩

/-- what the row's condition on errors.errorType gives -/
def ET (w : World) : Prop := w.cell? ⟨0, 0, none⟩ = some (.iface 120 (.agg #[.pointer (some ⟨4, 35, none⟩)]))
theorem ET.keep {w w' : World} {S : Nat → Prop} (h : ET w) (hx : Ex S w w') (hs : ¬ S 0) : ET w' := hx.cell h hs

set_option maxRecDepth 100000 in
set_option maxHeartbeats 4000000 in
theorem as_any (P : Nat → Prop) (r : List (List UInt8)) (k : Nat) (v : Value) (t : Addr) (old : Value) (w : World) (hec : EC w P r v k) (hg : ET w) (ht : w.cell? t = some old) (hf : w.frozen? t = false) :
    Calls Tryd.prog 36 #[v, .iface 89 (.pointer (some t))] w
      fun e w' => e = .returned (.bool true) ∧ Ex (fun j => j = t.block) w w' ∧ w'.cell? t = some (.int .i64 (k : Int)) := by
  have x54 := @run_callFunc_extern Tryd.prog 49 _ (fun args => ReflectliteValue.unpack (args.getD 0 (.tuple #[]))) Tryd.func49 (by kernel_rfl) (by kernel_rfl) (by kernel_rfl) (by kernel_rfl)
  have x55 := @run_callFunc_extern Tryd.prog 50 _ (ReflectliteValue.methodAny (ReflectliteValue.valueError "reflectlite.Value.Type" 0) (fun t _ _ _ => ReflectliteType.toType t)) Tryd.func50 (by kernel_rfl) (by kernel_rfl) (by kernel_rfl) (by kernel_rfl)
  have x56 := @run_callFunc_extern Tryd.prog 51 _ (ReflectliteValue.method (ReflectliteValue.valueError "reflectlite.Value.IsNil" 0) ReflectliteValue.isNil) Tryd.func51 (by kernel_rfl) (by kernel_rfl) (by kernel_rfl) (by kernel_rfl)
  have x75 := @run_callFunc_extern Tryd.prog 80 _ (ReflectliteType.abiMethod fun t => do pure (.int .u8 (← Rtype.kind t))) Tryd.func80 (by kernel_rfl) (by kernel_rfl) (by kernel_rfl) (by kernel_rfl)
  have x101 := @run_callFunc_extern Tryd.prog 107 _ (ReflectliteType.method ReflectliteType.elem) Tryd.func107 (by kernel_rfl) (by kernel_rfl) (by kernel_rfl) (by kernel_rfl)
  have x102 := @run_callFunc_extern Tryd.prog 108 _ (ReflectliteType.relation "Implements" ReflectliteType.implements_) Tryd.func108 (by kernel_rfl) (by kernel_rfl) (by kernel_rfl) (by kernel_rfl)
  have f54 := as_valueOfP
  have f55 := as_typeP
  have mK := as_methodKind
  have mE := as_methodElem
  have mI := as_methodImplements
  have kP := as_kindP
  have kE := as_kindE
  have eP := as_elemP
  have iE := as_implementsE
  obtain ⟨W, hW⟩ : ∃ W, (w.alloc (.cells #[.pointer (some t)] 89)).alloc (.cells #[.pointer (some ⟨4, 89, none⟩), .pointer (some ⟨w.heap.size, 0, none⟩), .int .u64 150] 104) = W := ⟨_, rfl⟩
  have hx : Ex (fun _ => False) w W := hW ▸ ((Ex.refl _ w).alloc _).alloc _
  have hlt := World.block_lt_of_cell? w t ht
  have b0 : W.cell? ⟨w.heap.size + 1, 0, none⟩ = some (.pointer (some ⟨4, 89, none⟩)) := by rw [← hW, World.cell?_alloc_at _ _ _ _ (by simp)]; rfl
  have b1 : W.cell? ⟨w.heap.size + 1, 1, none⟩ = some (.pointer (some ⟨w.heap.size, 0, none⟩)) := by rw [← hW, World.cell?_alloc_at _ _ _ _ (by simp)]; rfl
  have b2 : W.cell? ⟨w.heap.size + 1, 2, none⟩ = some (.int .u64 150) := by rw [← hW, World.cell?_alloc_at _ _ _ _ (by simp)]; rfl
  have a0 : W.cell? ⟨w.heap.size, 0, none⟩ = some (.pointer (some t)) := by rw [← hW, World.cell?_alloc_lt _ _ _ (by simp), World.cell?_alloc_at _ _ _ _ rfl]; rfl
  have gW : W.cell? ⟨0, 0, none⟩ = some (.iface 120 (.agg #[.pointer (some ⟨4, 35, none⟩)])) := hx.cell hg id
  have n8 := as_isNilP ⟨w.heap.size, 0, none⟩ t W a0
  have HEC := Lib.hid (hec.keep hx (fun _ _ => id))
  have HT := Lib.hid (hx.cell ht id)
  have HF : Hid (W.frozen? t = false) := (hx.frozen hlt id).trans hf
  have HX := Lib.hid hx
  have HA := Lib.hid a0
  obtain ⟨ty, y, rfl⟩ := hec.shape
  clear hec ht hf hx hlt hg
  go_enter Tryd.func36, Tryd.ntmps36
  go_wp2_with fail
  refine (errorsas_any P r k _ ⟨w.heap.size, 0, none⟩ t old W HEC.out HA.out HT.out HF.out).mono ?_
  rintro e w' ⟨rfl, h1, h2⟩
  have H1 := Lib.hid h1
  have H2 := Lib.hid h2
  clear h1 h2
  go_wp2_with fail
  go_ret
  exact ⟨rfl, (HX.out.mono (fun _ _ h => h.elim)).trans H1.out, H2.out⟩

theorem code_nil (w : World) : Calls Tryd.prog 23 #[.nilIface] w fun e w' => e = .returned (.int .i64 0) ∧ w = w' := by
  go_enter Tryd.func23, Tryd.ntmps23
  go_wp2
  go_ret
  exact ⟨rfl, rfl⟩
/-- api.Code of an error of layers -/
theorem code_any (P : Nat → Prop) (r : List (List UInt8)) (k : Nat) (v : Value) (w : World) (hec : EC w P r v k) (hg : ET w) :
    Calls Tryd.prog 23 #[v] w fun e w' => e = .returned (.int .i64 (k : Int)) ∧ Ex (fun _ => False) w w' := by
  have HEC := Lib.hid (hec.keep ((Ex.refl (fun _ => False) w).alloc (.cells #[.int .i64 0] 57)) (fun _ _ => id))
  have HG := Lib.hid (hg.keep ((Ex.refl (fun _ => False) w).alloc (.cells #[.int .i64 0] 57)) id)
  obtain ⟨ty, y, rfl⟩ := hec.shape
  clear hec hg
  go_enter Tryd.func23, Tryd.ntmps23
  go_wp2_with fail
  refine (as_any P r k _ ⟨w.heap.size, 0, none⟩ (.int .i64 0) _ HEC.out HG.out (by rw [World.cell?_alloc_at _ _ _ _ rfl]; rfl) (by simp)).mono ?_
  rintro e w' ⟨rfl, h1, h2⟩
  have H1 := Lib.hid h1
  clear h1
  go_wp2_with fail
  go_ret
  exact ⟨rfl, ((Ex.refl (fun _ => False) w).alloc (.cells #[.int .i64 0] 57)).andThen H1.out (fun i hi h => by subst h; omega)⟩
end Go.Proofs.YtabjihchcmjdmaaDoor
/-
  told and shown of law 01. By an AI agent.
-/
namespace Go.Proofs.YtabjihchcmjdmaaDoor
open Go.RowKit

theorem EC.old {w : World} {P : Nat → Prop} : ∀ {r v k}, EC w P r v k → EC w (fun j => P j ∧ j < w.heap.size) r v k
  | [], _, _, h => h
  | _ :: _, _, _, ⟨e, v', h1, h2, h3, h4, h5⟩ => ⟨e, v', h1, ⟨h2, World.block_lt_of_cell? w _ h3⟩, h3, h4, EC.old h5⟩
theorem WR.zero (w : World) (t : TypeId) (g : Nat) (hg : g = w.heap.size) : WR (w.alloc (.cells #[.slice none 0 0] t)) g none [] := by
  subst hg
  exact ⟨.slice none 0 0, by rw [World.cell?_alloc_at _ _ _ _ rfl]; rfl, by simp, OB.nil _ _, rfl, by simp⟩

end Go.Proofs.YtabjihchcmjdmaaDoor
/-
  Small laws for the walks of law 01. By an AI agent.
-/
namespace Go.Proofs.YtabjihchcmjdmaaDoor
open Go.RowKit

theorem conv_later {w : World} {v : Value} {l : List UInt8} (h : RB w (fun _ => True) v l) : ∀ W, Ex (fun _ => False) w W → (convert 25 9 v).run Tryd.prog W = .ok (.string (bs l)) W :=
  fun _ hx => (h.keep hx (fun _ _ _ => id)).str 25 9 5 Tryd.underlying25 Tryd.underlying5 Tryd.underlying9

theorem wpAnyH_strong {Pr : Program} {md : Region.Mode} {ops : Array Oper} {Q : Exit → Act → World → Prop} {S S' : World → Prop} (hs : ∀ w, S' w → S w) :
    ∀ (fuel : Nat) (listed : Array Bool) (a : Act) (w : World), wpAnyH Pr md ops Q S' fuel listed a w → wpAnyH Pr md ops Q S fuel listed a w
  | 0, _, _, _, h => h
  | fuel + 1, _, _, _, h => ⟨h.1, fun i hi => wpOp_mono (fun a' w' h' => ⟨hs _ h'.1, wpAnyH_strong hs fuel _ a' w' h'.2⟩) (h.2 i hi)⟩


theorem RD.lt {w : World} {p g o : Nat} {l : List UInt8} (h : RD w p g o l) : p < w.heap.size := by
  obtain ⟨A, c, h, _⟩ := h
  exact World.block_lt_of_cell? w _ h
theorem RD.ltg {w : World} {p g o : Nat} {l : List UInt8} (h : RD w p g o l) (hl : 0 < l.length) : g < w.heap.size := by
  obtain ⟨A, c, _, _, _, _, _, _, _, h⟩ := h
  exact World.block_lt_of_cell? w _ (h 0 hl).2
theorem by8_nat (b : UInt8) : by8 (b.toNat : Int) = b := by8_u8 b
theorem txt4_nb (a b c d : UInt8) : txt ((nb [a, b, c, d] : Nat) : Int) 4 = [a, b, c, d] := by
  have ha := a.toNat_lt; have hb := b.toNat_lt; have hc := c.toNat_lt; have hd := d.toNat_lt
  have e : nb [a, b, c, d] = ((a.toNat * 256 + b.toNat) * 256 + c.toNat) * 256 + d.toNat := by simp [nb]
  rw [e]
  simp only [txt, List.nil_append, List.cons_append]
  have h : ∀ (x : Int) (y : UInt8), x % 256 = (y.toNat : Int) → by8 x = y := fun x y h => by rw [← by8_mod, h, by8_u8]
  rw [h _ a (by omega), h _ b (by omega), h _ c (by omega), h _ d (by omega)]
theorem txt2_nb (a b : UInt8) : txt ((nb [a, b] : Nat) : Int) 2 = [a, b] := by
  have ha := a.toNat_lt; have hb := b.toNat_lt
  have e : nb [a, b] = a.toNat * 256 + b.toNat := by simp [nb]
  rw [e]
  simp only [txt, List.nil_append, List.cons_append]
  have h : ∀ (x : Int) (y : UInt8), x % 256 = (y.toNat : Int) → by8 x = y := fun x y h => by rw [← by8_mod, h, by8_u8]
  rw [h _ a (by omega), h _ b (by omega)]
theorem txt1_nb (a : UInt8) : txt ((nb [a] : Nat) : Int) 1 = [a] := by
  have e : nb [a] = a.toNat := by simp [nb]
  rw [e]
  simp only [txt, List.nil_append]
  rw [by8_u8]
theorem writer_step {w w' : World} {pw B : Nat} {q : Option Nat} {l : List UInt8} (hq : ∀ k, q = some k → B ≤ k) (hB : B ≤ w.heap.size) (h : WPost w pw q l w') :
    ∃ q', WR w' pw q' l ∧ (∀ k, q' = some k → B ≤ k) ∧ Ex (fun j => j = pw ∨ B ≤ j) w w' := by
  obtain ⟨q', h1, h2, h3⟩ := h
  refine ⟨q', h1, ?_, h3.mono (fun k _ h => ?_)⟩
  · rcases h2 with rfl | ⟨k, rfl, hk⟩
    · exact hq
    · intro j hj; obtain rfl := Option.some.inj hj; omega
  · rcases h with h | h
    · exact .inl h
    · exact .inr (hq k h)

/-- append of bytes inside a region that draws its order -/
theorem step_append_ob {Pr : Program} {w : World} {ops : Array Oper} {o : Oper} {a : Act} {K : Act → World → Prop} {Q : Exit → Act → World → Prop} {E : Prop} (i : TypeInfo) (t : TypeId)
    (ht : Pr.underlying t = some (.slice 5)) (hi : Pr.info? 5 = some i) (hz : i.zero = some (.int .u8 0)) (hsize : i.size = 1) (hby : i.bytes = 1)
    (hgd : o.guard = none) (s x : Operand) (ho : o.op = .call { callee := .builtin .append, args := #[s, x], argTypes := #[t, t] })
    (B : Nat) (v : Value) (l : List UInt8) (hs : a.eval s = v) (P : Nat → Prop) (y : Value) (r : List UInt8) (hx : a.eval x = y)
    (hown : OB w B v l) (hr : RB w P y r) (hlen : l.length + r.length ≤ 140737488355328) (hbase : B ≤ w.heap.size)
    (h : ∀ A c w', OB w' B (.slice A (l.length + r.length) c) (l ++ r) → w.grownBy w' v.ownBlock → (A = none ↔ v = .slice none 0 0 ∧ r = []) → ((Value.slice A (l.length + r.length) c).ownBlock = v.ownBlock ∨ (Value.slice A (l.length + r.length) c).ownBlock = some w.heap.size) → K (a.put o.dst (.slice A (l.length + r.length) c)) w') :
    if Region.wanted o (yielded ops a.tmps) = true then Oper.wp Pr o a w K Q else E := by
  rw [if_pos (by simp [Region.wanted, hgd])]
  obtain ⟨_, A, c, rfl, _, hcell⟩ := hr
  obtain ⟨v', w', hr', h2, h3, h4, h5⟩ := run_append_row (Pr := Pr) w B t o.type 5 i (.int .u8 0) 1 1 ht hi hz hsize hby rfl (by decide) v l.length (l.map u8v) hown.2 A r.length c (r.map u8v) (by simp) (fun j u hu => by
    simp only [List.getElem?_map, Option.map_eq_some_iff] at hu
    obtain ⟨b, hb, rfl⟩ := hu
    obtain ⟨hj, rfl⟩ := List.getElem?_eq_some_iff.1 hb
    obtain ⟨b', off, rfl, _, hc⟩ := hcell j hj
    exact ⟨_, rfl, by rw [Addr.add_lit]; exact hc⟩) (fun u hu => u8v_one u r hu) (by simp only [maxLen]; omega) (by omega) hbase
  unfold Oper.wp execOp
  simp only [ho, resolve, invoke, builtin, Sem.run_bind, Sem.run_pure, Result.andThen_ok, List.map_toArray, List.map_cons, List.map_nil, hs, hx, hr']
  have hob : OB w' B v' (l ++ r) := ⟨by simpa using hlen, by simpa using h2⟩
  obtain ⟨A', c', rfl⟩ := hob.shape
  rw [List.length_append] at hob h4 h5 ⊢
  refine h A' c' w' hob h3 ?_ h5
  rw [← show (r.length = 0) = (r = []) from by simp, ← h4]
  constructor
  · rintro rfl
    rcases hob.2.2 with ⟨e, _⟩ | ⟨g, cap, cur, e, _⟩
    · exact e
    · cases e
  · intro e; injection e
theorem OB.plain {w : World} {B n c : Nat} {a : Addr} {l : List UInt8} (h : OB w B (.slice (Option.some a) n c) l) : ∃ g, a = ⟨g, 0, none⟩ ∧ B ≤ g ∧ g < w.heap.size := by
  rcases h.2.2 with ⟨e, _⟩ | ⟨g, cap, cur, e, hb, hg, _⟩
  · cases e
  · injection e with e1; obtain rfl := Option.some.inj e1
    exact ⟨g, rfl, hb, (Array.getElem?_eq_some_iff.1 hg).1⟩
theorem WR.lt {w : World} {p : Nat} {q : Option Nat} {l : List UInt8} (h : WR w p q l) : p < w.heap.size ∧ ∀ k, q = Option.some k → k < w.heap.size := by
  obtain ⟨v, h1, h2, h3, h4, h5⟩ := h
  exact ⟨World.block_lt_of_cell? w _ h1, fun k hk => (h3.lt k (h4.trans hk)).2⟩
end Go.Proofs.YtabjihchcmjdmaaDoor
/-
  octets.Read, with what may be written over; numbers of bytes. By an AI agent.
-/
namespace Go.Proofs.YtabjihchcmjdmaaDoor
open Go.RowKit

theorem RB.keepN2 {w w' : World} {P S : Nat → Prop} {v : Value} {l : List UInt8} (h : RB w P v l) (hx : Ex S w w') (hs : l ≠ [] → ∀ k, k < w.heap.size → P k → ¬ S k) : RB w' P v l := by
  by_cases hl : l = []
  · subst hl
    obtain ⟨h1, A, c, h2, h3, h4⟩ := h
    exact ⟨h1, A, c, h2, h3, fun i hi => by simp at hi⟩
  · exact h.keep hx (hs hl)
/-- what was taken may be written over -/
theorem RD.write {w : World} {p g o x : Nat} {l : List UInt8} (h : RD w p g o l) (hx : x < o) (u : Value) : RD (w.setCell ⟨g, x, none⟩ u) p g o l := by
  obtain ⟨A, c, h1, h2, h3, h4, h5, h6, h7, h8⟩ := h
  have hex : Ex (fun j => j = g) w (w.setCell ⟨g, x, none⟩ u) := (Ex.refl (fun j => j = g) w).setCell (p := ⟨g, x, none⟩) (.inl rfl) u
  refine ⟨A, c, hex.cell h1 (fun e => h5 e.symm), (hex.frozen (World.block_lt_of_cell? w _ h1) (fun e => h5 e.symm)).trans h2, h3, h4, h5, h6, h7, fun i hi => ⟨(h8 i hi).1, ?_⟩⟩
  rw [World.cell?_setCell_other]
  · exact (h8 i hi).2
  · intro e; injection e with _ e2; omega
theorem nb_snoc (l : List UInt8) (b : UInt8) : nb (l ++ [b]) = nb l * 256 + b.toNat := by simp [nb]
theorem txt_nb (l : List UInt8) : txt (nb l : Int) l.length = l := by
  induction hn : l.length generalizing l with
  | zero => rw [List.length_eq_zero_iff.1 hn]; rfl
  | succ n ih =>
    have hne : l ≠ [] := by intro e; subst e; simp at hn
    have hlen : l.dropLast.length = n := by simp [hn]
    obtain ⟨m, b, rfl⟩ : ∃ m b, l = m ++ [b] := ⟨l.dropLast, l.getLast hne, (List.dropLast_concat_getLast hne).symm⟩
    have hm : m.length = n := by simpa using hn
    rw [nb_snoc]
    have hb := b.toNat_lt
    show txt (((nb m * 256 + b.toNat : Nat) : Int) / 256) n ++ [by8 ((nb m * 256 + b.toNat : Nat) : Int)] = m ++ [b]
    rw [show ((nb m * 256 + b.toNat : Nat) : Int) / 256 = (nb m : Int) by omega, ih m hm]
    have h : ∀ (x : Int) (y : UInt8), x % 256 = (y.toNat : Int) → by8 x = y := fun x y h => by rw [← by8_mod, h, by8_u8]
    rw [h _ b (by omega)]
theorem txt_nb' (l : List UInt8) (n : Nat) (h : l.length = n) : txt (nb l : Int) n = l := by rw [← h]; exact txt_nb l
end Go.Proofs.YtabjihchcmjdmaaDoor
/-
  A block of cells that is known whole. By an AI agent.
-/
namespace Go.Proofs.YtabjihchcmjdmaaDoor
open Go.RowKit

theorem row_set {w : World} {g : Nat} {cs : Array Value} {t : TypeId} (h : w.heap[g]? = some (.cells cs t)) (k : Nat) (v : Value) : (w.setCell ⟨g, k, none⟩ v).heap[g]? = some (.cells (cs.setIfInBounds k v) t) := by
  rw [setCell_eq_setRow w g k cs t (0, 0) v h]
  exact setRow_heap w g cs _ t _ h
theorem row_cell {w : World} {g k : Nat} {cs : Array Value} {t : TypeId} {v : Value} (h : w.heap[g]? = some (.cells cs t)) (hk : cs[k]? = some v) : w.cell? ⟨g, k, none⟩ = some v := by
  simp [World.cell?, h, hk]
theorem row_frozen {w : World} {g : Nat} {cs : Array Value} {t : TypeId} (h : w.heap[g]? = some (.cells cs t)) (k : Nat) : w.frozen? ⟨g, k, none⟩ = false := by
  simp [World.frozen?, h]
theorem row_lt {w : World} {g : Nat} {o : Obj} (h : w.heap[g]? = some o) : g < w.heap.size := (Array.getElem?_eq_some_iff.1 h).1
end Go.Proofs.YtabjihchcmjdmaaDoor
/-
  The packets of IPv4: their bytes, and what bytes say. No program in sight. By an AI agent.
-/
namespace Go.Proofs.YtabjihchcmjdmaaDoor
open Go.RowKit

theorem nb_txt (k : Nat) : ∀ n : Int, 0 ≤ n → n < 256 ^ k → (nb (txt n k) : Int) = n := by
  induction k with
  | zero => intro n h0 h1; simp at h1; have : n = 0 := by omega
            subst this; rfl
  | succ k ih =>
    intro n h0 h1
    have h2 : n / 256 < 256 ^ k := by rw [Int.pow_succ] at h1; omega
    have h3 := ih (n / 256) (by omega) h2
    have h4 := by8_toNat n
    show (nb (txt (n / 256) k ++ [by8 n]) : Int) = n
    rw [nb_snoc, Int.natCast_add, Int.natCast_mul, h3, h4]
    clear h1 h2 h3 h4 ih
    omega
theorem nb_txt2 (n : Int) (h0 : 0 ≤ n) (h1 : n < 65536) : (nb [by8 (n / 256), by8 n] : Int) = n := nb_txt 2 n h0 (by simpa using h1)
theorem nb_txt4 (n : Int) (h0 : 0 ≤ n) (h1 : n < 4294967296) : (nb [by8 (n / 256 / 256 / 256), by8 (n / 256 / 256), by8 (n / 256), by8 n] : Int) = n := nb_txt 4 n h0 (by simpa using h1)
theorem nb2_le (a b : UInt8) : (nb [a, b] : Int) ≤ 65535 := by
  have := nb_lt [a, b]
  simp at this
  omega
theorem nb4_le (a b c d : UInt8) : (nb [a, b, c, d] : Int) ≤ 4294967295 := by
  have := nb_lt [a, b, c, d]
  simp at this
  omega
theorem twenty {l : List UInt8} (h : 20 ≤ l.length) : ∃ x0 x1 x2 x3 x4 x5 x6 x7 x8 x9 x10 x11 x12 x13 x14 x15 x16 x17 x18 x19 r, l = x0 :: x1 :: x2 :: x3 :: x4 :: x5 :: x6 :: x7 :: x8 :: x9 :: x10 :: x11 :: x12 :: x13 :: x14 :: x15 :: x16 :: x17 :: x18 :: x19 :: r := by
  obtain ⟨x0, l, rfl⟩ := List.exists_cons_of_length_pos (l := l) (by omega)
  obtain ⟨x1, l, rfl⟩ := List.exists_cons_of_length_pos (l := l) (by simp at h; omega)
  obtain ⟨x2, l, rfl⟩ := List.exists_cons_of_length_pos (l := l) (by simp at h; omega)
  obtain ⟨x3, l, rfl⟩ := List.exists_cons_of_length_pos (l := l) (by simp at h; omega)
  obtain ⟨x4, l, rfl⟩ := List.exists_cons_of_length_pos (l := l) (by simp at h; omega)
  obtain ⟨x5, l, rfl⟩ := List.exists_cons_of_length_pos (l := l) (by simp at h; omega)
  obtain ⟨x6, l, rfl⟩ := List.exists_cons_of_length_pos (l := l) (by simp at h; omega)
  obtain ⟨x7, l, rfl⟩ := List.exists_cons_of_length_pos (l := l) (by simp at h; omega)
  obtain ⟨x8, l, rfl⟩ := List.exists_cons_of_length_pos (l := l) (by simp at h; omega)
  obtain ⟨x9, l, rfl⟩ := List.exists_cons_of_length_pos (l := l) (by simp at h; omega)
  obtain ⟨x10, l, rfl⟩ := List.exists_cons_of_length_pos (l := l) (by simp at h; omega)
  obtain ⟨x11, l, rfl⟩ := List.exists_cons_of_length_pos (l := l) (by simp at h; omega)
  obtain ⟨x12, l, rfl⟩ := List.exists_cons_of_length_pos (l := l) (by simp at h; omega)
  obtain ⟨x13, l, rfl⟩ := List.exists_cons_of_length_pos (l := l) (by simp at h; omega)
  obtain ⟨x14, l, rfl⟩ := List.exists_cons_of_length_pos (l := l) (by simp at h; omega)
  obtain ⟨x15, l, rfl⟩ := List.exists_cons_of_length_pos (l := l) (by simp at h; omega)
  obtain ⟨x16, l, rfl⟩ := List.exists_cons_of_length_pos (l := l) (by simp at h; omega)
  obtain ⟨x17, l, rfl⟩ := List.exists_cons_of_length_pos (l := l) (by simp at h; omega)
  obtain ⟨x18, l, rfl⟩ := List.exists_cons_of_length_pos (l := l) (by simp at h; omega)
  obtain ⟨x19, l, rfl⟩ := List.exists_cons_of_length_pos (l := l) (by simp at h; omega)
  exact ⟨x0, x1, x2, x3, x4, x5, x6, x7, x8, x9, x10, x11, x12, x13, x14, x15, x16, x17, x18, x19, l, rfl⟩

def lay5 : List UInt8 := [105, 112, 118, 52]
/-- a packet's parts -/
structure Pk where
  tos : Int
  id : Int
  df : Bool
  mf : Bool
  off : Int
  ttl : Int
  pr : Int
  src : Int
  dst : Int
  b : List UInt8
/-- the ranges of a packet's numbers -/
def Pk.ok (p : Pk) : Prop := (0 ≤ p.tos ∧ p.tos ≤ 255) ∧ (0 ≤ p.id ∧ p.id ≤ 65535) ∧ (-9223372036854775808 ≤ p.off ∧ p.off ≤ 9223372036854775807) ∧ (0 ≤ p.ttl ∧ p.ttl ≤ 255) ∧ (0 ≤ p.pr ∧ p.pr ≤ 255) ∧ (0 ≤ p.src ∧ p.src ≤ 4294967295) ∧ (0 ≤ p.dst ∧ p.dst ≤ 4294967295)
/-- what is wrong with a packet; 0: nothing -/
def Pk.right (p : Pk) : Nat :=
  if p.off < 0 ∨ p.off % 8 ≠ 0 ∨ (p.mf = true ∧ (p.b.length = 0 ∨ p.b.length % 8 ≠ 0)) then 1 else if 65535 < p.off ∨ 65535 < 20 + p.off + (p.b.length : Int) then 7 else 0
def Pk.bits (p : Pk) : Int := p.off / 8 + (if p.df = true then 16384 else 0) + (if p.mf = true then 8192 else 0)
/-- the numbers of a head -/
structure Hd where
  vi : Int
  tos : Int
  size : Int
  id : Int
  bits : Int
  ttl : Int
  pr : Int
  sum : Int
  src : Int
  dst : Int
def Hd.bytes (h : Hd) : List UInt8 :=
  [by8 h.vi, by8 h.tos, by8 (h.size / 256), by8 h.size, by8 (h.id / 256), by8 h.id, by8 (h.bits / 256), by8 h.bits, by8 h.ttl, by8 h.pr, by8 (h.sum / 256), by8 h.sum,
   by8 (h.src / 256 / 256 / 256), by8 (h.src / 256 / 256), by8 (h.src / 256), by8 h.src, by8 (h.dst / 256 / 256 / 256), by8 (h.dst / 256 / 256), by8 (h.dst / 256), by8 h.dst]
def Hd.ok (h : Hd) : Prop := (0 ≤ h.vi ∧ h.vi ≤ 255) ∧ (0 ≤ h.tos ∧ h.tos ≤ 255) ∧ (0 ≤ h.size ∧ h.size ≤ 65535) ∧ (0 ≤ h.id ∧ h.id ≤ 65535) ∧ (0 ≤ h.bits ∧ h.bits ≤ 65535) ∧ (0 ≤ h.ttl ∧ h.ttl ≤ 255) ∧ (0 ≤ h.pr ∧ h.pr ≤ 255) ∧ (0 ≤ h.sum ∧ h.sum ≤ 65535) ∧ (0 ≤ h.src ∧ h.src ≤ 4294967295) ∧ (0 ≤ h.dst ∧ h.dst ≤ 4294967295)
/-- the numbers of the first twenty bytes -/
def Hd.of (l : List UInt8) : Hd :=
  ⟨((l.getD 0 0).toNat : Int), ((l.getD 1 0).toNat : Int), (nb [l.getD 2 0, l.getD 3 0] : Int), (nb [l.getD 4 0, l.getD 5 0] : Int), (nb [l.getD 6 0, l.getD 7 0] : Int), ((l.getD 8 0).toNat : Int), ((l.getD 9 0).toNat : Int), (nb [l.getD 10 0, l.getD 11 0] : Int),
   (nb [l.getD 12 0, l.getD 13 0, l.getD 14 0, l.getD 15 0] : Int), (nb [l.getD 16 0, l.getD 17 0, l.getD 18 0, l.getD 19 0] : Int)⟩
theorem Hd.of_ok (l : List UInt8) : (Hd.of l).ok := by
  have h0 := (l.getD 0 0).toNat_lt
  have h1 := (l.getD 1 0).toNat_lt
  have h8 := (l.getD 8 0).toNat_lt
  have h9 := (l.getD 9 0).toNat_lt
  refine ⟨?_, ?_, ?_, ?_, ?_, ?_, ?_, ?_, ?_, ?_⟩ <;> simp only [Hd.of]
  · omega
  · omega
  · exact ⟨by omega, nb2_le _ _⟩
  · exact ⟨by omega, nb2_le _ _⟩
  · exact ⟨by omega, nb2_le _ _⟩
  · omega
  · omega
  · exact ⟨by omega, nb2_le _ _⟩
  · exact ⟨by omega, nb4_le _ _ _ _⟩
  · exact ⟨by omega, nb4_le _ _ _ _⟩
theorem Hd.bytes_len (h : Hd) : h.bytes.length = 20 := rfl
theorem Hd.of_bytes {h : Hd} (ok : h.ok) (r : List UInt8) : Hd.of (h.bytes ++ r) = h := by
  obtain ⟨vi, tos, size, id, bits, ttl, pr, sum, src, dst⟩ := h
  obtain ⟨h0, h1, h2, h3, h4, h5, h6, h7, h8, h9⟩ := ok
  simp only at h0 h1 h2 h3 h4 h5 h6 h7 h8 h9
  have e0 := by8_toNat vi
  have e1 := by8_toNat tos
  have e2 := nb_txt2 size (by omega) (by omega)
  have e3 := nb_txt2 id (by omega) (by omega)
  have e4 := nb_txt2 bits (by omega) (by omega)
  have e5 := by8_toNat ttl
  have e6 := by8_toNat pr
  have e7 := nb_txt2 sum (by omega) (by omega)
  have e8 := nb_txt4 src (by omega) (by omega)
  have e9 := nb_txt4 dst (by omega) (by omega)
  show Hd.mk ((by8 vi).toNat : Int) ((by8 tos).toNat : Int) (nb [by8 (size / 256), by8 size] : Int) (nb [by8 (id / 256), by8 id] : Int) (nb [by8 (bits / 256), by8 bits] : Int) ((by8 ttl).toNat : Int) ((by8 pr).toNat : Int) (nb [by8 (sum / 256), by8 sum] : Int)
    (nb [by8 (src / 256 / 256 / 256), by8 (src / 256 / 256), by8 (src / 256), by8 src] : Int) (nb [by8 (dst / 256 / 256 / 256), by8 (dst / 256 / 256), by8 (dst / 256), by8 dst] : Int) = _
  rw [e0, e1, e2, e3, e4, e5, e6, e7, e8, e9, Int.emod_eq_of_lt (by omega) (by omega), Int.emod_eq_of_lt (by omega) (by omega), Int.emod_eq_of_lt (by omega) (by omega), Int.emod_eq_of_lt (by omega) (by omega)]
theorem Hd.bytes_of {l : List UInt8} (h : 20 ≤ l.length) : (Hd.of l).bytes = l.take 20 := by
  obtain ⟨x0, x1, x2, x3, x4, x5, x6, x7, x8, x9, x10, x11, x12, x13, x14, x15, x16, x17, x18, x19, r, rfl⟩ := twenty h
  have a : ∀ a b : UInt8, by8 ((nb [a, b] : Nat) / 256 : Int) = a ∧ by8 ((nb [a, b] : Nat) : Int) = b := fun a b => by
    have := txt2_nb a b
    simp only [txt, List.nil_append, List.cons_append, List.cons.injEq] at this
    exact ⟨this.1, this.2.1⟩
  have b : ∀ a b c d : UInt8, by8 ((nb [a, b, c, d] : Nat) / 256 / 256 / 256 : Int) = a ∧ by8 ((nb [a, b, c, d] : Nat) / 256 / 256 : Int) = b ∧ by8 ((nb [a, b, c, d] : Nat) / 256 : Int) = c ∧ by8 ((nb [a, b, c, d] : Nat) : Int) = d := fun a b c d => by
    have := txt4_nb a b c d
    simp only [txt, List.nil_append, List.cons_append, List.cons.injEq] at this
    exact ⟨this.1, this.2.1, this.2.2.1, this.2.2.2.1⟩
  show [by8 (x0.toNat : Int), by8 (x1.toNat : Int), by8 ((nb [x2, x3] : Nat) / 256 : Int), by8 ((nb [x2, x3] : Nat) : Int), by8 ((nb [x4, x5] : Nat) / 256 : Int), by8 ((nb [x4, x5] : Nat) : Int), by8 ((nb [x6, x7] : Nat) / 256 : Int), by8 ((nb [x6, x7] : Nat) : Int), by8 (x8.toNat : Int), by8 (x9.toNat : Int), by8 ((nb [x10, x11] : Nat) / 256 : Int), by8 ((nb [x10, x11] : Nat) : Int),
    by8 ((nb [x12, x13, x14, x15] : Nat) / 256 / 256 / 256 : Int), by8 ((nb [x12, x13, x14, x15] : Nat) / 256 / 256 : Int), by8 ((nb [x12, x13, x14, x15] : Nat) / 256 : Int), by8 ((nb [x12, x13, x14, x15] : Nat) : Int),
    by8 ((nb [x16, x17, x18, x19] : Nat) / 256 / 256 / 256 : Int), by8 ((nb [x16, x17, x18, x19] : Nat) / 256 / 256 : Int), by8 ((nb [x16, x17, x18, x19] : Nat) / 256 : Int), by8 ((nb [x16, x17, x18, x19] : Nat) : Int)] = [x0, x1, x2, x3, x4, x5, x6, x7, x8, x9, x10, x11, x12, x13, x14, x15, x16, x17, x18, x19]
  rw [by8_nat, by8_nat, by8_nat, by8_nat, (a x2 x3).1, (a x2 x3).2, (a x4 x5).1, (a x4 x5).2, (a x6 x7).1, (a x6 x7).2, (a x10 x11).1, (a x10 x11).2, (b x12 x13 x14 x15).1, (b x12 x13 x14 x15).2.1, (b x12 x13 x14 x15).2.2.1, (b x12 x13 x14 x15).2.2.2, (b x16 x17 x18 x19).1, (b x16 x17 x18 x19).2.1, (b x16 x17 x18 x19).2.2.1, (b x16 x17 x18 x19).2.2.2]

/-- what is wrong with a head of this sum, of so many bytes; 0: nothing -/
def Hd.chk (h : Hd) (s all : Nat) : Nat :=
  if h.vi / 16 ≠ 4 then 12 else if h.vi % 16 < 5 then 3 else if 5 < h.vi % 16 then 11 else if h.size < 20 then 3 else if (all : Int) < h.size then 2 else if s ≠ 0 then 4 else if 32768 ≤ h.bits then 3 else 0
def Hd.pk (h : Hd) (b : List UInt8) : Pk := ⟨h.tos, h.id, decide (h.bits / 16384 % 2 = 1), decide (h.bits / 8192 % 2 = 1), h.bits % 8192 * 8, h.ttl, h.pr, h.src, h.dst, b⟩
/-- the packet of bytes -/
def ppk (l : List UInt8) : Pk := (Hd.of l).pk ((l.take (Hd.of l).size.toNat).drop 20)
/-- what is wrong with bytes -/
def perr (l : List UInt8) : Option (List (List UInt8) × Nat) :=
  if l.length < 20 then some ([lay5, lay1], 2)
  else if (Hd.of l).chk (su (l.take 20)) l.length ≠ 0 then some ([lay5], (Hd.of l).chk (su (l.take 20)) l.length)
  else if (ppk l).right ≠ 0 then some ([lay5], 3) else none
/-- a packet's head with a sum -/
def Pk.hd (p : Pk) (s : Int) : Hd := ⟨69, p.tos, 20 + (p.b.length : Int), p.id, p.bits, p.ttl, p.pr, s, p.src, p.dst⟩
def Pk.sum (p : Pk) : Nat := su (p.hd 0).bytes
/-- a packet's bytes -/
def pb (p : Pk) : List UInt8 := (p.hd (p.sum : Int)).bytes ++ p.b
theorem pb_len (p : Pk) : (pb p).length = 20 + p.b.length := by simp [pb, Hd.bytes_len]

/-! ### laws -/
theorem Pk.right_zero {p : Pk} (h : p.right = 0) : 0 ≤ p.off ∧ p.off % 8 = 0 ∧ (p.mf = true → p.b.length ≠ 0 ∧ p.b.length % 8 = 0) ∧ p.off ≤ 65535 ∧ 20 + p.off + (p.b.length : Int) ≤ 65535 := by
  unfold Pk.right at h
  split at h
  · omega
  · split at h
    · omega
    · rename_i h1 h2
      rw [not_or, not_or] at h1
      rw [not_or] at h2
      refine ⟨by omega, by omega, fun hm => ?_, by omega, by omega⟩
      have := h1.2.2
      rw [not_and, not_or] at this
      have := this hm
      omega
theorem Pk.right_of {p : Pk} (h1 : 0 ≤ p.off) (h2 : p.off % 8 = 0) (h3 : p.mf = true → p.b.length ≠ 0 ∧ p.b.length % 8 = 0) (h5 : 20 + p.off + (p.b.length : Int) ≤ 65535) : p.right = 0 := by
  unfold Pk.right
  rw [if_neg, if_neg]
  · omega
  · intro h
    rcases h with h | h | ⟨h, k⟩
    · omega
    · omega
    · have := h3 h; omega
theorem Pk.bits_bd {p : Pk} (h : p.right = 0) : 0 ≤ p.bits ∧ p.bits ≤ 32767 := by
  obtain ⟨h1, h2, _, h4, _⟩ := Pk.right_zero h
  unfold Pk.bits
  split <;> split <;> omega
theorem Pk.hd_ok {p : Pk} (ok : p.ok) (h : p.right = 0) (s : Int) (hs : 0 ≤ s ∧ s ≤ 65535) : (p.hd s).ok := by
  obtain ⟨k0, k1, k2, k3, k4, k5, k6⟩ := ok
  have hb := Pk.bits_bd h
  obtain ⟨h1, h2, _, h4, h5⟩ := Pk.right_zero h
  refine ⟨?_, k0, ?_, k1, ?_, k3, k4, hs, k5, k6⟩
  · show (0 : Int) ≤ 69 ∧ (69 : Int) ≤ 255; omega
  · show (0 : Int) ≤ 20 + (p.b.length : Int) ∧ 20 + (p.b.length : Int) ≤ 65535; omega
  · show 0 ≤ p.bits ∧ p.bits ≤ 65535; omega
/-- a head's number in a sum -/
def Hd.tot (h : Hd) : Nat := ac true h.bytes
theorem hsum_add (h : Hd) (hs : 0 ≤ h.sum ∧ h.sum ≤ 65535) : ac true h.bytes = ac true { h with sum := 0 }.bytes + h.sum.toNat := by
  obtain ⟨vi, tos, size, id, bits, ttl, pr, sum, src, dst⟩ := h
  simp only at hs
  have e1 := by8_toNat (sum / 256)
  have e2 := by8_toNat sum
  have z1 : (by8 (0 / 256)).toNat = 0 := by decide
  have z2 : (by8 0).toNat = 0 := by decide
  have key : ∀ (A C : List UInt8) (x y : UInt8), A.length % 2 = 0 → ac true (A ++ ([x, y] ++ C)) = ac true A + (x.toNat * 256 + y.toNat) + ac true C := by
    intro A C x y hA
    rw [ac_append, hi_even _ _ hA, ac_append]
    simp only [ac, hi_cons, hi_nil, Bool.not_true, Bool.not_false, if_true, Bool.false_eq_true, if_false]
    omega
  have k1 := key [by8 vi, by8 tos, by8 (size / 256), by8 size, by8 (id / 256), by8 id, by8 (bits / 256), by8 bits, by8 ttl, by8 pr] [by8 (src / 256 / 256 / 256), by8 (src / 256 / 256), by8 (src / 256), by8 src, by8 (dst / 256 / 256 / 256), by8 (dst / 256 / 256), by8 (dst / 256), by8 dst] (by8 (sum / 256)) (by8 sum) (by simp)
  have k2 := key [by8 vi, by8 tos, by8 (size / 256), by8 size, by8 (id / 256), by8 id, by8 (bits / 256), by8 bits, by8 ttl, by8 pr] [by8 (src / 256 / 256 / 256), by8 (src / 256 / 256), by8 (src / 256), by8 src, by8 (dst / 256 / 256 / 256), by8 (dst / 256 / 256), by8 (dst / 256), by8 dst] (by8 (0 / 256)) (by8 0) (by simp)
  refine k1.trans (Eq.trans ?_ (congrArg (· + sum.toNat) k2.symm))
  rw [z1, z2]
  generalize ac true [by8 vi, by8 tos, by8 (size / 256), by8 size, by8 (id / 256), by8 id, by8 (bits / 256), by8 bits, by8 ttl, by8 pr] = X
  generalize ac true [by8 (src / 256 / 256 / 256), by8 (src / 256 / 256), by8 (src / 256), by8 src, by8 (dst / 256 / 256 / 256), by8 (dst / 256 / 256), by8 (dst / 256), by8 dst] = Y
  show X + ((by8 (sum / 256)).toNat * 256 + (by8 sum).toNat) + Y = X + (0 * 256 + 0) + Y + sum.toNat
  omega
theorem su_zero (l : List UInt8) : su l = 0 ↔ 0 < ac true l ∧ ac true l % 65535 = 0 := by
  unfold su
  have := fo_full (ac true l)
  have := fo_le (ac true l)
  constructor
  · intro h; exact (fo_full _).1 (by omega)
  · intro h; rw [(fo_full _).2 h]
theorem Pk.hd_pos (p : Pk) (s : Int) : 0 < ac true (p.hd s).bytes := by
  show 0 < (by8 69).toNat * 256 + _
  have : (by8 69).toNat = 69 := by decide
  rw [this]; omega
theorem Pk.sum_le (p : Pk) : p.sum ≤ 65534 := by
  have h1 := Pk.hd_pos p 0
  have h2 := fo_zero (ac true (p.hd 0).bytes)
  unfold Pk.sum su
  omega
theorem Pk.sum_ok (p : Pk) : su (p.hd (p.sum : Int)).bytes = 0 := by
  have h1 := Pk.hd_pos p 0
  have h2 := Pk.sum_le p
  have h3 := fo_rest (ac true (p.hd 0).bytes)
  have h4 := fo_le (ac true (p.hd 0).bytes)
  have h5 := hsum_add (p.hd (p.sum : Int)) ⟨by show (0 : Int) ≤ (p.sum : Int); omega, by show (p.sum : Int) ≤ 65535; omega⟩
  have e : ({ p.hd (p.sum : Int) with sum := 0 } : Hd) = p.hd 0 := rfl
  rw [e] at h5
  have e2 : (p.hd (p.sum : Int)).sum.toNat = p.sum := by show ((p.sum : Int)).toNat = _; omega
  rw [e2] at h5
  have e3 : p.sum = 65535 - fo (ac true (p.hd 0).bytes) := rfl
  rw [su_zero, h5]
  omega
theorem take20 (h : Hd) (r : List UInt8) : (h.bytes ++ r).take 20 = h.bytes := by
  rw [List.take_append_of_le_length (by rw [Hd.bytes_len]; omega), List.take_of_length_le (by rw [Hd.bytes_len]; omega)]
theorem Pk.pk_hd {p : Pk} (h : p.right = 0) (s : Int) : (p.hd s).pk p.b = p := by
  obtain ⟨tos, id, df, mf, off, ttl, pr, src, dst, b⟩ := p
  obtain ⟨h1, h2, _, h4, _⟩ := Pk.right_zero h
  simp only at h1 h2 h4
  have e1 : decide ((off / 8 + (if df = true then 16384 else 0) + (if mf = true then 8192 else 0)) / 16384 % 2 = 1) = df := by
    cases df <;> cases mf <;> simp <;> omega
  have e2 : decide ((off / 8 + (if df = true then 16384 else 0) + (if mf = true then 8192 else 0)) / 8192 % 2 = 1) = mf := by
    cases df <;> cases mf <;> simp <;> omega
  have e3 : (off / 8 + (if df = true then 16384 else 0) + (if mf = true then 8192 else 0)) % 8192 * 8 = off := by
    cases df <;> cases mf <;> simp <;> omega
  show Pk.mk tos id (decide ((off / 8 + (if df = true then 16384 else 0) + (if mf = true then 8192 else 0)) / 16384 % 2 = 1)) (decide ((off / 8 + (if df = true then 16384 else 0) + (if mf = true then 8192 else 0)) / 8192 % 2 = 1)) ((off / 8 + (if df = true then 16384 else 0) + (if mf = true then 8192 else 0)) % 8192 * 8) ttl pr src dst b = _
  rw [e1, e2, e3]
/-- what is written is read, whatever stands behind -/
theorem pb_back {p : Pk} (ok : p.ok) (h : p.right = 0) (m : List UInt8) : perr (pb p ++ m) = none ∧ ppk (pb p ++ m) = p := by
  have hs := Pk.sum_le p
  have hb := Pk.bits_bd h
  obtain ⟨h1, h2, _, h4, h5⟩ := Pk.right_zero h
  have e0 : Hd.of (pb p ++ m) = p.hd (p.sum : Int) := by
    unfold pb
    rw [List.append_assoc]
    exact Hd.of_bytes (Pk.hd_ok ok h _ ⟨by omega, by omega⟩) _
  have e1 : ((pb p ++ m).take (p.hd (p.sum : Int)).size.toNat).drop 20 = p.b := by
    have : (p.hd (p.sum : Int)).size.toNat = 20 + p.b.length := by show (20 + (p.b.length : Int)).toNat = _; omega
    rw [this, List.take_append_of_le_length (by rw [pb_len]; omega), List.take_of_length_le (by rw [pb_len]; omega)]
    exact List.drop_left' (Hd.bytes_len _)
  have e2 : ppk (pb p ++ m) = p := by
    unfold ppk
    rw [e0, e1]
    exact Pk.pk_hd h _
  refine ⟨?_, e2⟩
  have e3 : (pb p ++ m).take 20 = (p.hd (p.sum : Int)).bytes := by
    unfold pb
    rw [List.append_assoc]
    exact take20 _ _
  unfold perr
  rw [if_neg (by rw [List.length_append, pb_len]; omega), e2, h, e0, e3, Pk.sum_ok]
  have e4 : (p.hd (p.sum : Int)).chk 0 (pb p ++ m).length = 0 := by
    have hl : (pb p ++ m).length = 20 + p.b.length + m.length := by rw [List.length_append, pb_len]
    rw [hl]
    unfold Hd.chk
    show (if (69 : Int) / 16 ≠ 4 then 12 else if (69 : Int) % 16 < 5 then 3 else if (5 : Int) < 69 % 16 then 11 else if 20 + (p.b.length : Int) < 20 then 3 else if ((20 + p.b.length + m.length : Nat) : Int) < 20 + (p.b.length : Int) then 2 else if (0 : Nat) ≠ 0 then 4 else if 32768 ≤ p.bits then 3 else 0) = 0
    rw [if_neg (by decide), if_neg (by decide), if_neg (by decide), if_neg (by omega), if_neg (by omega), if_neg (by decide), if_neg (by omega)]
  rw [e4]
  rfl
theorem pb_inj {p q : Pk} (okp : p.ok) (okq : q.ok) (hp : p.right = 0) (hq : q.right = 0) (h : pb p = pb q) : p = q := by
  have h1 := (pb_back okp hp []).2
  have h2 := (pb_back okq hq []).2
  rw [h, h2] at h1
  exact h1.symm
theorem Hd.chk_zero {h : Hd} {s all : Nat} (e : h.chk s all = 0) : h.vi / 16 = 4 ∧ h.vi % 16 = 5 ∧ 20 ≤ h.size ∧ h.size ≤ (all : Int) ∧ s = 0 ∧ h.bits < 32768 := by
  unfold Hd.chk at e
  repeat' split at e
  all_goals omega
/-- what is read -/
theorem ppk_good {l : List UInt8} (h : perr l = none) : 20 ≤ l.length ∧ (ppk l).ok ∧ (ppk l).right = 0 ∧ su (l.take 20) = 0 ∧ (ppk l).hd (Hd.of l).sum = Hd.of l ∧ 20 + (ppk l).b.length ≤ l.length ∧ l.take (20 + (ppk l).b.length) = l.take 20 ++ (ppk l).b := by
  unfold perr at h
  split at h
  · cases h
  split at h
  · cases h
  split at h
  · cases h
  rename_i h1 h2 h3
  have h2 : (Hd.of l).chk (su (l.take 20)) l.length = 0 := by omega
  have h3 : (ppk l).right = 0 := by omega
  obtain ⟨k1, k2, k3, k4, k5, k6⟩ := Hd.chk_zero h2
  have hok := Hd.of_ok l
  obtain ⟨o0, o1, o2, o3, o4, o5, o6, o7, o8, o9⟩ := hok
  have hb : (ppk l).b = (l.take (Hd.of l).size.toNat).drop 20 := rfl
  have hbl : ((ppk l).b.length : Int) = (Hd.of l).size - 20 := by
    rw [hb, List.length_drop, List.length_take]; omega
  refine ⟨by omega, ?_, h3, k5, ?_, by omega, ?_⟩
  · refine ⟨o1, o3, ?_, o5, o6, o8, o9⟩
    show -9223372036854775808 ≤ (Hd.of l).bits % 8192 * 8 ∧ (Hd.of l).bits % 8192 * 8 ≤ 9223372036854775807
    omega
  · have hsz : 20 + ((ppk l).b.length : Int) = (Hd.of l).size := by omega
    have hbits : (ppk l).bits = (Hd.of l).bits := by
      show (Hd.of l).bits % 8192 * 8 / 8 + (if decide ((Hd.of l).bits / 16384 % 2 = 1) = true then 16384 else 0) + (if decide ((Hd.of l).bits / 8192 % 2 = 1) = true then 8192 else 0) = (Hd.of l).bits
      simp only [decide_eq_true_eq]
      split <;> split <;> omega
    have hvi : (Hd.of l).vi = 69 := by omega
    have e : ∀ H : Hd, H.vi = 69 → ∀ p : Pk, p.tos = H.tos → p.id = H.id → p.ttl = H.ttl → p.pr = H.pr → p.src = H.src → p.dst = H.dst → 20 + (p.b.length : Int) = H.size → p.bits = H.bits → p.hd H.sum = H := by
      intro H a0 p a1 a2 a3 a4 a5 a6 a7 a8
      obtain ⟨vi, tos, size, id, bits, ttl, pr, sum, src, dst⟩ := H
      simp only at a0 a1 a2 a3 a4 a5 a6 a7 a8
      unfold Pk.hd
      rw [a0, a1, a2, a3, a4, a5, a6, a7, a8]
    exact e _ hvi _ rfl rfl rfl rfl rfl rfl hsz hbits
  · have : 20 + (ppk l).b.length = (Hd.of l).size.toNat := by omega
    rw [this, hb]
    conv => lhs; rw [← List.take_append_drop 20 (l.take (Hd.of l).size.toNat)]
    rw [List.take_take, show min 20 (Hd.of l).size.toNat = 20 by omega]
end Go.Proofs.YtabjihchcmjdmaaDoor
/-
  Errors of layer 05: wrong, and the law's told. By an AI agent.
-/
namespace Go.Proofs.YtabjihchcmjdmaaDoor
open Go.RowKit

theorem wrong5_any (P : Nat → Prop) (r : List (List UInt8)) (k : Nat) (v : Value) (w : World) (h : EC w P r v k) :
    Calls Tryd.prog 33 #[v] w fun e w' => ∃ v', e = .returned v' ∧ EC w' (fun j => P j ∨ j = w.heap.size) (lay5 :: r) v' k ∧ Ex (fun _ => False) w w' := by
  have hb : (⟨#[105, 112, 118, 52]⟩ : ByteArray) = bs lay5 := rfl
  have H := Lib.hid h
  obtain ⟨ty, y, rfl⟩ := h.shape
  clear h
  go_enter Tryd.func33, Tryd.ntmps33
  go_wp2_with fail
  refine (wrap_any lay5 _ _ _).mono ?_
  rintro e w' ⟨rfl, rfl⟩
  go_wp2_with fail
  go_ret
  exact ⟨_, rfl, EC.wrap H.out (.inr rfl) (fun _ h => .inl h) _, (Ex.refl _ w).alloc _⟩
theorem wrong5_no (k : Nat) (w : World) :
    Calls Tryd.prog 33 #[.iface 57 (.int .i64 (k : Int))] w fun e w' => ∃ v', e = .returned v' ∧ EC w' (fun j => w.heap.size ≤ j) [lay5] v' k ∧ Ex (fun _ => False) w w' := by
  refine (wrong5_any (fun _ => False) [] k _ w rfl).mono ?_
  rintro e w' ⟨v, rfl, he, hx⟩
  exact ⟨v, rfl, EC.mono (fun j hj => by rcases hj with h | h; exact h.elim; omega) he, hx⟩
end Go.Proofs.YtabjihchcmjdmaaDoor
/-
  The contract of ipv4.Right. By an AI agent.
-/
namespace Go.Proofs.YtabjihchcmjdmaaDoor
open Go.RowKit

/-- a packet as a value -/
def pkv (p : Pk) (u : Value) : Value := .agg #[.int .u8 p.tos, .int .u16 p.id, .bool p.df, .bool p.mf, .int .i64 p.off, .int .u8 p.ttl, .int .u8 p.pr, .int .u32 p.src, .int .u32 p.dst, u]
set_option maxRecDepth 100000 in
theorem right_1 (tos id : Int) (df mf : Bool) (off ttl pr src dst : Int) (b : List UInt8) (A : Option Addr) (c : Nat) (w : World) (_hn : b.length ≤ 140737488355328) (h : off < 0) :
    Calls Tryd.prog 21 #[.agg #[.int .u8 tos, .int .u16 id, .bool df, .bool mf, .int .i64 off, .int .u8 ttl, .int .u8 pr, .int .u32 src, .int .u32 dst, .slice A b.length c]] w fun e w' => Ex (fun _ => False) w w' ∧ ∃ v, e = .returned v ∧ EC w' (fun j => w.heap.size ≤ j) [lay5] v 1 := by
  go_enter Tryd.func21, Tryd.ntmps21
  have hx0 : Ex (fun _ => False) w (w.alloc (.cells #[.int .u8 tos, .int .u16 id, .bool df, .bool mf, .int .i64 off, .int .u8 ttl, .int .u8 pr, .int .u32 src, .int .u32 dst, .slice A b.length c] 27)) := (Ex.refl _ w).alloc _
  have hs := hx0.size
  have HX0 := Lib.hid hx0
  clear hx0
  go_wp2_with fail
  refine (wrong5_no 1 _).mono ?_
  rintro e w' ⟨v, rfl, he, hx⟩
  have HE := Lib.hid he
  have HX := Lib.hid hx
  clear he hx
  go_wp2_with fail
  go_ret
  exact ⟨HX0.out.trans HX.out, v, rfl, EC.mono (fun j hj => by omega) HE.out⟩
set_option maxRecDepth 100000 in
theorem right_2 (tos id : Int) (df mf : Bool) (off ttl pr src dst : Int) (b : List UInt8) (A : Option Addr) (c : Nat) (w : World) (_hn : b.length ≤ 140737488355328) (h : 0 ≤ off) (h8 : off % 8 ≠ 0) :
    Calls Tryd.prog 21 #[.agg #[.int .u8 tos, .int .u16 id, .bool df, .bool mf, .int .i64 off, .int .u8 ttl, .int .u8 pr, .int .u32 src, .int .u32 dst, .slice A b.length c]] w fun e w' => Ex (fun _ => False) w w' ∧ ∃ v, e = .returned v ∧ EC w' (fun j => w.heap.size ≤ j) [lay5] v 1 := by
  have e1 : (off % 8 != 0) = true := by rw [bne_iff_ne]; exact h8
  clear h8
  go_enter Tryd.func21, Tryd.ntmps21
  have hx0 : Ex (fun _ => False) w (w.alloc (.cells #[.int .u8 tos, .int .u16 id, .bool df, .bool mf, .int .i64 off, .int .u8 ttl, .int .u8 pr, .int .u32 src, .int .u32 dst, .slice A b.length c] 27)) := (Ex.refl _ w).alloc _
  have hs := hx0.size
  have HX0 := Lib.hid hx0
  clear hx0
  go_wp2_with fail
  refine (wrong5_no 1 _).mono ?_
  rintro e w' ⟨v, rfl, he, hx⟩
  have HE := Lib.hid he
  have HX := Lib.hid hx
  clear he hx
  go_wp2_with fail
  go_ret
  exact ⟨HX0.out.trans HX.out, v, rfl, EC.mono (fun j hj => by omega) HE.out⟩
set_option maxRecDepth 100000 in
theorem right_3 (tos id : Int) (df : Bool) (off ttl pr src dst : Int) (b : List UInt8) (A : Option Addr) (c : Nat) (w : World) (_hn : b.length ≤ 140737488355328) (h : 0 ≤ off) (h8 : off % 8 = 0) (hb : b.length = 0) :
    Calls Tryd.prog 21 #[.agg #[.int .u8 tos, .int .u16 id, .bool df, .bool true, .int .i64 off, .int .u8 ttl, .int .u8 pr, .int .u32 src, .int .u32 dst, .slice A b.length c]] w fun e w' => Ex (fun _ => False) w w' ∧ ∃ v, e = .returned v ∧ EC w' (fun j => w.heap.size ≤ j) [lay5] v 1 := by
  have e1 : (off % 8 != 0) = false := by simp; omega
  have e2 : ((b.length : Int) == 0) = true := by simp; exact List.length_eq_zero_iff.1 hb
  clear h8 hb
  go_enter Tryd.func21, Tryd.ntmps21
  have hx0 : Ex (fun _ => False) w (w.alloc (.cells #[.int .u8 tos, .int .u16 id, .bool df, .bool true, .int .i64 off, .int .u8 ttl, .int .u8 pr, .int .u32 src, .int .u32 dst, .slice A b.length c] 27)) := (Ex.refl _ w).alloc _
  have hs := hx0.size
  have HX0 := Lib.hid hx0
  clear hx0
  go_wp2_with fail
  refine (wrong5_no 1 _).mono ?_
  rintro e w' ⟨v, rfl, he, hx⟩
  have HE := Lib.hid he
  have HX := Lib.hid hx
  clear he hx
  go_wp2_with fail
  go_ret
  exact ⟨HX0.out.trans HX.out, v, rfl, EC.mono (fun j hj => by omega) HE.out⟩
set_option maxRecDepth 100000 in
theorem right_4 (tos id : Int) (df : Bool) (off ttl pr src dst : Int) (b : List UInt8) (A : Option Addr) (c : Nat) (w : World) (hn : b.length ≤ 140737488355328) (h : 0 ≤ off) (h8 : off % 8 = 0) (hb : b.length % 8 ≠ 0) :
    Calls Tryd.prog 21 #[.agg #[.int .u8 tos, .int .u16 id, .bool df, .bool true, .int .i64 off, .int .u8 ttl, .int .u8 pr, .int .u32 src, .int .u32 dst, .slice A b.length c]] w fun e w' => Ex (fun _ => False) w w' ∧ ∃ v, e = .returned v ∧ EC w' (fun j => w.heap.size ≤ j) [lay5] v 1 := by
  have e1 : (off % 8 != 0) = false := by simp; omega
  have e2 : ((b.length : Int) == 0) = false := by rw [beq_eq_false_iff_ne]; omega
  have e3 : ((b.length : Int) % 8 != 0) = true := by rw [bne_iff_ne]; omega
  clear h8 hb
  go_enter Tryd.func21, Tryd.ntmps21
  have hx0 : Ex (fun _ => False) w (w.alloc (.cells #[.int .u8 tos, .int .u16 id, .bool df, .bool true, .int .i64 off, .int .u8 ttl, .int .u8 pr, .int .u32 src, .int .u32 dst, .slice A b.length c] 27)) := (Ex.refl _ w).alloc _
  have hs := hx0.size
  have HX0 := Lib.hid hx0
  clear hx0
  go_wp2_with fail
  refine (wrong5_no 1 _).mono ?_
  rintro e w' ⟨v, rfl, he, hx⟩
  have HE := Lib.hid he
  have HX := Lib.hid hx
  clear he hx
  go_wp2_with fail
  go_ret
  exact ⟨HX0.out.trans HX.out, v, rfl, EC.mono (fun j hj => by omega) HE.out⟩
set_option maxRecDepth 100000 in
theorem right_5f (tos id : Int) (df : Bool) (off ttl pr src dst : Int) (b : List UInt8) (A : Option Addr) (c : Nat) (w : World) (_hn : b.length ≤ 140737488355328) (h : 0 ≤ off) (h8 : off % 8 = 0) (hf : 65535 < off) :
    Calls Tryd.prog 21 #[.agg #[.int .u8 tos, .int .u16 id, .bool df, .bool false, .int .i64 off, .int .u8 ttl, .int .u8 pr, .int .u32 src, .int .u32 dst, .slice A b.length c]] w fun e w' => Ex (fun _ => False) w w' ∧ ∃ v, e = .returned v ∧ EC w' (fun j => w.heap.size ≤ j) [lay5] v 7 := by
  have e1 : (off % 8 != 0) = false := by simp; omega
  clear h8
  go_enter Tryd.func21, Tryd.ntmps21
  have hx0 : Ex (fun _ => False) w (w.alloc (.cells #[.int .u8 tos, .int .u16 id, .bool df, .bool false, .int .i64 off, .int .u8 ttl, .int .u8 pr, .int .u32 src, .int .u32 dst, .slice A b.length c] 27)) := (Ex.refl _ w).alloc _
  have hs := hx0.size
  have HX0 := Lib.hid hx0
  clear hx0
  go_wp2_with fail
  refine (wrong5_no 7 _).mono ?_
  rintro e w' ⟨v, rfl, he, hx⟩
  have HE := Lib.hid he
  have HX := Lib.hid hx
  clear he hx
  go_wp2_with fail
  go_ret
  exact ⟨HX0.out.trans HX.out, v, rfl, EC.mono (fun j hj => by omega) HE.out⟩
set_option maxRecDepth 100000 in
theorem right_6f (tos id : Int) (df : Bool) (off ttl pr src dst : Int) (b : List UInt8) (A : Option Addr) (c : Nat) (w : World) (hn : b.length ≤ 140737488355328) (h : 0 ≤ off) (h8 : off % 8 = 0) (hf : off ≤ 65535) (hg : 65535 < 20 + off + (b.length : Int)) :
    Calls Tryd.prog 21 #[.agg #[.int .u8 tos, .int .u16 id, .bool df, .bool false, .int .i64 off, .int .u8 ttl, .int .u8 pr, .int .u32 src, .int .u32 dst, .slice A b.length c]] w fun e w' => Ex (fun _ => False) w w' ∧ ∃ v, e = .returned v ∧ EC w' (fun j => w.heap.size ≤ j) [lay5] v 7 := by
  have e1 : (off % 8 != 0) = false := by simp; omega
  clear h8
  go_enter Tryd.func21, Tryd.ntmps21
  have hx0 : Ex (fun _ => False) w (w.alloc (.cells #[.int .u8 tos, .int .u16 id, .bool df, .bool false, .int .i64 off, .int .u8 ttl, .int .u8 pr, .int .u32 src, .int .u32 dst, .slice A b.length c] 27)) := (Ex.refl _ w).alloc _
  have hs := hx0.size
  have HX0 := Lib.hid hx0
  clear hx0
  go_wp2_with fail
  refine (wrong5_no 7 _).mono ?_
  rintro e w' ⟨v, rfl, he, hx⟩
  have HE := Lib.hid he
  have HX := Lib.hid hx
  clear he hx
  go_wp2_with fail
  go_ret
  exact ⟨HX0.out.trans HX.out, v, rfl, EC.mono (fun j hj => by omega) HE.out⟩
set_option maxRecDepth 100000 in
theorem right_7f (tos id : Int) (df : Bool) (off ttl pr src dst : Int) (b : List UInt8) (A : Option Addr) (c : Nat) (w : World) (hn : b.length ≤ 140737488355328) (h : 0 ≤ off) (h8 : off % 8 = 0) (hf : off ≤ 65535) (hg : 20 + off + (b.length : Int) ≤ 65535) :
    Calls Tryd.prog 21 #[.agg #[.int .u8 tos, .int .u16 id, .bool df, .bool false, .int .i64 off, .int .u8 ttl, .int .u8 pr, .int .u32 src, .int .u32 dst, .slice A b.length c]] w fun e w' => Ex (fun _ => False) w w' ∧ e = .returned .nilIface := by
  have e1 : (off % 8 != 0) = false := by simp; omega
  clear h8
  go_enter Tryd.func21, Tryd.ntmps21
  go_wp2_with fail
  go_ret
  exact ⟨(Ex.refl _ w).alloc _, rfl⟩
set_option maxRecDepth 100000 in
theorem right_5t (tos id : Int) (df : Bool) (off ttl pr src dst : Int) (b : List UInt8) (A : Option Addr) (c : Nat) (w : World) (hn : b.length ≤ 140737488355328) (h : 0 ≤ off) (h8 : off % 8 = 0) (hb : b.length ≠ 0 ∧ b.length % 8 = 0) (hf : 65535 < off) :
    Calls Tryd.prog 21 #[.agg #[.int .u8 tos, .int .u16 id, .bool df, .bool true, .int .i64 off, .int .u8 ttl, .int .u8 pr, .int .u32 src, .int .u32 dst, .slice A b.length c]] w fun e w' => Ex (fun _ => False) w w' ∧ ∃ v, e = .returned v ∧ EC w' (fun j => w.heap.size ≤ j) [lay5] v 7 := by
  have e1 : (off % 8 != 0) = false := by simp; omega
  have e2 : ((b.length : Int) == 0) = false := by rw [beq_eq_false_iff_ne]; omega
  have e3 : ((b.length : Int) % 8 != 0) = false := by rw [Bool.eq_false_iff]; rw [Ne, bne_iff_ne]; omega
  clear h8 hb
  go_enter Tryd.func21, Tryd.ntmps21
  have hx0 : Ex (fun _ => False) w (w.alloc (.cells #[.int .u8 tos, .int .u16 id, .bool df, .bool true, .int .i64 off, .int .u8 ttl, .int .u8 pr, .int .u32 src, .int .u32 dst, .slice A b.length c] 27)) := (Ex.refl _ w).alloc _
  have hs := hx0.size
  have HX0 := Lib.hid hx0
  clear hx0
  go_wp2_with fail
  refine (wrong5_no 7 _).mono ?_
  rintro e w' ⟨v, rfl, he, hx⟩
  have HE := Lib.hid he
  have HX := Lib.hid hx
  clear he hx
  go_wp2_with fail
  go_ret
  exact ⟨HX0.out.trans HX.out, v, rfl, EC.mono (fun j hj => by omega) HE.out⟩
set_option maxRecDepth 100000 in
theorem right_6t (tos id : Int) (df : Bool) (off ttl pr src dst : Int) (b : List UInt8) (A : Option Addr) (c : Nat) (w : World) (hn : b.length ≤ 140737488355328) (h : 0 ≤ off) (h8 : off % 8 = 0) (hb : b.length ≠ 0 ∧ b.length % 8 = 0) (hf : off ≤ 65535) (hg : 65535 < 20 + off + (b.length : Int)) :
    Calls Tryd.prog 21 #[.agg #[.int .u8 tos, .int .u16 id, .bool df, .bool true, .int .i64 off, .int .u8 ttl, .int .u8 pr, .int .u32 src, .int .u32 dst, .slice A b.length c]] w fun e w' => Ex (fun _ => False) w w' ∧ ∃ v, e = .returned v ∧ EC w' (fun j => w.heap.size ≤ j) [lay5] v 7 := by
  have e1 : (off % 8 != 0) = false := by simp; omega
  have e2 : ((b.length : Int) == 0) = false := by rw [beq_eq_false_iff_ne]; omega
  have e3 : ((b.length : Int) % 8 != 0) = false := by rw [Bool.eq_false_iff]; rw [Ne, bne_iff_ne]; omega
  clear h8 hb
  go_enter Tryd.func21, Tryd.ntmps21
  have hx0 : Ex (fun _ => False) w (w.alloc (.cells #[.int .u8 tos, .int .u16 id, .bool df, .bool true, .int .i64 off, .int .u8 ttl, .int .u8 pr, .int .u32 src, .int .u32 dst, .slice A b.length c] 27)) := (Ex.refl _ w).alloc _
  have hs := hx0.size
  have HX0 := Lib.hid hx0
  clear hx0
  go_wp2_with fail
  refine (wrong5_no 7 _).mono ?_
  rintro e w' ⟨v, rfl, he, hx⟩
  have HE := Lib.hid he
  have HX := Lib.hid hx
  clear he hx
  go_wp2_with fail
  go_ret
  exact ⟨HX0.out.trans HX.out, v, rfl, EC.mono (fun j hj => by omega) HE.out⟩
set_option maxRecDepth 100000 in
theorem right_7t (tos id : Int) (df : Bool) (off ttl pr src dst : Int) (b : List UInt8) (A : Option Addr) (c : Nat) (w : World) (hn : b.length ≤ 140737488355328) (h : 0 ≤ off) (h8 : off % 8 = 0) (hb : b.length ≠ 0 ∧ b.length % 8 = 0) (hf : off ≤ 65535) (hg : 20 + off + (b.length : Int) ≤ 65535) :
    Calls Tryd.prog 21 #[.agg #[.int .u8 tos, .int .u16 id, .bool df, .bool true, .int .i64 off, .int .u8 ttl, .int .u8 pr, .int .u32 src, .int .u32 dst, .slice A b.length c]] w fun e w' => Ex (fun _ => False) w w' ∧ e = .returned .nilIface := by
  have e1 : (off % 8 != 0) = false := by simp; omega
  have e2 : ((b.length : Int) == 0) = false := by rw [beq_eq_false_iff_ne]; omega
  have e3 : ((b.length : Int) % 8 != 0) = false := by rw [Bool.eq_false_iff]; rw [Ne, bne_iff_ne]; omega
  clear h8 hb
  go_enter Tryd.func21, Tryd.ntmps21
  go_wp2_with fail
  go_ret
  exact ⟨(Ex.refl _ w).alloc _, rfl⟩
theorem right_any (p : Pk) (A : Option Addr) (c : Nat) (w : World) (hn : p.b.length ≤ 140737488355328) :
    Calls Tryd.prog 21 #[pkv p (.slice A p.b.length c)] w fun e w' => Ex (fun _ => False) w w' ∧ ((p.right = 0 ∧ e = .returned .nilIface) ∨ (p.right ≠ 0 ∧ ∃ v, e = .returned v ∧ EC w' (fun j => w.heap.size ≤ j) [lay5] v p.right)) := by
  obtain ⟨tos, id, df, mf, off, ttl, pr, src, dst, b⟩ := p
  simp only at hn
  have bad : ∀ k, (⟨tos, id, df, mf, off, ttl, pr, src, dst, b⟩ : Pk).right = k → k ≠ 0 → ∀ (e : Ending) (w' : World), (Ex (fun _ => False) w w' ∧ ∃ v, e = .returned v ∧ EC w' (fun j => w.heap.size ≤ j) [lay5] v k) →
      Ex (fun _ => False) w w' ∧ (((⟨tos, id, df, mf, off, ttl, pr, src, dst, b⟩ : Pk).right = 0 ∧ e = .returned .nilIface) ∨ ((⟨tos, id, df, mf, off, ttl, pr, src, dst, b⟩ : Pk).right ≠ 0 ∧ ∃ v, e = .returned v ∧ EC w' (fun j => w.heap.size ≤ j) [lay5] v (⟨tos, id, df, mf, off, ttl, pr, src, dst, b⟩ : Pk).right)) := by
    rintro k rfl hk e w' ⟨hx, h⟩
    exact ⟨hx, .inr ⟨hk, h⟩⟩
  by_cases h0 : off < 0
  · exact (right_1 tos id df mf off ttl pr src dst b A c w hn h0).mono (bad 1 (by unfold Pk.right; rw [if_pos (.inl h0)]) (by decide))
  by_cases h8 : off % 8 = 0
  case neg => exact (right_2 tos id df mf off ttl pr src dst b A c w hn (by omega) h8).mono (bad 1 (by unfold Pk.right; rw [if_pos (.inr (.inl h8))]) (by decide))
  have h0' : 0 ≤ off := by omega
  cases mf with
  | true =>
    by_cases hb : b.length = 0
    · exact (right_3 tos id df off ttl pr src dst b A c w hn h0' h8 hb).mono (bad 1 (by unfold Pk.right; rw [if_pos (.inr (.inr ⟨rfl, .inl hb⟩))]) (by decide))
    by_cases hb8 : b.length % 8 = 0
    case neg => exact (right_4 tos id df off ttl pr src dst b A c w hn h0' h8 hb8).mono (bad 1 (by unfold Pk.right; rw [if_pos (.inr (.inr ⟨rfl, .inr hb8⟩))]) (by decide))
    have hneg : ¬ (off < 0 ∨ off % 8 ≠ 0 ∨ (true = true ∧ (b.length = 0 ∨ b.length % 8 ≠ 0))) := by omega
    by_cases hf : 65535 < off
    · exact (right_5t tos id df off ttl pr src dst b A c w hn h0' h8 ⟨hb, hb8⟩ hf).mono (bad 7 (by unfold Pk.right; rw [if_neg hneg, if_pos (.inl hf)]) (by decide))
    by_cases hg : 65535 < 20 + off + (b.length : Int)
    · exact (right_6t tos id df off ttl pr src dst b A c w hn h0' h8 ⟨hb, hb8⟩ (by omega) hg).mono (bad 7 (by unfold Pk.right; rw [if_neg hneg, if_pos (.inr hg)]) (by decide))
    refine (right_7t tos id df off ttl pr src dst b A c w hn h0' h8 ⟨hb, hb8⟩ (by omega) (by omega)).mono ?_
    rintro e w' ⟨hx, rfl⟩
    exact ⟨hx, .inl ⟨by unfold Pk.right; rw [if_neg hneg, if_neg (by simp only; omega)], rfl⟩⟩
  | false =>
    have hneg : ¬ (off < 0 ∨ off % 8 ≠ 0 ∨ (false = true ∧ (b.length = 0 ∨ b.length % 8 ≠ 0))) := by simp; omega
    by_cases hf : 65535 < off
    · exact (right_5f tos id df off ttl pr src dst b A c w hn h0' h8 hf).mono (bad 7 (by unfold Pk.right; rw [if_neg hneg, if_pos (.inl hf)]) (by decide))
    by_cases hg : 65535 < 20 + off + (b.length : Int)
    · exact (right_6f tos id df off ttl pr src dst b A c w hn h0' h8 (by omega) hg).mono (bad 7 (by unfold Pk.right; rw [if_neg hneg, if_pos (.inr hg)]) (by decide))
    refine (right_7f tos id df off ttl pr src dst b A c w hn h0' h8 (by omega) (by omega)).mono ?_
    rintro e w' ⟨hx, rfl⟩
    exact ⟨hx, .inl ⟨by unfold Pk.right; rw [if_neg hneg, if_neg (by simp only; omega)], rfl⟩⟩
end Go.Proofs.YtabjihchcmjdmaaDoor
/-
  Errors of layer 10: wrong, and the law's told. By an AI agent.
-/
namespace Go.Proofs.YtabjihchcmjdmaaDoor
open Go.RowKit

def lay10 : List UInt8 := [102, 114, 97, 103]
theorem wrong10_any (P : Nat → Prop) (r : List (List UInt8)) (k : Nat) (v : Value) (w : World) (h : EC w P r v k) :
    Calls Tryd.prog 24 #[v] w fun e w' => ∃ v', e = .returned v' ∧ EC w' (fun j => P j ∨ j = w.heap.size) (lay10 :: r) v' k ∧ Ex (fun _ => False) w w' := by
  have hb : (⟨#[102, 114, 97, 103]⟩ : ByteArray) = bs lay10 := rfl
  have H := Lib.hid h
  obtain ⟨ty, y, rfl⟩ := h.shape
  clear h
  go_enter Tryd.func24, Tryd.ntmps24
  go_wp2_with fail
  refine (wrap_any lay10 _ _ _).mono ?_
  rintro e w' ⟨rfl, rfl⟩
  go_wp2_with fail
  go_ret
  exact ⟨_, rfl, EC.wrap H.out (.inr rfl) (fun _ h => .inl h) _, (Ex.refl _ w).alloc _⟩
theorem wrong10_no (k : Nat) (w : World) :
    Calls Tryd.prog 24 #[.iface 57 (.int .i64 (k : Int))] w fun e w' => ∃ v', e = .returned v' ∧ EC w' (fun j => w.heap.size ≤ j) [lay10] v' k ∧ Ex (fun _ => False) w w' := by
  refine (wrong10_any (fun _ => False) [] k _ w rfl).mono ?_
  rintro e w' ⟨v, rfl, he, hx⟩
  exact ⟨v, rfl, EC.mono (fun j hj => by rcases hj with h | h; exact h.elim; omega) he, hx⟩
theorem told10_nil (w : World) : Calls Tryd.prog 17 #[.nilIface] w fun e w' => e = .returned (.string ⟨#[]⟩) ∧ w = w' := by
  go_enter Tryd.func17, Tryd.ntmps17
  go_wp2
  go_ret
  exact ⟨rfl, rfl⟩
theorem told10_any (P : Nat → Prop) (r : List (List UInt8)) (k : Nat) (v : Value) (w : World) (hec : EC w P r v k) (hk : k ≤ 13) (hl : (etx r k).length ≤ 1000) :
    Calls Tryd.prog 17 #[v] w fun e w' => e = .returned (.string (bs (etx r k))) ∧ Ex (fun _ => False) w w' := by
  obtain ⟨ty, y, f, rfl, g1, g2, g3⟩ := etext k hk r v w hec hl
  have G3 := Lib.hid g3
  clear g3 hec
  go_enter Tryd.func17, Tryd.ntmps17
  go_wp2_with fail
  refine (G3.out w (Ex.refl _ w)).mono ?_
  rintro e w' ⟨rfl, hx⟩
  have HX := Lib.hid hx
  clear hx
  go_wp2_with fail
  go_ret
  exact ⟨rfl, HX.out⟩
end Go.Proofs.YtabjihchcmjdmaaDoor
/-
  Two results, the first of which is a struct in a cell. By an AI agent.
-/
namespace Go.Proofs.YtabjihchcmjdmaaDoor
open Go.RowKit

theorem results_cell_row2 {P : Program} {fn : Func} {p u : Tmp} {ty : TypeId} (h : fn.results = #[.cell p ty, .tmp u]) (tmps : Array Value) (w : World) (g : Nat) (t : TypeId) (cs : Array Value) (fr : Nat × Nat) (d : TypeDesc) (v : Value)
    (hp : tmps.getD p undef = .pointer (some ⟨g, 0, none⟩)) (hv : tmps.getD u undef = v) (hg : w.heap[g]? = some (.cells cs t fr))
    (hu : P.underlying ty = some d) (hd : (match d with | .struct _ | .array _ _ => true | _ => false) = true) (hi : (P.info? ty).map (·.size) = some cs.size) :
    (results fn tmps).run P w = .ok (.tuple #[.agg cs, v]) w := by
  rw [results_cell_tmp h, hp, hv]
  simp [asAddr, run_loadVar_row w g t ty cs fr d hg hu hd hi, Result.andThen]
theorem EC.keepB {w w' : World} {b B : Nat} {r : List (List UInt8)} {v : Value} {k : Nat} (hx : Ex (fun j => j = b) w w') (h : b < B) (he : EC w (fun j => B ≤ j) r v k) : EC w' (fun j => B ≤ j) r v k :=
  EC.keep hx (fun j hj e => by have hj : B ≤ j := hj; have e : j = b := e; omega) he
theorem OB.keepB {w w' : World} {b B : Nat} {v : Value} {l : List UInt8} (h : OB w B v l) (hx : Ex (fun j => j = b) w w') (hb : b < B) : OB w' B v l :=
  h.keep hx (fun k _ _ hl e => by have e : k = b := e; omega)
theorem EC.up {w : World} {B B' : Nat} {r : List (List UInt8)} {v : Value} {k : Nat} (he : EC w (fun j => B ≤ j) r v k) (h : B' ≤ B) : EC w (fun j => B' ≤ j) r v k :=
  EC.mono (fun j hj => by have hj : B ≤ j := hj; omega) he
theorem EC.upO {w : World} {B C B' : Nat} {r : List (List UInt8)} {v : Value} {k : Nat} (he : EC w (fun j => j = B ∨ j = C) r v k) (h : B' ≤ B) (h' : B' ≤ C) : EC w (fun j => B' ≤ j) r v k :=
  EC.mono (fun j hj => by rcases hj with hj | hj <;> omega) he
end Go.Proofs.YtabjihchcmjdmaaDoor
