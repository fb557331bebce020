/-
  Words on bytes in memory for this seat's proofs: a slice that reads as a list of bytes, a world of which some blocks may have changed. By an AI agent.
-/
import Derived.WalkKit
import Derived.Laws.BitsLemmas
import Derived.Lib.Hide
import Derived.WalkLawsBesides
import Derived.WalkSpells
import Derived.Deep.AppendSrc
import Derived.Deep.AppendLies
import Derived.Laws.MakeOwn
import Derived.Laws.OwnMore
import Derived.Lib.ConvBytes
import Derived.Laws.IdiomStrings
import Derived.Laws.BytesArg
namespace Go.Proofs.YtkgieciamophkaaDoor
open Go.RowKit

/-- a byte as a value -/
def u8v (b : UInt8) : Value := .int .u8 (b.toNat : Int)

/-- The slice v reads as the bytes l, in blocks of which P holds. -/
def RB (w : World) (P : Nat → Prop) (v : Value) (l : List UInt8) : Prop :=
  l.length ≤ 9223372036854775807 ∧ ∃ A c, v = .slice A l.length c ∧ l.length ≤ c ∧
    ∀ i (h : i < l.length), ∃ b off, A = some ⟨b, off, none⟩ ∧ P b ∧ w.cell? ⟨b, off + i, none⟩ = some (.int .u8 (l[i].toNat : Int))

/-- The slice v reads as slices, each of which reads as bytes. -/
def RB2 (w : World) (P : Nat → Prop) (v : Value) (ls : List (List UInt8)) : Prop :=
  ls.length ≤ 9223372036854775807 ∧ ∃ A c, v = .slice A ls.length c ∧ ls.length ≤ c ∧
    ∀ i (h : i < ls.length), ∃ b off vi, A = some ⟨b, off, none⟩ ∧ P b ∧ w.cell? ⟨b, off + i, none⟩ = some vi ∧ RB w P vi ls[i]

/-- The slice v reads as these numbers of sixteen bits. -/
def RW (w : World) (P : Nat → Prop) (v : Value) (l : List UInt16) : Prop :=
  l.length ≤ 9223372036854775807 ∧ ∃ A c, v = .slice A l.length c ∧ l.length ≤ c ∧
    ∀ i (h : i < l.length), ∃ b off, A = some ⟨b, off, none⟩ ∧ P b ∧ w.cell? ⟨b, off + i, none⟩ = some (.int .u16 (l[i].toNat : Int))
/-- w' is w but for blocks of S, and new ones. -/
structure Ex (S : Nat → Prop) (w w' : World) : Prop where
  os : w'.os = w.os
  tape : w'.tape = w.tape
  output : w'.output = w.output
  size : w.heap.size ≤ w'.heap.size
  block : ∀ k, k < w.heap.size → ¬ S k → w'.heap[k]? = w.heap[k]?

theorem Ex.refl (S : Nat → Prop) (w : World) : Ex S w w := ⟨rfl, rfl, rfl, Nat.le_refl _, fun _ _ _ => rfl⟩
theorem Ex.trans {S : Nat → Prop} {a b c : World} (h : Ex S a b) (k : Ex S b c) : Ex S a c :=
  ⟨k.os.trans h.os, k.tape.trans h.tape, k.output.trans h.output, Nat.le_trans h.size k.size, fun i hi hs => (k.block i (Nat.lt_of_lt_of_le hi h.size) hs).trans (h.block i hi hs)⟩
theorem Ex.mono {S T : Nat → Prop} {w w' : World} (h : Ex S w w') (hs : ∀ k, k < w.heap.size → S k → T k) : Ex T w w' :=
  ⟨h.os, h.tape, h.output, h.size, fun i hi ht => h.block i hi (fun hk => ht (hs i hi hk))⟩
theorem Ex.drew {S : Nat → Prop} {a w : World} (h : Ex S a w) : Ex S a w.drew := ⟨h.os, h.tape, h.output, h.size, h.block⟩
theorem Ex.drewN {S : Nat → Prop} {a w : World} (h : Ex S a w) (n : Nat) : Ex S a (w.drewN n) := ⟨h.os, h.tape, h.output, h.size, h.block⟩
theorem Ex.alloc {S : Nat → Prop} {a w : World} (h : Ex S a w) (o : Obj) : Ex S a (w.alloc o) :=
  h.trans ⟨rfl, rfl, rfl, by simp, fun k hk _ => Below.heap_alloc _ _ _ hk⟩
theorem Ex.setCell {S : Nat → Prop} {a w : World} (h : Ex S a w) {p : Addr} (hp : S p.block ∨ a.heap.size ≤ p.block) (u : Value) : Ex S a (w.setCell p u) :=
  ⟨h.os, h.tape, h.output, by simpa [World.setCell] using h.size, fun k hk hs => by
    rw [Below.heap_setCell _ _ _ _ (fun e => by subst e; rcases hp with hp | hp; exact hs hp; omega)]; exact h.block k hk hs⟩
theorem Ex.grown {S : Nat → Prop} {a w w' : World} {row : Option Nat} (h : Ex S a w) (hg : w.grownBy w' row) (hr : ∀ k, row = some k → S k ∨ a.heap.size ≤ k) : Ex S a w' :=
  ⟨hg.os.trans h.os, hg.tape.trans h.tape, hg.output.trans h.output, Nat.le_trans h.size hg.size, fun k hk hs =>
    (hg.block k (Nat.lt_of_lt_of_le hk h.size) (fun e => by rcases hr k e.symm with q | q; exact hs q; omega)).trans (h.block k hk hs)⟩
/-- a second stretch that begins later: it may have changed what is new since -/
theorem Ex.andThen {S T : Nat → Prop} {a b c : World} (h : Ex S a b) (k : Ex T b c) (ht : ∀ i, i < a.heap.size → T i → S i) : Ex S a c :=
  ⟨k.os.trans h.os, k.tape.trans h.tape, k.output.trans h.output, Nat.le_trans h.size k.size, fun i hi hs => (k.block i (Nat.lt_of_lt_of_le hi h.size) (fun e => hs (ht i hi e))).trans (h.block i hi hs)⟩
theorem Ex.below {S : Nat → Prop} {w w' : World} (h : Ex S w w') (B : Nat) (hB : B ≤ w.heap.size) (hs : ∀ k, k < B → ¬ S k) : Below B w w' :=
  ⟨h.os, h.tape, h.output, h.size, fun k hk => h.block k (by omega) (hs k hk)⟩
theorem Ex.ofBelow {w w' : World} {B : Nat} (h : Below B w w') : Ex (fun k => B ≤ k) w w' := ⟨h.os, h.tape, h.output, h.size, fun k _ hk => h.block k (by omega)⟩
theorem Ex.cell {S : Nat → Prop} {w w' : World} (h : Ex S w w') {p : Addr} {v : Value} (hc : w.cell? p = some v) (hs : ¬ S p.block) : w'.cell? p = some v :=
  (World.cell?_of_block (h.block p.block (World.block_lt_of_cell? w p hc) hs)).trans hc
theorem Ex.frozen {S : Nat → Prop} {w w' : World} (h : Ex S w w') {p : Addr} (hp : p.block < w.heap.size) (hs : ¬ S p.block) : w'.frozen? p = w.frozen? p :=
  World.frozen?_of_block (h.block p.block hp hs)

theorem RB.keep {w w' : World} {P S : Nat → Prop} {v : Value} {l : List UInt8} (h : RB w P v l) (hx : Ex S w w') (hs : ∀ k, k < w.heap.size → P k → ¬ S k) : RB w' P v l := by
  obtain ⟨h1, A, c, h2, h3, h4⟩ := h
  refine ⟨h1, A, c, h2, h3, fun i hi => ?_⟩
  obtain ⟨b, off, e, hp, hc⟩ := h4 i hi
  exact ⟨b, off, e, hp, hx.cell hc (hs b (World.block_lt_of_cell? w _ hc) hp)⟩
theorem RB.mono {w : World} {P Q : Nat → Prop} {v : Value} {l : List UInt8} (h : RB w P v l) (hs : ∀ k, k < w.heap.size → P k → Q k) : RB w Q v l := by
  obtain ⟨h1, A, c, h2, h3, h4⟩ := h
  refine ⟨h1, A, c, h2, h3, fun i hi => ?_⟩
  obtain ⟨b, off, e, hp, hc⟩ := h4 i hi
  exact ⟨b, off, e, hs b (World.block_lt_of_cell? w _ hc) hp, hc⟩
theorem RB2.keep {w w' : World} {P S : Nat → Prop} {v : Value} {l : List (List UInt8)} (h : RB2 w P v l) (hx : Ex S w w') (hs : ∀ k, k < w.heap.size → P k → ¬ S k) : RB2 w' P v l := by
  obtain ⟨h1, A, c, h2, h3, h4⟩ := h
  refine ⟨h1, A, c, h2, h3, fun i hi => ?_⟩
  obtain ⟨b, off, vi, e, hp, hc, hr⟩ := h4 i hi
  exact ⟨b, off, vi, e, hp, hx.cell hc (hs b (World.block_lt_of_cell? w _ hc) hp), hr.keep hx hs⟩
theorem RB.nil (w : World) (P : Nat → Prop) : RB w P (.slice none 0 0) [] := ⟨by simp, none, 0, rfl, by simp, fun i h => by simp at h⟩
theorem RB.take {w : World} {P : Nat → Prop} {A : Option Addr} {n c : Nat} {l : List UInt8} (h : RB w P (.slice A n c) l) (m : Nat) : RB w P (.slice A (l.take m).length c) (l.take m) := by
  obtain ⟨h1, A', c', e, h3, h4⟩ := h
  injection e with e1 e2 e3
  subst e1 e2 e3
  refine ⟨by simp; omega, _, _, rfl, by simp; omega, fun i hi => ?_⟩
  have hi' : i < l.length := by simp at hi; omega
  obtain ⟨b, off, e, hp, hc⟩ := h4 i hi'
  exact ⟨b, off, e, hp, by rw [hc]; simp⟩
theorem RB.slice {w : World} {P : Nat → Prop} {b off n c : Nat} {l : List UInt8} (h : RB w P (.slice (some ⟨b, off, none⟩) n c) l) (i j : Nat) (hij : i ≤ j) (hj : j ≤ l.length) :
    RB w P (.slice (some ⟨b, off + i, none⟩) (j - i) (c - i)) ((l.take j).drop i) := by
  obtain ⟨h1, A', c', e, h3, h4⟩ := h
  injection e with e1 e2 e3
  subst e1 e2 e3
  have hlen : ((l.take j).drop i).length = j - i := by simp; omega
  refine ⟨by rw [hlen]; omega, _, _, by rw [hlen], by rw [hlen]; omega, fun k hk => ?_⟩
  rw [hlen] at hk
  obtain ⟨b', off', e, hp, hc⟩ := h4 (i + k) (by omega)
  injection e with e
  injection e with e4 e5
  subst e4 e5
  exact ⟨b, off + i, rfl, hp, by rw [Nat.add_assoc, hc]; simp⟩
theorem RB2.old {w : World} {P : Nat → Prop} {v : Value} {ls : List (List UInt8)} (h : RB2 w P v ls) : RB2 w (fun k => P k ∧ k < w.heap.size) v ls := by
  obtain ⟨h1, A, c, h2, h3, h4⟩ := h
  refine ⟨h1, A, c, h2, h3, fun i hi => ?_⟩
  obtain ⟨b, off, vi, e, hp, hc, g1, A', c', g2, g3, g4⟩ := h4 i hi
  refine ⟨b, off, vi, e, ⟨hp, World.block_lt_of_cell? w _ hc⟩, hc, g1, A', c', g2, g3, fun j hj => ?_⟩
  obtain ⟨b', off', e', hp', hc'⟩ := g4 j hj
  exact ⟨b', off', e', ⟨hp', World.block_lt_of_cell? w _ hc'⟩, hc'⟩
theorem RB.old {w : World} {P : Nat → Prop} {v : Value} {l : List UInt8} (h : RB w P v l) : RB w (fun k => P k ∧ k < w.heap.size) v l := by
  obtain ⟨g1, A', c', g2, g3, g4⟩ := h
  refine ⟨g1, A', c', g2, g3, fun j hj => ?_⟩
  obtain ⟨b', off', e', hp', hc'⟩ := g4 j hj
  exact ⟨b', off', e', ⟨hp', World.block_lt_of_cell? w _ hc'⟩, hc'⟩
/-- an owned row of slices reads as slices, where each of them reads as bytes -/
theorem RB2.ofRow {w : World} {base : Nat} {t : TypeId} {v : Value} {n : Nat} {vals : List Value} {P Q : Nat → Prop} (ls : List (List UInt8)) (h : w.ownsRow base t 1 v n vals) (hn : n = ls.length) (hl : ls.length ≤ 140737488355328)
    (hQ : ∀ k, base ≤ k → Q k) (hPQ : ∀ k, P k → Q k) (hv : ∀ j (hj : j < vals.length) (hj' : j < ls.length), RB w P vals[j] ls[j]) : RB2 w Q v ls := by
  subst hn
  have hlen := h.1
  rw [Nat.mul_one] at hlen
  refine ⟨by omega, ?_⟩
  rcases h.2 with ⟨rfl, h0⟩ | ⟨g, cap, cur, rfl, hb, hg, hnc, _⟩
  · exact ⟨none, 0, by rw [h0], by omega, fun i hi => by omega⟩
  · refine ⟨_, cap, rfl, hnc, fun i hi => ⟨g, 0, vals[i]'(by omega), rfl, hQ g hb, ?_, ?_⟩⟩
    · have := h.cells (g := g) rfl i (vals[i]'(by omega)) (by simp)
      simpa [Addr.add_lit] using this
    · exact (hv i (by omega) hi).mono (fun k _ hp => hPQ k hp)
theorem RB2.nil (w : World) (P : Nat → Prop) : RB2 w P (.slice none 0 0) [] := ⟨by simp, none, 0, rfl, by simp, fun i h => by simp at h⟩

/-- a block that was just laid out of bytes -/
theorem RB.lit (w : World) (P : Nat → Prop) (l : List UInt8) (t : TypeId) (hP : P w.heap.size) (hl : l.length ≤ 140737488355328) :
    RB (w.alloc (.cells (l.map u8v).toArray t)) P (.slice (some ⟨w.heap.size, 0, none⟩) l.length l.length) l := by
  refine ⟨by omega, _, _, rfl, Nat.le_refl _, fun i hi => ⟨_, _, rfl, hP, ?_⟩⟩
  rw [World.cell?_alloc_at _ _ _ _ rfl]
  simp [hi, u8v]

/-! ### rows of bytes that the call itself made -/

/-- the cells of a block that was just laid, as an append's source -/
theorem new_cells (w : World) (cs : Array Value) (t : TypeId) : ∀ j u, cs.toList[j]? = some u → ∃ a, some (⟨w.heap.size, 0, none⟩ : Addr) = some a ∧ (w.alloc (.cells cs t)).cell? (a.add j) = some u := by
  intro j u h
  refine ⟨_, rfl, ?_⟩
  rw [Addr.add_lit, World.cell?_alloc_at _ _ _ _ rfl]
  simpa using h
/-- a block that was just laid out of slices -/
theorem RB2.made (w : World) (P : Nat → Prop) (cs : Array Value) (t : TypeId) (ls : List (List UInt8)) (n c : Nat) (hl : cs.size = ls.length) (hn : n = ls.length) (hc : n ≤ c) (hlen : ls.length ≤ 140737488355328)
    (hv : ∀ i (h : i < cs.size) (h' : i < ls.length), RB w P cs[i] ls[i]) (g : Nat) (hg : g = w.heap.size) : RB2 (w.alloc (.cells cs t)) (fun k => P k ∨ k = w.heap.size) (.slice (some ⟨g, 0, none⟩) n c) ls := by
  subst hn
  subst hg
  refine ⟨by omega, _, _, rfl, hc, fun i hi => ⟨_, _, cs[i]'(by omega), rfl, .inr rfl, ?_, ?_⟩⟩
  · rw [World.cell?_alloc_at _ _ _ _ rfl]
    simp [show i < cs.size by omega]
  · exact ((hv i (by omega) hi).keep (S := fun _ => False) ((Ex.refl _ w).alloc _) (fun _ _ _ => id)).mono (fun _ _ h => .inl h)
theorem RB2.one {w : World} {P : Nat → Prop} {v : Value} {l : List UInt8} (h : RB w P v l) (t : TypeId) {g : Nat} (hg : g = w.heap.size) : RB2 (w.alloc (.cells #[v] t)) (fun k => P k ∨ k = w.heap.size) (.slice (some ⟨g, 0, none⟩) 1 1) [l] :=
  RB2.made w P #[v] t [l] 1 1 rfl rfl (by omega) (by simp) (fun i hi hi' => by
    obtain rfl : i = 0 := by simp at hi; exact hi
    exact h) g hg
theorem RB2.two {w : World} {P : Nat → Prop} {v1 v2 : Value} {l1 l2 : List UInt8} (h1 : RB w P v1 l1) (h2 : RB w P v2 l2) (t : TypeId) {g : Nat} (hg : g = w.heap.size) : RB2 (w.alloc (.cells #[v1, v2] t)) (fun k => P k ∨ k = w.heap.size) (.slice (some ⟨g, 0, none⟩) 2 2) [l1, l2] :=
  RB2.made w P #[v1, v2] t [l1, l2] 2 2 rfl rfl (by omega) (by simp) (fun i hi hi' => by
    have : i = 0 ∨ i = 1 := by simp at hi; omega
    rcases this with rfl | rfl
    · exact h1
    · exact h2) g hg
theorem RB.any {w : World} {P : Nat → Prop} {v : Value} {l : List UInt8} (h : RB w P v l) : RB w (fun _ => True) v l := h.mono (fun _ _ _ => trivial)
/-- append onto an owned row, of whatever slice: also of a nil one -/
theorem run_append_row {Pr : Program} (w : World) (base : Nat) (t ty e : TypeId) (i : TypeInfo) (z : Value) (size bytes : Nat) (ht : Pr.underlying t = some (.slice e)) (hi : Pr.info? e = some i) (hz : i.zero = some z)
    (hsize : i.size = size) (hby : i.bytes = bytes) (hzs : z.cells.size = size) (hsz : 0 < size)
    (v : Value) (n : Nat) (xs : List Value) (hown : w.ownsRow base e size v n xs)
    (A : Option Addr) (m c : Nat) (news : List Value) (hl : news.length = m * size) (hnews : ∀ j u, news[j]? = some u → ∃ a, A = some a ∧ w.cell? (a.add j) = some u) (h1 : ∀ u ∈ news, u.oneCell' = true)
    (h63 : n + m ≤ maxLen) (hbytes : (n + m) * bytes ≤ 140737488355328) (hbase : base ≤ w.heap.size) :
    ∃ v' w', (Builtin.append_ #[t, t] ty #[v, .slice A m c]).run Pr w = .ok v' w' ∧ w'.ownsRow base e size v' (n + m) (xs ++ news) ∧ w.grownBy w' v.ownBlock ∧
      (v' = .slice none 0 0 ↔ v = .slice none 0 0 ∧ m = 0) ∧ (v'.ownBlock = v.ownBlock ∨ v'.ownBlock = some w.heap.size) := by
  cases A with
  | some a =>
    exact run_append_own_at w base t ty e i z size bytes ht hi hz hsize hby hzs hsz v n xs hown a m c news hl (fun j u h => by
      obtain ⟨a', e', hc⟩ := hnews j u h
      obtain rfl := Option.some.inj e'
      exact hc) h1 h63 hbytes hbase
  | none =>
    have hn : news = [] := by
      cases news with
      | nil => rfl
      | cons u r => obtain ⟨a, e', _⟩ := hnews 0 u rfl; cases e'
    subst hn
    have hm : m = 0 := by
      rcases Nat.eq_zero_or_pos m with h | h
      · exact h
      · have := Nat.mul_pos h hsz; simp at hl; omega
    subst hm
    subst hsize
    rcases hown.2 with ⟨rfl, rfl⟩ | ⟨g, cap, cur, rfl, hbg, hg, hnc, hcm, hcs, htake⟩
    · refine ⟨.slice none 0 0, w, ?_, by simpa using hown, ⟨rfl, rfl, rfl, Nat.le_refl _, fun _ _ _ => rfl⟩, by simp, Or.inl rfl⟩
      simp [Builtin.append_, run_underlying ht, sizeOf, typeInfo, hi, Builtin.lenOf, Builtin.firstCells]
    · refine ⟨.slice (some ⟨g, 0, none⟩) n cap, w, ?_, by simpa using hown, ⟨rfl, rfl, rfl, Nat.le_refl _, fun _ _ _ => rfl⟩, by simp, Or.inl rfl⟩
      simp [Builtin.append_, run_underlying ht, sizeOf, typeInfo, hi, Builtin.lenOf, Builtin.firstCells, hnc, storeCells]

theorem wpList_append_row {Pr : Program} {w : World} {ops : Array Oper} {rest : List Oper} {o : Oper} {a : Act} {Q : Exit → Act → World → Prop} (hgd : o.guard = none) (s x : Operand) (t : TypeId)
    (ho : o.op = .call { callee := .builtin .append, args := #[s, x], argTypes := #[t, t] })
    (base : Nat) (e : TypeId) (i : TypeInfo) (z : Value) (size bytes : Nat) (ht : Pr.underlying t = some (.slice e)) (hi : Pr.info? e = some i) (hz : i.zero = some z)
    (hsize : i.size = size) (hby : i.bytes = bytes) (hzs : z.cells.size = size) (hsz : 0 < size)
    (v : Value) (n : Nat) (xs : List Value) (hs : a.eval s = v) (hown : w.ownsRow base e size v n xs)
    (A : Option Addr) (m c : Nat) (hx : a.eval x = .slice A m c) (news : List Value) (hl : news.length = m * size) (hnews : ∀ j u, news[j]? = some u → ∃ a, A = some a ∧ w.cell? (a.add j) = some u) (h1 : ∀ u ∈ news, u.oneCell' = true)
    (h63 : n + m ≤ maxLen) (hbytes : (n + m) * bytes ≤ 140737488355328) (hbase : base ≤ w.heap.size)
    (h : ∀ v' w', w'.ownsRow base e size v' (n + m) (xs ++ news) → w.grownBy w' v.ownBlock → (v' = .slice none 0 0 ↔ v = .slice none 0 0 ∧ m = 0) → (v'.ownBlock = v.ownBlock ∨ v'.ownBlock = some w.heap.size) → wpList Pr ops Q rest (a.put o.dst v') w') :
    wpList Pr ops Q (o :: rest) a w := by
  refine wpList_plain hgd fun K hK => ?_
  obtain ⟨v', w', hr, h2, h3, h4, h5⟩ := run_append_row (Pr := Pr) w base t o.type e i z size bytes ht hi hz hsize hby hzs hsz v n xs hown A m c news hl hnews h1 h63 hbytes hbase
  unfold Oper.wp execOp
  simp only [ho, resolve, invoke, builtin, Sem.run_bind, Sem.run_pure, Result.andThen_ok, List.map_toArray, List.map_cons, List.map_nil, hs, hx, hr]
  exact hK _ _ (h v' w' h2 h3 h4 h5)

/-- The slice v owns the bytes l, in a block from B on. -/
def OB (w : World) (B : Nat) (v : Value) (l : List UInt8) : Prop := l.length ≤ 140737488355328 ∧ w.ownsRow B 5 1 v l.length (l.map u8v)

theorem u8v_one (u : Value) (l : List UInt8) (h : u ∈ l.map u8v) : u.oneCell' = true := by
  obtain ⟨_, _, rfl⟩ := List.mem_map.1 h
  rfl
theorem OB.nil (w : World) (B : Nat) : OB w B (.slice none 0 0) [] := ⟨by simp, World.ownsRow_nil w B _ 1⟩
theorem OB.shape {w : World} {B : Nat} {v : Value} {l : List UInt8} (h : OB w B v l) : ∃ A c, v = .slice A l.length c := by
  rcases h.2.2 with ⟨hv, hl⟩ | ⟨g, cap, cur, hv, _⟩
  · exact ⟨none, 0, by rw [hl]; exact hv⟩
  · exact ⟨_, cap, hv⟩
theorem OB.rb {w : World} {B : Nat} {v : Value} {l : List UInt8} (h : OB w B v l) : RB w (fun k => v.ownBlock = some k ∧ B ≤ k) v l := by
  refine ⟨by have := h.1; omega, ?_⟩
  rcases h.2.2 with ⟨rfl, hl⟩ | ⟨g, cap, cur, rfl, hb, hg, hn, _⟩
  · exact ⟨none, 0, by rw [hl], by omega, fun i hi => by omega⟩
  · refine ⟨_, cap, rfl, hn, fun i hi => ⟨g, 0, rfl, ⟨rfl, hb⟩, ?_⟩⟩
    have := h.2.cells (g := g) rfl i (u8v l[i]) (by simp [hi])
    simpa [Addr.add_lit, u8v] using this
theorem OB.keep {w w' : World} {S : Nat → Prop} {B : Nat} {v : Value} {l : List UInt8} (h : OB w B v l) (hx : Ex S w w') (hs : ∀ k, v.ownBlock = some k → k < w.heap.size → B ≤ k → ¬ S k) : OB w' B v l := by
  refine ⟨h.1, h.2.1, ?_⟩
  rcases h.2.2 with hn | ⟨g, cap, cur, rfl, hb, hg, rest⟩
  · exact .inl hn
  · have hlt := (Array.getElem?_eq_some_iff.1 hg).1
    exact .inr ⟨g, cap, cur, rfl, hb, (hx.block g hlt (hs g rfl hlt hb)).trans hg, rest⟩
theorem OB.mono {w : World} {B B' : Nat} {v : Value} {l : List UInt8} (h : OB w B v l) (hb : B' ≤ B) : OB w B' v l := by
  refine ⟨h.1, h.2.1, ?_⟩
  rcases h.2.2 with hn | ⟨g, cap, cur, rfl, hb', rest⟩
  · exact .inl hn
  · exact .inr ⟨g, cap, cur, rfl, Nat.le_trans hb hb', rest⟩
theorem OB.lt {w : World} {B : Nat} {v : Value} {l : List UInt8} (h : OB w B v l) : ∀ k, v.ownBlock = some k → B ≤ k ∧ k < w.heap.size := h.2.lt
/-- a block that was just laid out of bytes is owned -/
theorem OB.lit (w : World) (B : Nat) (l : List UInt8) (hB : B ≤ w.heap.size) (hl : l.length ≤ 140737488355328) :
    OB (w.alloc (.cells (l.map u8v).toArray 5)) B (.slice (some ⟨w.heap.size, 0, none⟩) l.length l.length) l :=
  ⟨hl, by simp, .inr ⟨w.heap.size, l.length, _, rfl, hB, heap_alloc_new w _, Nat.le_refl _, by simp only [maxLen]; omega, by simp, by simp [List.take_of_length_le]⟩⟩

theorem OB.alloc {w : World} {B : Nat} {v : Value} {l : List UInt8} (h : OB w B v l) (o : Obj) : OB (w.alloc o) B v l :=
  h.keep (S := fun _ => False) ((Ex.refl _ w).alloc o) (fun _ _ _ _ => id)
theorem RB.alloc {w : World} {P : Nat → Prop} {v : Value} {l : List UInt8} (h : RB w P v l) (o : Obj) : RB (w.alloc o) P v l :=
  h.keep (S := fun _ => False) ((Ex.refl _ w).alloc o) (fun _ _ _ => id)
theorem RB2.alloc {w : World} {P : Nat → Prop} {v : Value} {l : List (List UInt8)} (h : RB2 w P v l) (o : Obj) : RB2 (w.alloc o) P v l :=
  h.keep (S := fun _ => False) ((Ex.refl _ w).alloc o) (fun _ _ _ => id)
/-- a block that was just laid out of these values -/
theorem RB.made (w : World) (l : List UInt8) (cs : Array Value) (t : TypeId) (hc : cs.toList = l.map u8v) (hl : l.length ≤ 140737488355328) (n c : Nat) (hn : n = l.length) (hcc : n ≤ c) {g : Nat} (hg : g = w.heap.size) :
    RB (w.alloc (.cells cs t)) (fun k => k = w.heap.size) (.slice (some ⟨g, 0, none⟩) n c) l := by
  subst hn
  subst hg
  obtain ⟨cs⟩ := cs
  simp only at hc
  subst hc
  refine ⟨by omega, _, _, rfl, hcc, fun i hi => ⟨_, _, rfl, rfl, ?_⟩⟩
  rw [World.cell?_alloc_at _ _ _ _ rfl]
  simp [hi, u8v]
/-- the byte of a number -/
def by8 (x : Int) : UInt8 := UInt8.ofNat (x % 256).toNat
theorem by8_toNat (x : Int) : ((by8 x).toNat : Int) = x % 256 := by
  unfold by8
  rw [UInt8.toNat_ofNat']
  omega
theorem u8v_by8 (x : Int) : u8v (by8 x) = .int .u8 (x % 256) := by unfold u8v; rw [by8_toNat]
theorem by8_mod (x : Int) : by8 (x % 256) = by8 x := by unfold by8; congr 1; omega
theorem by8_u8 (b : UInt8) : by8 (b.toNat : Int) = b := by
  apply UInt8.toNat_inj.1
  have h := by8_toNat (b.toNat : Int)
  have := b.toNat_lt
  omega

theorem OB.form {w : World} {B : Nat} {v : Value} {l : List UInt8} (h : OB w B v l) (hn : 0 < l.length) : ∃ g cap, v = .slice (some ⟨g, 0, none⟩) l.length cap ∧ B ≤ g ∧ g < w.heap.size := h.2.form hn
theorem OB.cell {w : World} {B g n c : Nat} {l : List UInt8} (h : OB w B (.slice (some ⟨g, 0, none⟩) n c) l) (i : Nat) (hi : i < l.length) : w.cell? ⟨g, i, none⟩ = some (.int .u8 (l[i].toNat : Int)) := by
  have := h.2.cells (g := g) rfl i (u8v l[i]) (by simp [hi])
  simpa [Addr.add_lit, u8v] using this
theorem OB.frozen {w : World} {B g n c : Nat} {l : List UInt8} (h : OB w B (.slice (some ⟨g, 0, none⟩) n c) l) (i : Nat) : w.frozen? ⟨g, i, none⟩ = false := by
  have e : n = l.length := by
    obtain ⟨A', c', e⟩ := h.shape
    injection e
  subst e
  exact h.2.frozenAt i
/-- a byte is written -/
theorem OB.set {w : World} {B g n c : Nat} {l : List UInt8} (h : OB w B (.slice (some ⟨g, 0, none⟩) n c) l) (i : Nat) (x : UInt8) (u : Value) (hu : u = .int .u8 (x.toNat : Int)) :
    OB (w.setCell ⟨g, i, none⟩ u) B (.slice (some ⟨g, 0, none⟩) n c) (l.set i x) := by
  subst hu
  have e : n = l.length := by
    obtain ⟨A', c', e⟩ := h.shape
    injection e
  subst e
  refine ⟨by simpa using h.1, ?_⟩
  have := (h.2.stored i (u8v x)).1
  simpa [List.map_set, u8v] using this

/-- append of bytes onto bytes of the call's own, in the walk. -/
theorem wpList_append_ob {Pr : Program} {w : World} {ops : Array Oper} {rest : List Oper} {o : Oper} {a : Act} {Q : Exit → Act → World → Prop} (i : TypeInfo) (t : TypeId)
    (ht : Pr.underlying t = some (.slice 5)) (hi : Pr.info? 5 = some i) (hz : i.zero = some (.int .u8 0)) (hsize : i.size = 1) (hby : i.bytes = 1)
    (hgd : o.guard = none) (s x : Operand) (ho : o.op = .call { callee := .builtin .append, args := #[s, x], argTypes := #[t, t] })
    (B : Nat) (v : Value) (l : List UInt8) (hs : a.eval s = v) (P : Nat → Prop) (y : Value) (r : List UInt8) (hx : a.eval x = y)
    (hown : OB w B v l) (hr : RB w P y r) (hlen : l.length + r.length ≤ 140737488355328) (hbase : B ≤ w.heap.size)
    (h : ∀ A c w', OB w' B (.slice A (l.length + r.length) c) (l ++ r) → w.grownBy w' v.ownBlock → (A = none ↔ v = .slice none 0 0 ∧ r = []) → ((Value.slice A (l.length + r.length) c).ownBlock = v.ownBlock ∨ (Value.slice A (l.length + r.length) c).ownBlock = some w.heap.size) → wpList Pr ops Q rest (a.put o.dst (.slice A (l.length + r.length) c)) w') :
    wpList Pr ops Q (o :: rest) a w := by
  obtain ⟨_, A, c, rfl, _, hcell⟩ := hr
  refine wpList_append_row hgd s x t ho B 5 i (.int .u8 0) 1 1 ht hi hz hsize hby rfl (by decide) v l.length (l.map u8v) hs hown.2 A r.length c hx (r.map u8v) (by simp) ?_ (fun u hu => u8v_one u r hu) (by simp only [maxLen]; omega) (by omega) hbase ?_
  · intro j u hu
    simp only [List.getElem?_map, Option.map_eq_some_iff] at hu
    obtain ⟨b, hb, rfl⟩ := hu
    obtain ⟨hj, rfl⟩ := List.getElem?_eq_some_iff.1 hb
    obtain ⟨b', off, rfl, _, hc⟩ := hcell j hj
    exact ⟨_, rfl, by rw [Addr.add_lit]; exact hc⟩
  · intro v' w' ho' hg hn hb
    have hob : OB w' B v' (l ++ r) := ⟨by simpa using hlen, by simpa using ho'⟩
    obtain ⟨A', c', rfl⟩ := hob.shape
    rw [List.length_append] at hob hn hb ⊢
    refine h A' c' w' hob hg ?_ hb
    rw [← show (r.length = 0) = (r = []) from by simp, ← hn]
    constructor
    · rintro rfl
      rcases hob.2.2 with ⟨e, _⟩ | ⟨g, cap, cur, e, _⟩
      · exact e
      · cases e
    · intro e; injection e

theorem Ex.append {S : Nat → Prop} {a w w' : World} {B : Nat} {v : Value} {l : List UInt8} (h : Ex S a w) (ho : OB w B v l) (hg : w.grownBy w' v.ownBlock) (hB : a.heap.size ≤ B) : Ex S a w' :=
  h.grown hg (fun k hk => .inr (Nat.le_trans hB (ho.lt k hk).1))
/-- the same, the whole under a name, and what is kept since a world that was -/
theorem wpList_append_om {Pr : Program} {w : World} {ops : Array Oper} {rest : List Oper} {o : Oper} {a : Act} {Q : Exit → Act → World → Prop} (i : TypeInfo) (t : TypeId)
    (ht : Pr.underlying t = some (.slice 5)) (hi : Pr.info? 5 = some i) (hz : i.zero = some (.int .u8 0)) (hsize : i.size = 1) (hby : i.bytes = 1)
    (hgd : o.guard = none) (s x : Operand) (ho : o.op = .call { callee := .builtin .append, args := #[s, x], argTypes := #[t, t] })
    (w0 : World) (S : Nat → Prop) (B : Nat) (v : Value) (l : List UInt8) (hs : a.eval s = v) (P : Nat → Prop) (y : Value) (r m : List UInt8) (hm : l ++ r = m) (hx : a.eval x = y)
    (hex : Ex S w0 w) (hown : OB w B v l) (hr : RB w P y r) (hlen : l.length + r.length ≤ 140737488355328) (h0 : w0.heap.size ≤ B) (hbase : B ≤ w.heap.size)
    (h : ∀ A c w', OB w' B (.slice A m.length c) m → Ex S w0 w' → w.heap.size ≤ w'.heap.size → wpList Pr ops Q rest (a.put o.dst (.slice A m.length c)) w') :
    wpList Pr ops Q (o :: rest) a w := by
  subst hm
  rw [List.length_append] at h
  exact wpList_append_ob i t ht hi hz hsize hby hgd s x ho B v l hs P y r hx hown hr hlen hbase (fun A c w' h1 h2 _ _ => h A c w' h1 (hex.append hown h2 h0) h2.size)

/-! ### texts -/

/-- bytes as a text -/
def bs (l : List UInt8) : ByteArray := ⟨l.toArray⟩
theorem bs_toList (l : List UInt8) : (bs l).data.toList = l := by simp [bs]
theorem bs_of (s : ByteArray) : bs s.data.toList = s := by simp [bs]
theorem bs_size (l : List UInt8) : (bs l).size = l.length := by simp [bs, ByteArray.size]
theorem bs_get (l : List UInt8) (k : Nat) (h : k < l.length) : (bs l)[k]'(by rw [bs_size]; exact h) = l[k] := rfl
theorem bs_append (a b : List UInt8) : bs a ++ bs b = bs (a ++ b) := by
  apply ByteArray.ext
  simp [bs, ByteArray.data_append]
theorem bs_inj {a b : List UInt8} : bs a = bs b ↔ a = b := ⟨fun h => by rw [← bs_toList a, h, bs_toList], fun h => by rw [h]⟩
theorem bs_nil : bs [] = ⟨#[]⟩ := rfl
/-- 'string(b)' -/
theorem RB.str {Pr : Program} {w : World} {P : Nat → Prop} {v : Value} {l : List UInt8} (h : RB w P v l) (src dst e : TypeId) (hs : Pr.underlying src = some (.slice e)) (he : Pr.underlying e = some (.int .u8)) (hd : Pr.underlying dst = some .string) :
    (convert src dst v).run Pr w = .ok (.string (bs l)) w := by
  obtain ⟨_, A, c, rfl, _, hc⟩ := h
  cases A with
  | none =>
    have hn : l = [] := by
      cases l with
      | nil => rfl
      | cons x r => obtain ⟨b, off, e, _⟩ := hc 0 (by simp); cases e
    subst hn
    exact run_convert_bytes_nil w src e hs he 0 c dst hd
  | some a =>
    refine run_convert_bytes_back w src dst e a c l hs he hd (fun j hj => ?_)
    obtain ⟨b, off, e, _, hcj⟩ := hc j hj
    obtain rfl := Option.some.inj e
    rw [Addr.add_lit]
    exact hcj

/-- the world behind '[]byte(s)', and the capacity -/
def tw (w : World) (l : List UInt8) : World := Lib.bytesWorld w 5 (bs l)
def tc (w : World) (l : List UInt8) : Nat := grownCap w (bs l).size 0 5
theorem tw_size (w : World) (l : List UInt8) : (tw w l).heap.size = w.heap.size + 1 := Lib.bytesWorld_size _ _ _
theorem conv_text {Pr : Program} (src dst : TypeId) (hs : Pr.underlying src = some .string) (hd : Pr.underlying dst = some (.slice 5)) (he : Pr.underlying 5 = some (.int .u8)) (w : World) (l : List UInt8) :
    (convert src dst (.string (bs l))).run Pr w = .ok (.slice (some ⟨w.heap.size, 0, none⟩) l.length (tc w l)) (tw w l) := by
  rw [Lib.run_convert_string_bytes w src dst 5 (bs l) hs hd he, bs_size]
  rfl
theorem Ex.text {S : Nat → Prop} {a w : World} (h : Ex S a w) (l : List UInt8) : Ex S a (tw w l) :=
  h.trans ⟨rfl, rfl, rfl, by rw [tw_size]; omega, fun k hk _ => Lib.bytesWorld_at_old _ _ _ _ hk⟩
theorem RB.text (w : World) (l : List UInt8) (hl : l.length ≤ 9223372036854775807) (g : Nat) (hg : g = w.heap.size) : RB (tw w l) (fun k => k = w.heap.size) (.slice (some ⟨g, 0, none⟩) l.length (tc w l)) l := by
  subst hg
  refine ⟨hl, _, _, rfl, ?_, fun i hi => ⟨_, _, rfl, rfl, ?_⟩⟩
  · have := grownCap_ge w (bs l).size 0 5
    rw [bs_size] at this
    unfold tc
    rw [bs_size]
    exact this
  · rw [Nat.zero_add]
    have := Lib.bytesWorld_cell w 5 (bs l) i (by rw [bs_size]; exact hi)
    rw [bs_toList] at this
    show (Lib.bytesWorld w 5 (bs l)).cell? _ = _
    rw [this]
    simp [List.getD_eq_getElem?_getD, hi]

end Go.Proofs.YtkgieciamophkaaDoor
