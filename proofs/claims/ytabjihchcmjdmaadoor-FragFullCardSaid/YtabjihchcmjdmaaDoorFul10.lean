/-
  Heaps of unlike parts: the plain law of FragFull. By an AI agent.
-/
import Derived.Test.YtabjihchcmjdmaaDoorGi10
namespace Go.Proofs.YtabjihchcmjdmaaDoor
open Go.RowKit

/-- the first part of packet i -/
def ff (i : Nat) : Pk := ⟨0, i, false, true, 0, 0, 0, 0, 0, List.replicate 8 0⟩
theorem ff_ok {i : Nat} (h : i ≤ 65535) : (ff i).ok := by
  unfold ff Pk.ok
  simp only
  omega
theorem ff_right (i : Nat) : (ff i).right = 0 := by
  show (ff 0).right = 0
  decide +kernel
theorem ff_kb {i j : Nat} (hi : i ≤ 65535) (hj : j ≤ 65535) (h : kb (ff i) = kb (ff j)) : i = j := by
  obtain ⟨_, _, _, h4⟩ := kb_inj (ff_ok hi) (ff_ok hj) h
  change (i : Int) = (j : Int) at h4
  omega
theorem hp_none {G : List Hp} {p : Pk} (h : ∀ x ∈ G, x.k ≠ kb p) : hpOf G p = none := by
  unfold hpOf lk
  rw [Option.map_eq_none_iff, List.find?_eq_none]
  intro x hx
  obtain ⟨y, hy, rfl⟩ := List.mem_map.1 hx
  simpa using h y hy
/-- heaps of the first parts of packets 0 .. n - 1 -/
def FG (G : List Hp) (n : Nat) : Prop := G.map (fun h => (h.k, h.os.map Prod.fst)) = (List.range n).map fun j => (kb (ff j), [ff j])
theorem FG.len {G : List Hp} {n : Nat} (h : FG G n) : G.length = n := by
  have := congrArg List.length h
  simpa using this
theorem FG.ne {G : List Hp} {n : Nat} (h : FG G n) {i : Nat} (hi : n ≤ i) (h6 : i ≤ 65535) : ∀ x ∈ G, x.k ≠ kb (ff i) := by
  intro x hx e
  have h1 : (x.k, x.os.map Prod.fst) ∈ G.map (fun h => (h.k, h.os.map Prod.fst)) := List.mem_map_of_mem (f := fun h : Hp => (h.k, h.os.map Prod.fst)) hx
  rw [h] at h1
  obtain ⟨j, hj, e2⟩ := List.mem_map.1 h1
  have hj2 := List.mem_range.1 hj
  injection e2 with e3 _
  have := ff_kb (by omega) h6 (e3.trans e)
  omega
theorem FG.none {G : List Hp} {n : Nat} (h : FG G n) {i : Nat} (hi : n ≤ i) (h6 : i ≤ 65535) : hpOf G (ff i) = none := hp_none (h.ne hi h6)
theorem FG.snoc {G : List Hp} {n : Nat} (h : FG G n) {x : Hp} (hk : x.k = kb (ff n)) (ho : x.os.map Prod.fst = [ff n]) : FG (G ++ [x]) (n + 1) := by
  unfold FG at h ⊢
  rw [List.map_append, h, List.range_succ, List.map_append]
  simp [hk, ho]
/-- the one in the middle -/
theorem FG.mid {G : List Hp} {n : Nat} (h : FG G n) {i : Nat} (hi : i < n) : ∃ G1 x G2, G = G1 ++ x :: G2 ∧ x.k = kb (ff i) ∧ x.os.map Prod.fst = [ff i] ∧ G1.length = i := by
  have hl := h.len
  have h1 : (G.map (fun h => (h.k, h.os.map Prod.fst)))[i]? = ((List.range n).map fun j => (kb (ff j), [ff j]))[i]? := by rw [h]
  rw [List.getElem?_map, List.getElem?_map, List.getElem?_range hi, List.getElem?_eq_getElem (by omega)] at h1
  injection h1 with h1
  injection h1 with h2 h3
  exact ⟨G.take i, G[i]'(by omega), G.drop (i + 1), by rw [← List.drop_eq_getElem_cons, List.take_append_drop], h2, h3, by rw [List.length_take]; omega⟩
/-- packet 3's other part, and the whole -/
def f3e : Pk := ⟨0, 3, false, false, 8, 0, 0, 0, 0, [101, 110, 100]⟩
def f3w : Pk := ⟨0, 3, false, false, 0, 0, 0, 0, 0, [0, 0, 0, 0, 0, 0, 0, 0, 101, 110, 100]⟩
theorem f3_kb : kb (ff 3) = kb f3e := rfl
theorem f3_part0 : Part f3w (ff 3) := ⟨rfl, ⟨by decide, by decide +kernel, by decide +kernel⟩, by decide +kernel⟩
theorem f3_part1 : Part f3w f3e := ⟨rfl, ⟨by decide, by decide +kernel, by decide +kernel⟩, by decide +kernel⟩
theorem f3_fits : [ff 3].any (fightsB f3e) = false := by decide +kernel
theorem f3_whole {os : List Po} (h : os.map Prod.fst = [ff 3, f3e]) {r : Option Pk} (hr : WH os r) : r = some f3w := by
  have hm : ∀ x, x ∈ [ff 3, f3e] → ∃ o ∈ os, o.1 = x := fun x hx => by
    rw [← h] at hx
    obtain ⟨o, ho, e⟩ := List.mem_map.1 hx
    exact ⟨o, ho, e⟩
  refine whole_all rfl rfl os (fst_mem h _ ?_) (by decide) (fun i hi => ?_) hr
  · intro x hx
    simp only [List.mem_cons, List.not_mem_nil, or_false] at hx
    rcases hx with rfl | rfl
    · exact f3_part0
    · exact f3_part1
  · have hi : i < 11 := hi
    by_cases h1 : i < 8
    · obtain ⟨o, ho, e⟩ := hm (ff 3) (by simp)
      exact ⟨o, ho, by rw [e]; show (0 : Int) ≤ _; omega, by rw [e]; show (i : Int) < 0 + 8; omega⟩
    · obtain ⟨o, ho, e⟩ := hm f3e (by simp)
      exact ⟨o, ho, by rw [e]; show (8 : Int) ≤ _; omega, by rw [e]; show (i : Int) < 8 + 3; omega⟩
theorem RB.madeF (w : World) (l : List UInt8) (cs : Array Value) (t : TypeId) (fr : Nat × Nat) (hc : cs.toList = l.map u8v) (hl : l.length ≤ 140737488355328) (n c : Nat) (hn : n = l.length) (hcc : n ≤ c) {g : Nat} (hg : g = w.heap.size) :
    RB (w.alloc (.cells cs t fr)) (fun k => k = w.heap.size) (.slice (some ⟨g, 0, none⟩) n c) l := by
  subst hn
  subst hg
  obtain ⟨cs⟩ := cs
  simp only at hc
  subst hc
  refine ⟨by omega, _, _, rfl, hcc, fun i hi => ⟨_, _, rfl, rfl, ?_⟩⟩
  unfold World.cell?
  rw [heap_alloc_new]
  simp [hi, u8v]
end Go.Proofs.YtabjihchcmjdmaaDoor
