/-
  Which rows of bytes are frames, and which have a tag: the plain law. By an AI agent.
-/
import Derived.Test.YtkgieciamophkaaDoorFrLaw
import Derived.Test.YtkgieciamophkaaDoorRfEq
namespace Go.Proofs.YtkgieciamophkaaDoor
open Go.RowKit

/-- bytes 12 and 13 are a tag's -/
def tagB (l : List UInt8) : Bool := decide (14 ≤ l.length) && (decide ((l.getD 12 0).toNat = 129) && decide ((l.getD 13 0).toNat = 0))
theorem nb_tag (a b : UInt8) : nb [a, b] = 33024 ↔ (a.toNat = 129 ∧ b.toNat = 0) := by
  have ha := a.toNat_lt
  have hb := b.toNat_lt
  have hn : nb [a, b] = a.toNat * 256 + b.toNat := by simp [nb]
  rw [hn]
  omega
theorem tagB_cons (d0 d1 d2 d3 d4 d5 s0 s1 s2 s3 s4 s5 a b : UInt8) (r : List UInt8) : tagB (d0 :: d1 :: d2 :: d3 :: d4 :: d5 :: s0 :: s1 :: s2 :: s3 :: s4 :: s5 :: a :: b :: r) = decide (nb [a, b] = 33024) := by
  have h : decide (14 ≤ (d0 :: d1 :: d2 :: d3 :: d4 :: d5 :: s0 :: s1 :: s2 :: s3 :: s4 :: s5 :: a :: b :: r).length) = true := decide_eq_true (by simp only [List.length_cons]; omega)
  unfold tagB
  rw [h, Bool.true_and, ← Bool.decide_and]
  show decide (a.toNat = 129 ∧ b.toNat = 0) = _
  exact decide_eq_decide.2 (nb_tag a b).symm
theorem pframe_isSome (l : List UInt8) : (pframe l).isSome = (decide (18 ≤ l.length) || (decide (14 ≤ l.length) && !tagB l)) := by
  by_cases hl : l.length < 14
  · rw [pframe_short hl, decide_eq_false (by omega), decide_eq_false (by omega)]
    rfl
  obtain ⟨d0, d1, d2, d3, d4, d5, r1, rfl⟩ := six (show 6 ≤ l.length by omega)
  obtain ⟨s0, s1, s2, s3, s4, s5, r2, rfl⟩ := six (show 6 ≤ r1.length by simp at hl; omega)
  obtain ⟨a, b, r, rfl⟩ := two (show 2 ≤ r2.length by simp at hl; omega)
  rw [tagB_cons]
  have h14 : decide (14 ≤ (d0 :: d1 :: d2 :: d3 :: d4 :: d5 :: s0 :: s1 :: s2 :: s3 :: s4 :: s5 :: a :: b :: r).length) = true := decide_eq_true (by omega)
  rw [h14, Bool.true_and]
  by_cases ht : nb [a, b] = 33024
  · rw [decide_eq_true ht]
    by_cases hr : r.length < 4
    · rw [decide_eq_false (by simp only [List.length_cons]; omega)]
      simp [pframe, ptag_cut ht hr]
    · match r, hr with
      | v0 :: v1 :: t0 :: t1 :: r', _ =>
        rw [decide_eq_true (by simp only [List.length_cons]; omega)]
        simp [pframe, ptag_tag ht]
      | [], h => simp at h
      | [_], h => simp at h
      | [_, _], h => simp at h
      | [_, _, _], h => simp at h
  · rw [decide_eq_false ht]
    simp [pframe, ptag_plain ht]
theorem pframe_tag {l : List UInt8} {f : Fr} (h : pframe l = some f) : decide (0 ≤ f.vl) = tagB l := by
  by_cases hl : l.length < 14
  · rw [pframe_short hl] at h; cases h
  obtain ⟨d0, d1, d2, d3, d4, d5, r1, rfl⟩ := six (show 6 ≤ l.length by omega)
  obtain ⟨s0, s1, s2, s3, s4, s5, r2, rfl⟩ := six (show 6 ≤ r1.length by simp at hl; omega)
  obtain ⟨a, b, r, rfl⟩ := two (show 2 ≤ r2.length by simp at hl; omega)
  rw [tagB_cons]
  by_cases ht : nb [a, b] = 33024
  · by_cases hr : r.length < 4
    · simp [pframe, ptag_cut ht hr] at h
    · match r, hr with
      | v0 :: v1 :: t0 :: t1 :: r', _ =>
        simp only [pframe, ptag_tag ht, Option.map_some, Option.some.injEq] at h
        subst h
        rw [decide_eq_true ht]
        exact decide_eq_true (by simp only; omega)
      | [], h => simp at h
      | [_], h => simp at h
      | [_, _], h => simp at h
      | [_, _, _], h => simp at h
  · simp only [pframe, ptag_plain ht, Option.map_some, Option.some.injEq] at h
    subst h
    rw [decide_eq_false ht]
    rfl
end Go.Proofs.YtkgieciamophkaaDoor
