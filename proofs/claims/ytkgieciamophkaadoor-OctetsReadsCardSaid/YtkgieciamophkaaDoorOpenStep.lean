/-
  From what a call is handed to rows of steps. By an AI agent.
-/
import Derived.Test.YtkgieciamophkaaDoorLem01
import Derived.Test.YtkgieciamophkaaDoorOpen
import Derived.Deep.SlicePairs
namespace Go.Proofs.YtkgieciamophkaaDoor
open Go.RowKit Go.ChangeShapes

/-- The slice v reads as these steps: the kind, the number. -/
def RS (w : World) (v : Value) (l : List (Int × Int)) : Prop :=
  l.length ≤ 9223372036854775807 ∧ ∃ A c, v = .slice A l.length c ∧ l.length ≤ c ∧ ∀ i (h : i < l.length), ∃ b off, A = some ⟨b, off, none⟩ ∧
    w.cell? ⟨b, off + i * 2, none⟩ = some (.int .i64 l[i].1) ∧ w.cell? ⟨b, off + i * 2 + 1, none⟩ = some (.int .i64 l[i].2) ∧ (-9223372036854775808 ≤ l[i].1 ∧ l[i].1 ≤ 9223372036854775807) ∧ (-9223372036854775808 ≤ l[i].2 ∧ l[i].2 ≤ 9223372036854775807)
theorem step_cells : Tryd.prog.cellsOf 67 = 2 ∧ Tryd.prog.cellsOf 3 = 1 := by refine ⟨?_, ?_⟩ <;> kernel_rfl
theorem kind2_of_wf {n : Int} (h : (Lit.int .i64 n).wf = true) : -9223372036854775808 ≤ n ∧ n ≤ 9223372036854775807 := by
  simpa [Lit.wf, IntKind.min, IntKind.max, IntKind.signed, IntKind.bits] using h
set_option maxRecDepth 100000 in
theorem rs_of_trod {H : Type} {enc : TypeId × Value → H} {w : World} {fuel : Nat} {a : Option Addr} {len cap : Nat} {x : DataW H × List MemPlace}
    (h : DataW.trod enc Tryd.prog w 0 (fun _ => true) true fuel 62 [.slice a len cap] = some x) : ∃ l, RS w (.slice a len cap) l := by
  obtain ⟨p1, p2⟩ := step_cells
  rcases Go.Deep.open_slice_pairs Tryd.underlying62 Tryd.underlying67 p1 rfl rfl p2 p2 h with ⟨hcs, _⟩ | ⟨a', len', cap', m, n, V0, V1, D0, D1, P0, P1, hcs, _, hl, hm, hmm, _, hx⟩
  · simp at hcs
    obtain ⟨rfl, rfl, rfl⟩ := hcs
    exact ⟨[], by simp, none, 0, rfl, by simp, fun i hi => by simp at hi⟩
  · simp at hcs
    obtain ⟨rfl, rfl, rfl⟩ := hcs
    simp at hmm
    subst hmm
    have each : ∀ i, i < m → ∃ q : Int × Int, ∃ b off, a' = ⟨b, off, none⟩ ∧ w.cell? ⟨b, off + i * 2, none⟩ = some (.int .i64 q.1) ∧ w.cell? ⟨b, off + i * 2 + 1, none⟩ = some (.int .i64 q.2) ∧ (-9223372036854775808 ≤ q.1 ∧ q.1 ≤ 9223372036854775807) ∧ (-9223372036854775808 ≤ q.2 ∧ q.2 ≤ 9223372036854775807) := by
      intro i hi
      obtain ⟨b, off, spot⟩ := a'
      have hspot : spot = none := by simpa [Addr.add] using World.cell?_spot (hx 0 (by omega)).1
      subst hspot
      obtain ⟨e0, e1, g0, g1⟩ := hx i hi
      obtain ⟨k0, hv0, _, hw0⟩ := DataW.trod_int Tryd.underlying3 g0
      obtain ⟨k1, hv1, _, hw1⟩ := DataW.trod_int Tryd.underlying3 g1
      simp at hv0 hv1
      rw [hv0, Go.WideShapes.add_plain] at e0
      rw [hv1, Go.WideShapes.add_plain, ← Nat.add_assoc] at e1
      exact ⟨(k0, k1), b, off, rfl, e0, e1, kind2_of_wf hw0, kind2_of_wf hw1⟩
    obtain ⟨f, hf⟩ := Go.Deep.choose_lt each
    refine ⟨(List.range len).map f, by simp only [maxLen] at hm; simp; omega, some a', m, by simp, by simp; exact hl, fun i hi => ?_⟩
    have hi' : i < len := by simpa using hi
    obtain ⟨b, off, rfl, h1, h2, h3, h4⟩ := hf i (by omega)
    exact ⟨b, off, rfl, by simpa using h1, by simpa using h2, by simpa using h3, by simpa using h4⟩
end Go.Proofs.YtkgieciamophkaaDoor
