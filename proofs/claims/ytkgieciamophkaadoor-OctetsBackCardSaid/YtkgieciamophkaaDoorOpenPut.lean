/-
  From what a call is handed to rows of puts. By an AI agent.
-/
import Derived.Test.YtkgieciamophkaaDoorPuts
import Derived.Test.YtkgieciamophkaaDoorOpen
import Derived.Deep.Slices
namespace Go.Proofs.YtkgieciamophkaaDoor
open Go.RowKit Go.ChangeShapes

theorem put_cells : Tryd.prog.cellsOf 47 = 3 ∧ Tryd.prog.cellsOf 3 = 1 ∧ Tryd.prog.cellsOf 26 = 1 ∧ Tryd.prog.cellsOf 23 = 1 ∧ Tryd.prog.cellsOf 5 = 1 := by
  refine ⟨?_, ?_, ?_, ?_, ?_⟩ <;> kernel_rfl
theorem kind_of_wf {n : Int} (h : (Lit.int .i64 n).wf = true) : -9223372036854775808 ≤ n ∧ n ≤ 9223372036854775807 := by
  simpa [Lit.wf, IntKind.min, IntKind.max, IntKind.signed, IntKind.bits] using h
theorem num_of_wf {n : Int} (h : (Lit.int .u32 n).wf = true) : 0 ≤ n ∧ n < 4294967296 := by
  have : 0 ≤ n ∧ n ≤ 4294967295 := by simpa [Lit.wf, IntKind.min, IntKind.max, IntKind.signed, IntKind.bits] using h
  omega
set_option maxRecDepth 100000 in
theorem rp_of_trod {H : Type} {enc : TypeId × Value → H} {w : World} {fuel : Nat} {a : Option Addr} {len cap : Nat} {x : DataW H × List MemPlace}
    (h : DataW.trod enc Tryd.prog w 0 (fun _ => true) true fuel 45 [.slice a len cap] = some x) : ∃ ps, RP w (.slice a len cap) ps := by
  rcases Go.Deep.open_slice Tryd.underlying45 h with ⟨hcs, _⟩ | ⟨a', len', cap', m, n, D, Pl, hcs, _, hl, hm, hmm, _, hx⟩
  · simp at hcs
    obtain ⟨rfl, rfl, rfl⟩ := hcs
    exact ⟨[], by simp, none, 0, rfl, by simp, fun i hi => by simp at hi⟩
  · simp at hcs
    obtain ⟨rfl, rfl, rfl⟩ := hcs
    simp at hmm
    subst hmm
    have hspot : 0 < m → a'.spot = none := fun h0 => by
      obtain ⟨cs', h1, _⟩ := hx 0 h0
      rw [put_cells.1] at h1
      obtain ⟨_, hlen, hcell⟩ := World.cells?_some h1
      have h2 := hcell 0 (by omega)
      rw [List.getElem?_eq_getElem (by omega), Go.Deep.add_add] at h2
      simpa [Addr.add] using World.cell?_spot h2
    have each : ∀ i, i < m → ∃ q : (Int × Int × List UInt8) × Option Addr × Nat, ∃ b off, a' = ⟨b, off, none⟩ ∧ PutAt w b (off + i * 3) q.1.1 q.1.2.1 q.1.2.2 q.2.1 q.2.2 := by
      intro i hi
      obtain ⟨cs', h1, h2⟩ := hx i hi
      rw [put_cells.1] at h1
      obtain ⟨_, hlen, hcell⟩ := World.cells?_some h1
      obtain ⟨xs, k, hk, hxy, _, hxl, hf⟩ := DataW.trod_struct Tryd.underlying47 h2
      match xs, hxl, cs', hlen with
      | [y0, y1, y2], _, [v0, v1, v2], _ =>
        have g0 := hf 0 _ rfl
        have g1 := hf 1 _ rfl
        have g2 := hf 2 _ rfl
        obtain ⟨p1, p2, p3, p4, p5⟩ := put_cells
        simp [p2, p3, p4] at g0 g1 g2
        have e0 := hcell 0 (by omega)
        have e1 := hcell 1 (by omega)
        have e2 := hcell 2 (by omega)
        rw [Go.Deep.add_add] at e0 e1 e2
        obtain ⟨b, off, spot⟩ := a'
        obtain rfl : spot = none := hspot (by omega)
        simp [Addr.add_lit, ← Nat.add_assoc] at e0 e1 e2
        obtain ⟨kd, hv0, _, hw0⟩ := DataW.trod_int Tryd.underlying3 g0
        obtain ⟨nm, hv1, _, hw1⟩ := DataW.trod_int Tryd.underlying26 g1
        simp at hv0 hv1
        subst hv0 hv1
        have b0 := kind_of_wf hw0
        have b1 := num_of_wf hw1
        rcases open_ints Tryd.underlying23 Tryd.underlying5 p5 g2 with ⟨hcs, _⟩ | ⟨x, l, c, zs, hcs, _, hl, hm, hz, _, hc, hw⟩
        · simp at hcs
          subst hcs
          exact ⟨((kd, nm, []), none, 0), b, off, rfl, e0, e1, e2, RB.nil w _, b1.1, b1.2, b0.1, b0.2, by simp, by simp, fun _ => rfl⟩
        · simp at hcs
          subst hcs
          obtain ⟨lb, hlb⟩ := rb_of_ints hl hm (by simpa using hz) hc hw
          have hlb0 := hlb
          obtain ⟨_, A1, c1, e, _⟩ := hlb
          injection e with q1 q2 q3
          subst q2
          exact ⟨((kd, nm, lb), some x, c), b, off, rfl, e0, e1, e2, hlb0, b1.1, b1.2, b0.1, b0.2, hl, by simp only [maxLen] at hm; omega, fun h => by cases h⟩
    obtain ⟨f, hf⟩ := Go.Deep.choose_lt each
    refine ⟨(List.range len).map fun i => (f i).1, by simp only [maxLen] at hm; simp; omega, some a', m, by simp, by simp; exact hl, fun i hi => ?_⟩
    have hi' : i < len := by simpa using hi
    obtain ⟨b, off, rfl, hp⟩ := hf i (by omega)
    exact ⟨b, off, (f i).2.1, (f i).2.2, rfl, by simpa using hp⟩
end Go.Proofs.YtkgieciamophkaaDoor
