/-
  From what a call is handed to udp.Datagram. By an AI agent.
-/
import Derived.Test.YtfcfpkhcpijkfaaDoorDgB
import Derived.Test.YtfcfpkhcpijkfaaDoorOpen
import Derived.OpenShut
namespace Go.Proofs.YtfcfpkhcpijkfaaDoor
open Go.RowKit Go.ChangeShapes Go.WideShapes

theorem dg_open_cells : Tryd.prog.cellsOf 25 = 4 ∧ Tryd.prog.cellsOf 23 = 1 ∧ Tryd.prog.cellsOf 4 = 1 ∧ Tryd.prog.cellsOf 22 = 1 := by
  refine ⟨?_, ?_, ?_, ?_⟩ <;> kernel_rfl
set_option maxRecDepth 100000 in
set_option maxHeartbeats 1000000 in
theorem dg_open_trod {H : Type} {enc : TypeId × Value → H} {w : World} {m : Nat} {l : List Value} {y : DataW H × List MemPlace}
    (hf' : DataW.trod enc Tryd.prog w 0 (fun _ => true) true m 25 l = some y) : ∃ p A c, Dg.ok p ∧ dgv p (.slice A p.b.length c) = .agg l.toArray ∧ RB w (fun _ => True) (.slice A p.b.length c) p.b ∧ (A = none → c = 0) := by
  obtain ⟨xs, k, _, _, hlen, hxl, hel⟩ := DataW.trod_struct Tryd.underlying25 hf'
  rw [dg_open_cells.1] at hlen
  match xs, hxl with
  | [y0, y1, y2, y3], _ =>
    have g0 := hel 0 _ rfl
    have g1 := hel 1 _ rfl
    have g2 := hel 2 _ rfl
    have g3 := hel 3 _ rfl
    obtain ⟨_, p0, p1, p2⟩ := dg_open_cells
    simp [p0] at g0
    simp [p0] at g1
    simp [p1] at g2
    simp [p2] at g3
    obtain ⟨v0, hv0, _, hw0⟩ := DataW.trod_int Tryd.underlying23 g0
    have b0 : 0 ≤ v0 ∧ v0 ≤ 65535 := by simpa [Lit.wf, IntKind.min, IntKind.max, IntKind.signed, IntKind.bits] using hw0
    obtain ⟨v1, hv1, _, hw1⟩ := DataW.trod_int Tryd.underlying23 g1
    have b1 : 0 ≤ v1 ∧ v1 ≤ 65535 := by simpa [Lit.wf, IntKind.min, IntKind.max, IntKind.signed, IntKind.bits] using hw1
    obtain ⟨v2, hv2, _⟩ := DataW.trod_bool Tryd.underlying4 g2
    obtain ⟨A, len, c, lb, hv3, hrb, hz⟩ : ∃ A len c lb, (l.drop 3).take 1 = [.slice A len c] ∧ RB w (fun _ => True) (.slice A len c) lb ∧ (A = none → c = 0) := by
      rcases open_ints Tryd.underlying22 Tryd.underlying5 p2 g3 with ⟨hcs, _⟩ | ⟨x, len, c, zs, hcs, _, hl, hm, hz, _, hc, hw⟩
      · exact ⟨none, 0, 0, [], hcs, RB.nil w _, fun _ => rfl⟩
      · obtain ⟨lb, hlb⟩ := rb_of_ints hl hm (by simpa using hz) hc hw
        exact ⟨some x, len, c, lb, hcs, hlb, fun h => by cases h⟩
    have hln : len = lb.length := by obtain ⟨_, _, _, e, _⟩ := hrb; injection e
    subst hln
    refine ⟨⟨v0, v1, v2, lb⟩, A, c, ⟨b0, b1⟩, ?_, hrb, hz⟩
    have e1 : l = l.take 1 ++ (l.drop 1).take 1 ++ (l.drop 2).take 1 ++ (l.drop 3).take 1 := by
      match l, hlen with
      | [_, _, _, _], _ => rfl
    have e2 : l = [.int .u16 v0, .int .u16 v1, .bool v2, .slice A lb.length c] := by
      rw [e1, show l.take 1 = [.int .u16 v0] from hv0, show (l.drop 1).take 1 = [.int .u16 v1] by simpa using hv1, show (l.drop 2).take 1 = [.bool v2] by simpa using hv2, show (l.drop 3).take 1 = [.slice A lb.length c] by simpa using hv3]
      rfl
    rw [e2]
    rfl
set_option maxRecDepth 100000 in
theorem dg_open {H : Type} {enc : TypeId × Value → H} {w : World} {r : Reach} {base : Nat} {v : Value} {d : DataW H} {p : List MemPlace} (hv : Value.okWide Tryd.prog w r base 25 v)
    (h : DataW.Trod enc Tryd.prog w 0 (fun _ => true) true 25 v d p) : ∃ f A c, Dg.ok f ∧ v = dgv f (.slice A f.b.length c) ∧ RB w (fun _ => True) (.slice A f.b.length c) f.b ∧ (A = none → c = 0) := by
  obtain ⟨cs, rfl, hsz⟩ := okWide_struct Tryd.underlying25 hv
  obtain ⟨fuel, hf⟩ := h
  have hf' : DataW.trod enc Tryd.prog w 0 (fun _ => true) true fuel 25 cs.toList = some (d, p) := hf
  obtain ⟨f, A, c, ok, e, hrb, hz⟩ := dg_open_trod hf'
  exact ⟨f, A, c, ok, e.symm, hrb, hz⟩
end Go.Proofs.YtfcfpkhcpijkfaaDoor
