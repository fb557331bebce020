/-
  From what a call is handed to ipv4.Packet. By an AI agent.
-/
import Derived.Test.YtfcfpkhcpijkfaaDoorIpR
import Derived.Test.YtfcfpkhcpijkfaaDoorOpen
import Derived.OpenShut
namespace Go.Proofs.YtfcfpkhcpijkfaaDoor
open Go.RowKit Go.ChangeShapes Go.WideShapes

theorem pk_open_cells : Tryd.prog.cellsOf 51 = 10 ∧ Tryd.prog.cellsOf 5 = 1 ∧ Tryd.prog.cellsOf 23 = 1 ∧ Tryd.prog.cellsOf 4 = 1 ∧ Tryd.prog.cellsOf 3 = 1 ∧ Tryd.prog.cellsOf 32 = 1 ∧ Tryd.prog.cellsOf 22 = 1 := by
  refine ⟨?_, ?_, ?_, ?_, ?_, ?_, ?_⟩ <;> kernel_rfl
set_option maxRecDepth 100000 in
set_option maxHeartbeats 1000000 in
theorem pk_open_trod {H : Type} {enc : TypeId × Value → H} {w : World} {m : Nat} {l : List Value} {y : DataW H × List MemPlace}
    (hf' : DataW.trod enc Tryd.prog w 0 (fun _ => true) true m 51 l = some y) : ∃ p A c, Pk.ok p ∧ pkv p (.slice A p.b.length c) = .agg l.toArray ∧ RB w (fun _ => True) (.slice A p.b.length c) p.b ∧ (A = none → c = 0) := by
  obtain ⟨xs, k, _, _, hlen, hxl, hel⟩ := DataW.trod_struct Tryd.underlying51 hf'
  rw [pk_open_cells.1] at hlen
  match xs, hxl with
  | [y0, y1, y2, y3, y4, y5, y6, y7, y8, y9], _ =>
    have g0 := hel 0 _ rfl
    have g1 := hel 1 _ rfl
    have g2 := hel 2 _ rfl
    have g3 := hel 3 _ rfl
    have g4 := hel 4 _ rfl
    have g5 := hel 5 _ rfl
    have g6 := hel 6 _ rfl
    have g7 := hel 7 _ rfl
    have g8 := hel 8 _ rfl
    have g9 := hel 9 _ rfl
    obtain ⟨_, p0, p1, p2, p3, p4, p5⟩ := pk_open_cells
    simp [p0] at g0
    simp [p1] at g1
    simp [p2] at g2
    simp [p2] at g3
    simp [p3] at g4
    simp [p0] at g5
    simp [p0] at g6
    simp [p4] at g7
    simp [p4] at g8
    simp [p5] at g9
    obtain ⟨v0, hv0, _, hw0⟩ := DataW.trod_int Tryd.underlying5 g0
    have b0 : 0 ≤ v0 ∧ v0 ≤ 255 := by simpa [Lit.wf, IntKind.min, IntKind.max, IntKind.signed, IntKind.bits] using hw0
    obtain ⟨v1, hv1, _, hw1⟩ := DataW.trod_int Tryd.underlying23 g1
    have b1 : 0 ≤ v1 ∧ v1 ≤ 65535 := by simpa [Lit.wf, IntKind.min, IntKind.max, IntKind.signed, IntKind.bits] using hw1
    obtain ⟨v2, hv2, _⟩ := DataW.trod_bool Tryd.underlying4 g2
    obtain ⟨v3, hv3, _⟩ := DataW.trod_bool Tryd.underlying4 g3
    obtain ⟨v4, hv4, _, hw4⟩ := DataW.trod_int Tryd.underlying3 g4
    have b4 : -9223372036854775808 ≤ v4 ∧ v4 ≤ 9223372036854775807 := by simpa [Lit.wf, IntKind.min, IntKind.max, IntKind.signed, IntKind.bits] using hw4
    obtain ⟨v5, hv5, _, hw5⟩ := DataW.trod_int Tryd.underlying5 g5
    have b5 : 0 ≤ v5 ∧ v5 ≤ 255 := by simpa [Lit.wf, IntKind.min, IntKind.max, IntKind.signed, IntKind.bits] using hw5
    obtain ⟨v6, hv6, _, hw6⟩ := DataW.trod_int Tryd.underlying5 g6
    have b6 : 0 ≤ v6 ∧ v6 ≤ 255 := by simpa [Lit.wf, IntKind.min, IntKind.max, IntKind.signed, IntKind.bits] using hw6
    obtain ⟨v7, hv7, _, hw7⟩ := DataW.trod_int Tryd.underlying32 g7
    have b7 : 0 ≤ v7 ∧ v7 ≤ 4294967295 := by simpa [Lit.wf, IntKind.min, IntKind.max, IntKind.signed, IntKind.bits] using hw7
    obtain ⟨v8, hv8, _, hw8⟩ := DataW.trod_int Tryd.underlying32 g8
    have b8 : 0 ≤ v8 ∧ v8 ≤ 4294967295 := by simpa [Lit.wf, IntKind.min, IntKind.max, IntKind.signed, IntKind.bits] using hw8
    obtain ⟨A, len, c, lb, hv9, hrb, hz⟩ : ∃ A len c lb, (l.drop 9).take 1 = [.slice A len c] ∧ RB w (fun _ => True) (.slice A len c) lb ∧ (A = none → c = 0) := by
      rcases open_ints Tryd.underlying22 Tryd.underlying5 p5 g9 with ⟨hcs, _⟩ | ⟨x, len, c, zs, hcs, _, hl, hm, hz, _, hc, hw⟩
      · exact ⟨none, 0, 0, [], hcs, RB.nil w _, fun _ => rfl⟩
      · obtain ⟨lb, hlb⟩ := rb_of_ints hl hm (by simpa using hz) hc hw
        exact ⟨some x, len, c, lb, hcs, hlb, fun h => by cases h⟩
    have hln : len = lb.length := by obtain ⟨_, _, _, e, _⟩ := hrb; injection e
    subst hln
    refine ⟨⟨v0, v1, v2, v3, v4, v5, v6, v7, v8, lb⟩, A, c, ⟨b0, b1, b4, b5, b6, b7, b8⟩, ?_, hrb, hz⟩
    have e1 : l = l.take 1 ++ (l.drop 1).take 1 ++ (l.drop 2).take 1 ++ (l.drop 3).take 1 ++ (l.drop 4).take 1 ++ (l.drop 5).take 1 ++ (l.drop 6).take 1 ++ (l.drop 7).take 1 ++ (l.drop 8).take 1 ++ (l.drop 9).take 1 := by
      match l, hlen with
      | [_, _, _, _, _, _, _, _, _, _], _ => rfl
    have e2 : l = [.int .u8 v0, .int .u16 v1, .bool v2, .bool v3, .int .i64 v4, .int .u8 v5, .int .u8 v6, .int .u32 v7, .int .u32 v8, .slice A lb.length c] := by
      rw [e1, show l.take 1 = [.int .u8 v0] from hv0, show (l.drop 1).take 1 = [.int .u16 v1] by simpa using hv1, show (l.drop 2).take 1 = [.bool v2] by simpa using hv2, show (l.drop 3).take 1 = [.bool v3] by simpa using hv3, show (l.drop 4).take 1 = [.int .i64 v4] by simpa using hv4, show (l.drop 5).take 1 = [.int .u8 v5] by simpa using hv5, show (l.drop 6).take 1 = [.int .u8 v6] by simpa using hv6, show (l.drop 7).take 1 = [.int .u32 v7] by simpa using hv7, show (l.drop 8).take 1 = [.int .u32 v8] by simpa using hv8, show (l.drop 9).take 1 = [.slice A lb.length c] by simpa using hv9]
      rfl
    rw [e2]
    rfl
set_option maxRecDepth 100000 in
theorem pk_open {H : Type} {enc : TypeId × Value → H} {w : World} {r : Reach} {base : Nat} {v : Value} {d : DataW H} {p : List MemPlace} (hv : Value.okWide Tryd.prog w r base 51 v)
    (h : DataW.Trod enc Tryd.prog w 0 (fun _ => true) true 51 v d p) : ∃ f A c, Pk.ok f ∧ v = pkv f (.slice A f.b.length c) ∧ RB w (fun _ => True) (.slice A f.b.length c) f.b ∧ (A = none → c = 0) := by
  obtain ⟨cs, rfl, hsz⟩ := okWide_struct Tryd.underlying51 hv
  obtain ⟨fuel, hf⟩ := h
  have hf' : DataW.trod enc Tryd.prog w 0 (fun _ => true) true fuel 51 cs.toList = some (d, p) := hf
  obtain ⟨f, A, c, ok, e, hrb, hz⟩ := pk_open_trod hf'
  exact ⟨f, A, c, ok, e.symm, hrb, hz⟩
end Go.Proofs.YtfcfpkhcpijkfaaDoor
