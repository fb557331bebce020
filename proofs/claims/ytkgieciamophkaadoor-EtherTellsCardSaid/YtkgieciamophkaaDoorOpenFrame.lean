/-
  From what a call is handed to addresses and frames. By an AI agent.
-/
import Derived.Test.YtkgieciamophkaaDoorOf03
import Derived.Test.YtkgieciamophkaaDoorOpen
import Derived.OpenShut
namespace Go.Proofs.YtkgieciamophkaaDoor
open Go.RowKit Go.ChangeShapes Go.WideShapes

theorem fr_cells : Tryd.prog.cellsOf 76 = 15 ∧ Tryd.prog.cellsOf 74 = 6 ∧ Tryd.prog.cellsOf 3 = 1 ∧ Tryd.prog.cellsOf 31 = 1 ∧ Tryd.prog.cellsOf 23 = 1 ∧ Tryd.prog.cellsOf 5 = 1 := by
  refine ⟨?_, ?_, ?_, ?_, ?_, ?_⟩ <;> kernel_rfl
set_option maxRecDepth 100000 in
theorem okw_array {r : Reach} {base : Nat} {W : World} {v : Value} (h : Value.okWide Tryd.prog W r base 74 v) : ∃ cs, v = .agg cs := by
  simp only [Value.okWide, Tryd.underlying74] at h
  obtain ⟨cs, h1, _⟩ := h
  exact ⟨cs, h1⟩
set_option maxRecDepth 100000 in
theorem mac_of_trod {H : Type} {enc : TypeId × Value → H} {w : World} {m : Nat} {l : List Value} {y : DataW H × List MemPlace}
    (h : DataW.trod enc Tryd.prog w 0 (fun _ => true) true m 74 l = some y) : ∃ d : List UInt8, d.length = 6 ∧ l = d.map u8v := by
  obtain ⟨xs, k, _, _, hlen, hxl, hel⟩ := DataW.trod_array Tryd.underlying74 h
  rw [fr_cells.2.1] at hlen
  have each : ∀ i, i < 6 → ∃ b : UInt8, l[i]? = some (u8v b) := by
    intro i hi
    have h1 := hel i hi
    rw [fr_cells.2.2.2.2.2, Nat.mul_one, List.getElem?_eq_getElem (by omega)] at h1
    obtain ⟨n, hv, _, hw⟩ := DataW.trod_int Tryd.underlying5 h1
    have hb := byte_of_wf hw
    have h2 : ((l.drop i).take 1)[0]? = some (.int .u8 n) := by rw [hv]; rfl
    rw [List.getElem?_take_of_lt (by decide), List.getElem?_drop] at h2
    exact ⟨by8 n, by rw [u8v, hb]; exact h2⟩
  match l, hlen, each with
  | [v0, v1, v2, v3, v4, v5], _, each =>
    obtain ⟨b0, e0⟩ := each 0 (by decide)
    obtain ⟨b1, e1⟩ := each 1 (by decide)
    obtain ⟨b2, e2⟩ := each 2 (by decide)
    obtain ⟨b3, e3⟩ := each 3 (by decide)
    obtain ⟨b4, e4⟩ := each 4 (by decide)
    obtain ⟨b5, e5⟩ := each 5 (by decide)
    simp at e0 e1 e2 e3 e4 e5
    exact ⟨[b0, b1, b2, b3, b4, b5], rfl, by simp [e0, e1, e2, e3, e4, e5]⟩
set_option maxRecDepth 100000 in
theorem mac_open {H : Type} {enc : TypeId × Value → H} {w : World} {r : Reach} {base : Nat} {v : Value} {d : DataW H} {p : List MemPlace} (hv : Value.okWide Tryd.prog w r base 74 v)
    (h : DataW.Trod enc Tryd.prog w 0 (fun _ => true) true 74 v d p) : ∃ a0 a1 a2 a3 a4 a5 : UInt8, v = .agg #[.int .u8 (a0.toNat : Int), .int .u8 (a1.toNat : Int), .int .u8 (a2.toNat : Int), .int .u8 (a3.toNat : Int), .int .u8 (a4.toNat : Int), .int .u8 (a5.toNat : Int)] := by
  obtain ⟨cs, rfl⟩ := okw_array hv
  obtain ⟨fuel, hf⟩ := h
  obtain ⟨d', hd, hcs⟩ := mac_of_trod hf
  obtain ⟨a0, a1, a2, a3, a4, a5, rfl⟩ := six_is hd
  refine ⟨a0, a1, a2, a3, a4, a5, ?_⟩
  have : cs = ([a0, a1, a2, a3, a4, a5].map u8v).toArray := by
    apply Array.toList_inj.1
    exact hcs
  rw [this]
  rfl
set_option maxRecDepth 100000 in
theorem fr_open {H : Type} {enc : TypeId × Value → H} {w : World} {r : Reach} {base : Nat} {v : Value} {d : DataW H} {p : List MemPlace} (hv : Value.okWide Tryd.prog w r base 76 v)
    (h : DataW.Trod enc Tryd.prog w 0 (fun _ => true) true 76 v d p) : ∃ f A c, Fr.ok f ∧ v = frv f (.slice A f.b.length c) ∧ RB w (fun _ => True) (.slice A f.b.length c) f.b ∧ (A = none → c = 0) := by
  obtain ⟨cs, rfl, hsz⟩ := okWide_struct Tryd.underlying76 hv
  rw [fr_cells.1] at hsz
  obtain ⟨fuel, hf⟩ := h
  have hf' : DataW.trod enc Tryd.prog w 0 (fun _ => true) true fuel 76 cs.toList = some (d, p) := hf
  obtain ⟨xs, k, _, _, hlen, hxl, hel⟩ := DataW.trod_struct Tryd.underlying76 hf'
  have hl15 : cs.toList.length = 15 := by simpa using hsz
  match xs, hxl with
  | [y0, y1, y2, y3, y4], _ =>
    have g0 := hel 0 _ rfl
    have g1 := hel 1 _ rfl
    have g2 := hel 2 _ rfl
    have g3 := hel 3 _ rfl
    have g4 := hel 4 _ rfl
    obtain ⟨_, p1, p2, p3, p4, p5⟩ := fr_cells
    simp [p1] at g0 g1
    simp [p2] at g2
    simp [p3] at g3
    simp [p4] at g4
    obtain ⟨l, hl⟩ : ∃ l, l = cs.toList := ⟨_, rfl⟩
    rw [← hl] at g0 g1 g2 g3 g4 hl15
    obtain ⟨dd, hd1, hd2⟩ := mac_of_trod g0
    obtain ⟨ss, hs1, hs2⟩ := mac_of_trod g1
    obtain ⟨vl, hv2, _, hw2⟩ := DataW.trod_int Tryd.underlying3 g2
    obtain ⟨ty, hv3, _, hw3⟩ := DataW.trod_int Tryd.underlying31 g3
    have b2 : -9223372036854775808 ≤ vl ∧ vl ≤ 9223372036854775807 := by simpa [Lit.wf, IntKind.min, IntKind.max, IntKind.signed, IntKind.bits] using hw2
    have b3 : 0 ≤ ty ∧ ty ≤ 65535 := by simpa [Lit.wf, IntKind.min, IntKind.max, IntKind.signed, IntKind.bits] using hw3
    obtain ⟨tn, rfl⟩ := Int.eq_ofNat_of_zero_le b3.1
    obtain ⟨A, len, c, lb, hv4, hrb, hz⟩ : ∃ A len c lb, (l.drop 14).take 1 = [.slice A len c] ∧ RB w (fun _ => True) (.slice A len c) lb ∧ (A = none → c = 0) := by
      rcases open_ints Tryd.underlying23 Tryd.underlying5 p5 g4 with ⟨hcs, _⟩ | ⟨x, len, c, zs, hcs, _, hl, hm, hz, _, hc, hw⟩
      · exact ⟨none, 0, 0, [], hcs, RB.nil w _, fun _ => rfl⟩
      · obtain ⟨lb, hlb⟩ := rb_of_ints hl hm (by simpa using hz) hc hw
        exact ⟨some x, len, c, lb, hcs, hlb, fun h => by cases h⟩
    have hln : len = lb.length := by obtain ⟨_, _, _, e, _⟩ := hrb; injection e
    subst hln
    refine ⟨⟨dd, ss, vl, tn, lb⟩, A, c, ⟨hd1, hs1, b2.1, b2.2, by show tn < 65536; omega⟩, ?_, hrb, hz⟩
    have e1 : l = l.take 6 ++ ((l.drop 6).take 6 ++ ((l.drop 12).take 1 ++ ((l.drop 13).take 1 ++ (l.drop 14).take 1))) := by
      match l, hl15 with
      | [_, _, _, _, _, _, _, _, _, _, _, _, _, _, _], _ => rfl
    have e2 : cs = (dd.map u8v ++ (ss.map u8v ++ ([Value.int .i64 vl] ++ ([Value.int .u16 (tn : Int)] ++ [Value.slice A lb.length c])))).toArray := by
      apply Array.toList_inj.1
      rw [← hl, e1, hs2, hv2, hv4]
      have h0 : l.take 6 = dd.map u8v := hd2
      rw [h0]
      have h3 : (l.drop 13).take 1 = [.int .u16 (tn : Int)] := hv3
      rw [h3]
    rw [e2]
    simp [frv]
end Go.Proofs.YtkgieciamophkaaDoor
