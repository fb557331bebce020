/-
  From what a call is handed to rows of steps (a kind, a packet, a time). By an AI agent.
-/
import Derived.Test.YtabjihchcmjdmaaDoorGb10
namespace Go.Proofs.YtabjihchcmjdmaaDoor
open Go.RowKit Go.ChangeShapes

structure StAt (w : World) (b o : Nat) (kd : Int) (p : Pk) (nw : Int) (A : Option Addr) (c : Nat) : Prop where
  kind : w.cell? ⟨b, o, none⟩ = some (.int .i64 kd)
  pk : PkAt w b (o + 1) p A c
  now : w.cell? ⟨b, o + 11, none⟩ = some (.int .u64 nw)
  nb : 0 ≤ nw ∧ nw ≤ 18446744073709551615
/-- The slice v reads as these steps. -/
def RSt (w : World) (v : Value) (l : List (Int × Pk × Int)) : Prop :=
  l.length ≤ 9223372036854775807 ∧ ∃ A c, v = .slice A l.length c ∧ l.length ≤ c ∧
    ∀ i (h : i < l.length), ∃ b off A' c', A = some ⟨b, off, none⟩ ∧ StAt w b (off + i * 12) l[i].1 l[i].2.1 l[i].2.2 A' c'
theorem StAt.keep {w w' : World} {b o c : Nat} {kd nw : Int} {p : Pk} {A : Option Addr} (h : StAt w b o kd p nw A c) (hx : Ex (fun _ => False) w w') : StAt w' b o kd p nw A c :=
  ⟨hx.cell h.kind id, h.pk.keep hx, hx.cell h.now id, h.nb⟩
theorem RSt.keep {w w' : World} {v : Value} {ps : List (Int × Pk × Int)} (h : RSt w v ps) (hx : Ex (fun _ => False) w w') : RSt w' v ps := by
  obtain ⟨h1, A, c, h2, h3, h4⟩ := h
  refine ⟨h1, A, c, h2, h3, fun i hi => ?_⟩
  obtain ⟨b, off, A', c', e, hp⟩ := h4 i hi
  exact ⟨b, off, A', c', e, hp.keep hx⟩
theorem st_open_cells : Tryd.prog.cellsOf 55 = 12 ∧ Tryd.prog.cellsOf 47 = 1 := by
  refine ⟨?_, ?_⟩ <;> kernel_rfl
set_option maxRecDepth 100000 in
set_option maxHeartbeats 1000000 in
theorem st_open_trod {H : Type} {enc : TypeId × Value → H} {w : World} {m : Nat} {l : List Value} {y : DataW H × List MemPlace}
    (hf' : DataW.trod enc Tryd.prog w 0 (fun _ => true) true m 55 l = some y) :
    ∃ kd p A c nw, Pk.ok p ∧ l = .int .i64 kd :: (pcl p (.slice A p.b.length c) ++ [.int .u64 nw]) ∧ RB w (fun _ => True) (.slice A p.b.length c) p.b ∧ (A = none → c = 0) ∧ (0 ≤ nw ∧ nw ≤ 18446744073709551615) := by
  obtain ⟨xs, k, _, _, hlen, hxl, hel⟩ := DataW.trod_struct Tryd.underlying55 hf'
  rw [st_open_cells.1] at hlen
  match xs, hxl with
  | [y0, y1, y2], _ =>
    have g0 := hel 0 _ rfl
    have g1 := hel 1 _ rfl
    have g2 := hel 2 _ rfl
    have p0 := pk_open_cells.2.2.2.2.1
    have p1 := pk_open_cells.1
    have p2 := st_open_cells.2
    simp [p0] at g0
    simp [p1] at g1
    simp [p2] at g2
    obtain ⟨v0, hv0, _, hw0⟩ := DataW.trod_int Tryd.underlying3 g0
    obtain ⟨p, A, c, hok, hpv, hrb, hz⟩ := pk_open_trod g1
    obtain ⟨v2, hv2, _, hw2⟩ := DataW.trod_int Tryd.underlying47 g2
    have b2 : 0 ≤ v2 ∧ v2 ≤ 18446744073709551615 := by simpa [Lit.wf, IntKind.min, IntKind.max, IntKind.signed, IntKind.bits] using hw2
    refine ⟨v0, p, A, c, v2, hok, ?_, hrb, hz, b2⟩
    rw [pcl_pkv] at hpv
    injection hpv with hpv
    have hpv' := List.toArray_inj hpv
    have e1 : l = l.take 1 ++ (l.drop 1).take 10 ++ (l.drop 11).take 1 := by
      match l, hlen with
      | [_, _, _, _, _, _, _, _, _, _, _, _], _ => rfl
    rw [e1, show l.take 1 = [.int .i64 v0] from hv0, show (l.drop 1).take 10 = pcl p (.slice A p.b.length c) by simpa using hpv'.symm, show (l.drop 11).take 1 = [.int .u64 v2] by simpa using hv2]
    rfl
set_option maxRecDepth 100000 in
theorem rst_of_trod {H : Type} {enc : TypeId × Value → H} {w : World} {fuel : Nat} {a : Option Addr} {len cap : Nat} {x : DataW H × List MemPlace}
    (h : DataW.trod enc Tryd.prog w 0 (fun _ => true) true fuel 53 [.slice a len cap] = some x) : ∃ ps, RSt w (.slice a len cap) ps := by
  rcases Go.Deep.open_slice Tryd.underlying53 h with ⟨hcs, _⟩ | ⟨a', len', cap', m, n, D, Pl, hcs, _, hl, hm, hmm, _, hx⟩
  · simp at hcs
    obtain ⟨rfl, rfl, rfl⟩ := hcs
    exact ⟨[], by simp, none, 0, rfl, by simp, fun i hi => by simp at hi⟩
  · simp at hcs
    obtain ⟨rfl, rfl, rfl⟩ := hcs
    simp at hmm
    subst hmm
    have hspot : 0 < m → a'.spot = none := fun h0 => by
      obtain ⟨cs', h1, _⟩ := hx 0 h0
      rw [st_open_cells.1] at h1
      obtain ⟨_, hlen, hcell⟩ := World.cells?_some h1
      have h2 := hcell 0 (by omega)
      rw [List.getElem?_eq_getElem (by omega), Go.Deep.add_add] at h2
      simpa [Addr.add] using World.cell?_spot h2
    have each : ∀ i, i < m → ∃ q : (Int × Pk × Int) × Option Addr × Nat, ∃ b off, a' = ⟨b, off, none⟩ ∧ StAt w b (off + i * 12) q.1.1 q.1.2.1 q.1.2.2 q.2.1 q.2.2 := by
      intro i hi
      obtain ⟨cs', h1, h2⟩ := hx i hi
      rw [st_open_cells.1] at h1
      obtain ⟨_, hlen, hcell⟩ := World.cells?_some h1
      obtain ⟨kd, p, A, c, nw, hok, hcs, hrb, hz, hnb⟩ := st_open_trod h2
      obtain ⟨b, off, spot⟩ := a'
      obtain rfl : spot = none := hspot (by omega)
      have hat : ∀ k v, (.int .i64 kd :: (pcl p (.slice A p.b.length c) ++ [.int .u64 nw]) : List Value)[k]? = some v → w.cell? ⟨b, off + i * 12 + k, none⟩ = some v := by
        intro k v hk
        have hk' : k < 12 := by
          have := (List.getElem?_eq_some_iff.1 hk).1
          simpa [pcl] using this
        have h3 := hcell k (by omega)
        rw [hcs, Go.Deep.add_add] at h3
        rw [hk] at h3
        simpa [Addr.add_lit, ← Nat.add_assoc] using h3
      refine ⟨((kd, p, nw), A, c), b, off, rfl, hat 0 _ rfl, ⟨fun k v hk => ?_, hrb, hok, hz⟩, hat 11 _ rfl, hnb⟩
      have hk' : k < 10 := by
        have := (List.getElem?_eq_some_iff.1 hk).1
        simpa [pcl] using this
      have := hat (k + 1) v (by rw [List.getElem?_cons_succ, List.getElem?_append_left (by simpa [pcl] using hk')]; exact hk)
      rwa [show off + i * 12 + 1 + k = off + i * 12 + (k + 1) by omega]
    obtain ⟨f, hf⟩ := Go.Deep.choose_lt each
    refine ⟨(List.range len).map fun i => (f i).1, by simp only [maxLen] at hm; simp; omega, some a', m, by simp, by simp; exact hl, fun i hi => ?_⟩
    have hi' : i < len := by simpa using hi
    obtain ⟨b, off, rfl, hp⟩ := hf i (by omega)
    exact ⟨b, off, (f i).2.1, (f i).2.2, rfl, by simpa using hp⟩
end Go.Proofs.YtabjihchcmjdmaaDoor
