/-
  From what a call is handed to rows of ipv4.Packet. By an AI agent.
-/
import Derived.Test.YtfcfpkhcpijkfaaDoorOpenPk
import Derived.Test.YtfcfpkhcpijkfaaDoorLem01
import Derived.Deep.Slices
namespace Go.Proofs.YtfcfpkhcpijkfaaDoor
open Go.RowKit Go.ChangeShapes

instance : Inhabited Pk := ⟨⟨0, 0, false, false, 0, 0, 0, 0, 0, []⟩⟩
/-- the ten cells of one packet -/
def pcl (p : Pk) (v : Value) : List Value := [.int .u8 p.tos, .int .u16 p.id, .bool p.df, .bool p.mf, .int .i64 p.off, .int .u8 p.ttl, .int .u8 p.pr, .int .u32 p.src, .int .u32 p.dst, v]
theorem pcl_pkv (p : Pk) (v : Value) : pkv p v = .agg (pcl p v).toArray := rfl
structure PkAt (w : World) (b o : Nat) (p : Pk) (A : Option Addr) (c : Nat) : Prop where
  cells : ∀ k v, (pcl p (.slice A p.b.length c))[k]? = some v → w.cell? ⟨b, o + k, none⟩ = some v
  bytes : RB w (fun _ => True) (.slice A p.b.length c) p.b
  ok : p.ok
  none : A = none → c = 0
/-- The slice v reads as these packets. -/
def RPk (w : World) (v : Value) (ps : List Pk) : Prop :=
  ps.length ≤ 9223372036854775807 ∧ ∃ A c, v = .slice A ps.length c ∧ ps.length ≤ c ∧
    ∀ i (h : i < ps.length), ∃ b off A' c', A = some ⟨b, off, none⟩ ∧ PkAt w b (off + i * 10) ps[i] A' c'
theorem PkAt.keep {w w' : World} {b o c : Nat} {p : Pk} {A : Option Addr} (h : PkAt w b o p A c) (hx : Ex (fun _ => False) w w') : PkAt w' b o p A c :=
  ⟨fun k v hk => hx.cell (h.cells k v hk) id, h.bytes.keep hx (fun _ _ _ => id), h.ok, h.none⟩
theorem RPk.keep {w w' : World} {v : Value} {ps : List Pk} (h : RPk w v ps) (hx : Ex (fun _ => False) w w') : RPk w' v ps := by
  obtain ⟨h1, A, c, h2, h3, h4⟩ := h
  refine ⟨h1, A, c, h2, h3, fun i hi => ?_⟩
  obtain ⟨b, off, A', c', e, hp⟩ := h4 i hi
  exact ⟨b, off, A', c', e, hp.keep hx⟩
set_option maxRecDepth 100000 in
theorem rpk_of_trod {H : Type} {enc : TypeId × Value → H} {w : World} {fuel : Nat} {a : Option Addr} {len cap : Nat} {x : DataW H × List MemPlace}
    (h : DataW.trod enc Tryd.prog w 0 (fun _ => true) true fuel 70 [.slice a len cap] = some x) : ∃ ps, RPk w (.slice a len cap) ps := by
  rcases Go.Deep.open_slice Tryd.underlying70 h with ⟨hcs, _⟩ | ⟨a', len', cap', m, n, D, Pl, hcs, _, hl, hm, hmm, _, hx⟩
  · simp at hcs
    obtain ⟨rfl, rfl, rfl⟩ := hcs
    exact ⟨[], by simp, none, 0, rfl, by simp, fun i hi => by simp at hi⟩
  · simp at hcs
    obtain ⟨rfl, rfl, rfl⟩ := hcs
    simp at hmm
    subst hmm
    have hspot : 0 < m → a'.spot = none := fun h0 => by
      obtain ⟨cs', h1, _⟩ := hx 0 h0
      rw [pk_open_cells.1] at h1
      obtain ⟨_, hlen, hcell⟩ := World.cells?_some h1
      have h2 := hcell 0 (by omega)
      rw [List.getElem?_eq_getElem (by omega), Go.Deep.add_add] at h2
      simpa [Addr.add] using World.cell?_spot h2
    have each : ∀ i, i < m → ∃ q : Pk × Option Addr × Nat, ∃ b off, a' = ⟨b, off, none⟩ ∧ PkAt w b (off + i * 10) q.1 q.2.1 q.2.2 := by
      intro i hi
      obtain ⟨cs', h1, h2⟩ := hx i hi
      rw [pk_open_cells.1] at h1
      obtain ⟨_, hlen, hcell⟩ := World.cells?_some h1
      obtain ⟨p, A, c, hok, hpv, hrb, hz⟩ := pk_open_trod h2
      have hcs : cs' = pcl p (.slice A p.b.length c) := by
        rw [pcl_pkv] at hpv
        injection hpv with hpv
        exact (List.toArray_inj hpv).symm
      obtain ⟨b, off, spot⟩ := a'
      obtain rfl : spot = none := hspot (by omega)
      refine ⟨(p, A, c), b, off, rfl, fun k v hk => ?_, hrb, hok, hz⟩
      have hk' : k < 10 := by
        have := (List.getElem?_eq_some_iff.1 hk).1
        simpa [pcl] using this
      have h3 := hcell k (by omega)
      rw [hcs, Go.Deep.add_add] at h3
      rw [hk] at h3
      simpa [Addr.add_lit, ← Nat.add_assoc] using h3
    obtain ⟨f, hf⟩ := Go.Deep.choose_lt each
    refine ⟨(List.range len).map fun i => (f i).1, by simp only [maxLen] at hm; simp; omega, some a', m, by simp, by simp; exact hl, fun i hi => ?_⟩
    have hi' : i < len := by simpa using hi
    obtain ⟨b, off, rfl, hp⟩ := hf i (by omega)
    exact ⟨b, off, (f i).2.1, (f i).2.2, rfl, by simpa using hp⟩
end Go.Proofs.YtfcfpkhcpijkfaaDoor
