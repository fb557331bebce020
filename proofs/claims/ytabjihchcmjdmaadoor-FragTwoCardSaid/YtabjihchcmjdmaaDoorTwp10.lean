/-
  Two packets whose parts come by turns: the plain law of FragTwo. By an AI agent.
-/
import Derived.Test.YtabjihchcmjdmaaDoorGi10
namespace Go.Proofs.YtabjihchcmjdmaaDoor
open Go.RowKit

/-- the parts that wait of a packet a parts of which came -/
def wait (p : Pk) (z n a : Nat) : List Pk := if a < n then (List.range a).map (pti p z n) else []
/-- of two packets a and b parts came -/
def TwoS (w : World) (B rb bm : Nat) (tm : Int) (p q : Pk) (z n a z' n' b : Nat) : Prop :=
  ∃ G, RS w B rb bm tm G ∧ (∀ h ∈ G, h.k = kb p ∨ h.k = kb q) ∧ hl G (kb p) = wait p z n a ∧ hl G (kb q) = wait q z' n' b
theorem TwoS.swap {w : World} {B rb bm : Nat} {tm : Int} {p q : Pk} {z n a z' n' b : Nat} (h : TwoS w B rb bm tm p q z n a z' n' b) : TwoS w B rb bm tm q p z' n' b z n a := by
  obtain ⟨G, h1, h2, h3, h4⟩ := h
  exact ⟨G, h1, fun x hx => (h2 x hx).symm, h4, h3⟩
theorem TwoS.keep {w w' : World} {B rb bm : Nat} {tm : Int} {p q : Pk} {z n a z' n' b : Nat} (h : TwoS w B rb bm tm p q z n a z' n' b) (hx : Ex (fun _ => False) w w') : TwoS w' B rb bm tm p q z n a z' n' b := by
  obtain ⟨G, h1, h2⟩ := h
  exact ⟨G, h1.keep hx, h2⟩
theorem TwoS.start {w : World} {B rb bm : Nat} {tm : Int} (p q : Pk) (z n z' n' : Nat) (h : RS w B rb bm tm []) : TwoS w B rb bm tm p q z n 0 z' n' 0 := by
  refine ⟨[], h, fun x hx => by simp at hx, ?_, ?_⟩
  · unfold wait; split <;> rfl
  · unfold wait; split <;> rfl
theorem TwoS.done {w : World} {B rb bm : Nat} {tm : Int} {p q : Pk} {z n z' n' : Nat} (h : TwoS w B rb bm tm p q z n n z' n' n') : RS w B rb bm tm [] := by
  obtain ⟨G, h1, h2, h3, h4⟩ := h
  unfold wait at h3 h4
  rw [if_neg (Nat.lt_irrefl _)] at h3 h4
  have : G = [] := hl_none h1 (fun x hx => by rcases h2 x hx with e | e <;> rw [e] <;> assumption)
  rw [this] at h1
  exact h1
theorem pti_one {p : Pk} {m : Int} {z : Nat} {l : List Pk} (h : PD p m z 1 l) : pti p z 1 0 = p := by
  have h1 := h.cov
  unfold pti
  obtain ⟨tos, ident, df, mf, off, ttl, pr, src, dst, b⟩ := p
  simp only [Nat.zero_mul, List.drop_zero, Nat.zero_add, Nat.lt_irrefl, decide_false, Bool.or_false]
  simp only [Nat.one_mul] at h1
  rw [List.take_of_length_le h1]
  simp
/-- Take of p's next part -/
theorem two_take {p q : Pk} {m : Int} {z n a z' n' b : Nat} (hpd : PD p m z n (parts p m)) (hn : n ≤ 42) (ok : p.ok) (hp0 : p.off = 0) (hpm : p.mf = false) (hr : p.right = 0) (hl2 : p.b.length ≤ 2000) (hne : kb p ≠ kb q) (ha : a < n)
    (x : Pk) (hxe : x = pti p z n a) (A : Option Addr) (c : Nat) (now : Int) (B rb bm : Nat) (tm : Int) (w : World) (hs : TwoS w B rb bm tm p q z n a z' n' b) (hrb : RB w (fun _ => True) (.slice A x.b.length c) x.b) (hA : A = none → c = 0) :
    Calls Tryd.prog 19 #[.pointer (some ⟨rb, 0, none⟩), pkv x (.slice A x.b.length c), .int .u64 now] w fun e w' => TwoS w' B rb bm tm p q z n (a + 1) z' n' b ∧ Up B w w' ∧
      ((a + 1 < n ∧ e = .returned (.tuple #[ZPK, .bool false, .nilIface])) ∨ (a + 1 = n ∧ ∃ A' c', e = .returned (.tuple #[pkv p (.slice A' p.b.length c'), .bool true, .nilIface]) ∧ OB w' w.heap.size (.slice A' p.b.length c') p.b)) := by
  subst hxe
  obtain ⟨G, h1, h2, h3, h4⟩ := hs
  have hbl : (pti p z n a).b.length ≤ 100000 := by rw [(hpd.place ha).2.2]; omega
  by_cases h1n : n = 1
  · subst h1n
    obtain rfl : a = 0 := by omega
    have hp := pti_one hpd
    rw [hp] at hrb hbl ⊢
    refine (take_one p A c now B rb bm tm G w h1 ok hrb hA hbl hr hp0 hpm).mono ?_
    rintro e w' ⟨A', c', rfl, hob, hrs, hx⟩
    refine ⟨⟨G, hrs, h2, ?_, h4⟩, hx.mono (fun _ _ h => h.elim), .inr ⟨rfl, A', c', rfl, hob⟩⟩
    rw [h3]
    unfold wait
    simp
  · have hlen := len_two h1.apart h2
    have hpos := hpd.pos
    have hw : wait p z n a = (List.range a).map (pti p z n) := by unfold wait; rw [if_pos ha]
    rw [hw] at h3
    refine (take_part p (pti p z n a) A c now B rb bm tm G w h1 (hpd.ok ok hr ha) hrb hA hbl hp0 hpm (hpd.isPart hp0 hpm ha) (hpd.right hr ha) (hpd.apart hp0 (by omega)) (fun y hy => ?_) (by rw [h3, List.length_map, List.length_range]; omega) (by omega)).mono ?_
    · rw [h3] at hy
      obtain ⟨i, hi, rfl⟩ := List.mem_map.1 hy
      exact hpd.isPart hp0 hpm (by have := List.mem_range.1 hi; omega)
    · rintro e w' ⟨G', hpp, hcase⟩
      have hsn : hl G (kb p) ++ [pti p z n a] = (List.range (a + 1)).map (pti p z n) := by
        rw [h3, List.range_succ, List.map_append]
        rfl
      rw [hsn] at hcase
      have hkeys : ∀ h ∈ G', h.k = kb p ∨ h.k = kb q := fun h hh => by
        rcases hpp.keys h hh with e | ⟨h0, hh0, e⟩
        · exact .inl e
        · rw [e]; exact h2 h0 hh0
      have hoth : hl G' (kb q) = wait q z' n' b := (hpp.others (kb q) hne.symm).trans h4
      rcases hcase with ⟨hnc, hl', rfl⟩ | ⟨hc, hl', A', c', rfl, hob⟩
      · have han : a + 1 < n := by
          apply Classical.byContradiction
          intro hh
          refine hnc (hpd.full hp0 (fun i hi => ?_))
          exact List.mem_map_of_mem (List.mem_range.2 (by omega))
        refine ⟨⟨G', hpp.rs, hkeys, ?_, hoth⟩, hpp.up, .inl ⟨han, rfl⟩⟩
        rw [hl']
        unfold wait
        rw [if_pos han]
      · have han : a + 1 = n := by
          apply Classical.byContradiction
          intro hh
          refine absurd hc (hpd.gap (g := n - 1) hp0 (by omega) (by omega) (fun x hx => ?_))
          obtain ⟨i, hi, rfl⟩ := List.mem_map.1 hx
          have := List.mem_range.1 hi
          exact ⟨i, by omega, by omega, rfl⟩
        refine ⟨⟨G', hpp.rs, hkeys, ?_, hoth⟩, hpp.up, .inr ⟨han, A', c', rfl, hob⟩⟩
        rw [hl']
        unfold wait
        rw [if_neg (by omega)]
end Go.Proofs.YtabjihchcmjdmaaDoor
