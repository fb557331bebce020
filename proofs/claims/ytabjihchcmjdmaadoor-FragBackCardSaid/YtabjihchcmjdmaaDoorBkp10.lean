/-
  Pieces of a packet, in whatever order, and some of them twice: the plain law of FragBack. By an AI agent.
-/
import Derived.Test.YtabjihchcmjdmaaDoorGi10
namespace Go.Proofs.YtabjihchcmjdmaaDoor
open Go.RowKit

/-- x covers place k -/
abbrev Cvs (x : Pk) (k : Nat) : Prop := x.off ≤ (k : Int) ∧ (k : Int) < x.en
abbrev Aprt (P : List Pk) : Prop := P.Pairwise (fun x y => ∀ k : Nat, ¬ (Cvs x k ∧ Cvs y k))
/-- all pieces of p -/
structure Pcs (p : Pk) (P : List Pk) : Prop where
  part : ∀ x ∈ P, Part p x ∧ x.right = 0 ∧ x.ok
  apart : Aprt P
  cov : Cov p P
  some : P.length ≠ 1 → ∀ x ∈ P, 0 < x.b.length ∧ ¬ (x.off = 0 ∧ x.mf = false)
  one : P.length = 1 → P = [p]
  pos : 1 ≤ P.length
  len : P.length ≤ 83
theorem Pcs.perm {p : Pk} {P P' : List Pk} (h : Pcs p P) (hp : P'.Perm P) : Pcs p P' := by
  have hl := hp.length_eq
  refine ⟨fun x hx => h.part x (hp.mem_iff.1 hx), ?_, fun k hk => ?_, fun h1 x hx => h.some (by rw [← hl]; exact h1) x (hp.mem_iff.1 hx), fun h1 => ?_, by rw [hl]; exact h.pos, by rw [hl]; exact h.len⟩
  · exact (hp.symm.pairwise_iff (fun h k hk => h k ⟨hk.2, hk.1⟩)).1 h.apart
  · obtain ⟨x, hx, hc⟩ := h.cov k hk
    exact ⟨x, hp.mem_iff.2 hx, hc⟩
  · have h2 := h.one (by rw [← hl]; exact h1)
    rw [h2] at hp
    exact List.perm_singleton.1 hp
/-- as long as one is not there the packet is not -/
theorem Pcs.notcov {p : Pk} {P L : List Pk} (h : Pcs p P) {k : Nat} (hk : k < P.length) (h1 : P.length ≠ 1) (hL : ∀ x ∈ L, x ∈ P.take k) : ¬ Cov p L := by
  intro hc
  have hm : P[k] ∈ P := List.getElem_mem hk
  have hpos := (h.some h1 _ hm).1
  obtain ⟨_, ⟨w0, w1, _⟩, _⟩ := (h.part _ hm).1
  have hcv : Cvs P[k] P[k].off.toNat := by
    unfold Cvs Pk.en
    omega
  obtain ⟨y, hy, hcy⟩ := hc P[k].off.toNat (by omega)
  obtain ⟨j, hj, rfl⟩ := List.mem_iff_getElem.1 (hL y hy)
  rw [List.length_take] at hj
  rw [List.getElem_take] at hcy
  exact List.pairwise_iff_getElem.1 h.apart j k (by omega) hk (by omega) _ ⟨hcy, hcv⟩
/-- i pieces came, in all N times -/
def BackS (w : World) (B rb bm : Nat) (tm : Int) (p : Pk) (P : List Pk) (i N : Nat) : Prop :=
  ∃ G, RS w B rb bm tm G ∧ (∀ h ∈ G, h.k = kb p) ∧ (hl G (kb p)).length ≤ N ∧ ((i < P.length ∧ (∀ x ∈ hl G (kb p), x ∈ P.take i) ∧ (∀ x ∈ P.take i, x ∈ hl G (kb p))) ∨ (i = P.length ∧ hl G (kb p) = []))
theorem BackS.keep {w w' : World} {B rb bm : Nat} {tm : Int} {p : Pk} {P : List Pk} {i N : Nat} (h : BackS w B rb bm tm p P i N) (hx : Ex (fun _ => False) w w') : BackS w' B rb bm tm p P i N := by
  obtain ⟨G, h1, h2⟩ := h
  exact ⟨G, h1.keep hx, h2⟩
theorem BackS.start {w : World} {B rb bm : Nat} {tm : Int} {p : Pk} {P : List Pk} (h : RS w B rb bm tm []) (hp : 1 ≤ P.length) : BackS w B rb bm tm p P 0 0 :=
  ⟨[], h, fun _ h => by simp at h, by simp [hl], .inl ⟨hp, fun x hx => by simp [hl] at hx, fun x hx => by simp at hx⟩⟩
theorem BackS.done {w : World} {B rb bm : Nat} {tm : Int} {p : Pk} {P : List Pk} {N : Nat} (h : BackS w B rb bm tm p P P.length N) : RS w B rb bm tm [] := by
  obtain ⟨G, h1, h2, _, h3⟩ := h
  rcases h3 with ⟨h3, _⟩ | ⟨_, h3⟩
  · exact absurd h3 (Nat.lt_irrefl _)
  · have : G = [] := hl_none h1 (fun x hx => by rw [h2 x hx]; exact h3)
    rw [this] at h1
    exact h1
theorem part_rest {p x : Pk} (h : Part p x) : ∃ (mf : Bool) (off : Int) (b : List UInt8), x = { p with off := off, mf := mf, b := b } := ⟨x.mf, x.off, x.b, h.1⟩
/-- Take of the next piece -/
theorem back_take {p : Pk} {P : List Pk} (hP : Pcs p P) (ok : p.ok) (hp0 : p.off = 0) (hpm : p.mf = false) (hr : p.right = 0) (hl2 : p.b.length ≤ 2000) {i N : Nat} (hi : i < P.length) (hN : N < 190)
    (x : Pk) (hxe : x = P[i]) (A : Option Addr) (c : Nat) (now : Int) (B rb bm : Nat) (tm : Int) (w : World) (hs : BackS w B rb bm tm p P i N) (hrb : RB w (fun _ => True) (.slice A x.b.length c) x.b) (hA : A = none → c = 0) :
    Calls Tryd.prog 19 #[.pointer (some ⟨rb, 0, none⟩), pkv x (.slice A x.b.length c), .int .u64 now] w fun e w' => BackS w' B rb bm tm p P (i + 1) (N + 1) ∧ Up B w w' ∧
      ((i + 1 < P.length ∧ e = .returned (.tuple #[ZPK, .bool false, .nilIface])) ∨ (i + 1 = P.length ∧ ∃ A' c', e = .returned (.tuple #[pkv p (.slice A' p.b.length c'), .bool true, .nilIface]) ∧ OB w' w.heap.size (.slice A' p.b.length c') p.b)) := by
  subst hxe
  obtain ⟨G, h1, h2, h3, h4⟩ := hs
  have hm : P[i] ∈ P := List.getElem_mem hi
  obtain ⟨hpt, hxr, hxk⟩ := hP.part _ hm
  have hbl : P[i].b.length ≤ 100000 := by obtain ⟨_, ⟨_, w1, _⟩, _⟩ := hpt; omega
  obtain ⟨h5, h6⟩ : (∀ x ∈ hl G (kb p), x ∈ P.take i) ∧ (∀ x ∈ P.take i, x ∈ hl G (kb p)) := by
    rcases h4 with ⟨_, h4⟩ | ⟨h4, _⟩
    · exact h4
    · omega
  by_cases hone : P.length = 1
  · have hp := hP.one hone
    have hi0 : i = 0 := by omega
    have hx : P[i] = p := by
      have : P[i]? = some p := by rw [hp, hi0]; rfl
      rw [List.getElem?_eq_getElem hi] at this
      exact Option.some.inj this
    have h7 : hl G (kb p) = [] := by
      cases hq : hl G (kb p) with
      | nil => rfl
      | cons y r =>
        have := h5 y (by rw [hq]; simp)
        rw [hi0] at this
        simp at this
    rw [hx] at hrb hbl ⊢
    refine (take_one p A c now B rb bm tm G w h1 ok hrb hA hbl hr hp0 hpm).mono ?_
    rintro e w' ⟨A', c', rfl, hob, hrs, hxx⟩
    exact ⟨⟨G, hrs, h2, by omega, .inr ⟨by omega, h7⟩⟩, hxx.mono (fun _ _ h => h.elim), .inr ⟨by omega, A', c', rfl, hob⟩⟩
  · have hlen := len_one h1.apart h2
    have hsub : ∀ y ∈ hl G (kb p) ++ [P[i]], y ∈ P.take (i + 1) := by
      intro y hy
      rcases List.mem_append.1 hy with hy | hy
      · have := h5 y hy
        exact (List.take_sublist_take_left (Nat.le_succ i)).subset this
      · rw [List.mem_singleton] at hy
        rw [hy, List.take_succ_eq_append_getElem hi]
        exact List.mem_append_right _ (List.mem_singleton.2 rfl)
    have hsup : ∀ y ∈ P.take (i + 1), y ∈ hl G (kb p) ++ [P[i]] := by
      intro y hy
      rw [List.take_succ_eq_append_getElem hi] at hy
      rcases List.mem_append.1 hy with hy | hy
      · exact List.mem_append_left _ (h6 y hy)
      · exact List.mem_append_right _ hy
    refine (take_part p P[i] A c now B rb bm tm G w h1 hxk hrb hA hbl hp0 hpm hpt hxr (hP.some hone _ hm).2 (fun y hy => (hP.part y (List.mem_of_mem_take (h5 y hy))).1) (by omega) (by omega)).mono ?_
    rintro e w' ⟨G', hpp, hcase⟩
    have hkeys : ∀ h ∈ G', h.k = kb p := fun h hh => by
      rcases hpp.keys h hh with e | ⟨h0, hh0, e⟩
      · exact e
      · rw [e]; exact h2 h0 hh0
    rcases hcase with ⟨hnc, hl', rfl⟩ | ⟨hc, hl', A', c', rfl, hob⟩
    · have hin : i + 1 < P.length := by
        apply Classical.byContradiction
        intro hh
        refine hnc (fun k hk => ?_)
        obtain ⟨y, hy, hcv⟩ := hP.cov k hk
        exact ⟨y, hsup y (by rw [List.take_of_length_le (by omega)]; exact hy), hcv⟩
      refine ⟨⟨G', hpp.rs, hkeys, by rw [hl', List.length_append]; simp only [List.length_cons, List.length_nil]; omega, .inl ⟨hin, by rw [hl']; exact hsub, by rw [hl']; exact hsup⟩⟩, hpp.up, .inl ⟨hin, rfl⟩⟩
    · have hin : i + 1 = P.length := by
        apply Classical.byContradiction
        intro hh
        exact hP.notcov (k := i + 1) (by omega) hone hsub hc
      exact ⟨⟨G', hpp.rs, hkeys, by rw [hl']; simp, .inr ⟨hin, hl'⟩⟩, hpp.up, .inr ⟨hin, A', c', rfl, hob⟩⟩
/-- Take of a piece that came, once more -/
theorem back_again {p : Pk} {P : List Pk} (hP : Pcs p P) (hp0 : p.off = 0) (hpm : p.mf = false) (hl2 : p.b.length ≤ 2000) {i N : Nat} (hi : i + 1 < P.length) (hN : N < 190)
    (x : Pk) (hxe : x = P[i]) (A : Option Addr) (c : Nat) (now : Int) (B rb bm : Nat) (tm : Int) (w : World) (hs : BackS w B rb bm tm p P (i + 1) N) (hrb : RB w (fun _ => True) (.slice A x.b.length c) x.b) (hA : A = none → c = 0) :
    Calls Tryd.prog 19 #[.pointer (some ⟨rb, 0, none⟩), pkv x (.slice A x.b.length c), .int .u64 now] w fun e w' => BackS w' B rb bm tm p P (i + 1) (N + 1) ∧ Up B w w' ∧ e = .returned (.tuple #[ZPK, .bool false, .nilIface]) := by
  subst hxe
  obtain ⟨G, h1, h2, h3, h4⟩ := hs
  have hm : P[i] ∈ P := List.getElem_mem (by omega)
  obtain ⟨hpt, hxr, hxk⟩ := hP.part _ hm
  have hbl : P[i].b.length ≤ 100000 := by obtain ⟨_, ⟨_, w1, _⟩, _⟩ := hpt; omega
  have hone : P.length ≠ 1 := by omega
  obtain ⟨h5, h6⟩ : (∀ x ∈ hl G (kb p), x ∈ P.take (i + 1)) ∧ (∀ x ∈ P.take (i + 1), x ∈ hl G (kb p)) := by
    rcases h4 with ⟨_, h4⟩ | ⟨h4, _⟩
    · exact h4
    · omega
  have hlen := len_one h1.apart h2
  have hmt : P[i] ∈ P.take (i + 1) := by
    rw [List.take_succ_eq_append_getElem (by omega)]
    exact List.mem_append_right _ (List.mem_singleton.2 rfl)
  have hsub : ∀ y ∈ hl G (kb p) ++ [P[i]], y ∈ P.take (i + 1) := by
    intro y hy
    rcases List.mem_append.1 hy with hy | hy
    · exact h5 y hy
    · rw [List.mem_singleton] at hy
      rw [hy]; exact hmt
  refine (take_part p P[i] A c now B rb bm tm G w h1 hxk hrb hA hbl hp0 hpm hpt hxr (hP.some hone _ hm).2 (fun y hy => (hP.part y (List.mem_of_mem_take (h5 y hy))).1) (by omega) (by omega)).mono ?_
  rintro e w' ⟨G', hpp, hcase⟩
  have hkeys : ∀ h ∈ G', h.k = kb p := fun h hh => by
    rcases hpp.keys h hh with e | ⟨h0, hh0, e⟩
    · exact e
    · rw [e]; exact h2 h0 hh0
  rcases hcase with ⟨hnc, hl', rfl⟩ | ⟨hc, _⟩
  · exact ⟨⟨G', hpp.rs, hkeys, by rw [hl', List.length_append]; simp only [List.length_cons, List.length_nil]; omega, .inl ⟨hi, by rw [hl']; exact hsub, by rw [hl']; exact fun y hy => List.mem_append_left _ (h6 y hy)⟩⟩, hpp.up, rfl⟩
  · exact absurd hc (hP.notcov (k := i + 1) hi hone hsub)
/-- a part of a part is a part -/
theorem sub_part {p y : Pk} (hy : Part p y) {m : Int} {z n : Nat} {l : List Pk} (h : PD y m z n l) {j : Nat} (hj : j < n) : Part p (pti y z n j) := by
  obtain ⟨q1, q2, q3⟩ := h.place hj
  obtain ⟨e1, ⟨w0, w1, w2⟩, e3⟩ := hy
  have ho : (pti y z n j).off = y.off + ((j * z : Nat) : Int) := rfl
  have hm : (pti y z n j).mf = (y.mf || decide (j + 1 < n)) := rfl
  have hb : (pti y z n j).b = (y.b.drop (j * z)).take z := rfl
  refine ⟨?_, ⟨by rw [ho]; omega, by rw [ho, q3]; omega, ?_⟩, ?_⟩
  · have : pti y z n j = { y with off := (pti y z n j).off, mf := (pti y z n j).mf, b := (pti y z n j).b } := rfl
    rw [this, e1]
  · rw [q3, hb, ho]
    have e5 : (y.off + ((j * z : Nat) : Int)).toNat = y.off.toNat + j * z := by omega
    rw [e5, ← List.drop_drop]
    have e6 : (y.b.drop (j * z)).take z = (y.b.drop (j * z)).take (min z (y.b.length - j * z)) := by
      by_cases e : z ≤ y.b.length - j * z
      · rw [Nat.min_eq_left e]
      · rw [Nat.min_eq_right (by omega), List.take_of_length_le (by rw [List.length_drop]; omega), List.take_of_length_le (by rw [List.length_drop]; omega)]
    rw [e6]
    generalize hD : p.b.drop y.off.toNat = D at w2
    have hyb : y.b.length ≤ D.length := by rw [← hD, List.length_drop]; omega
    rw [w2, List.length_take, Nat.min_eq_left hyb, List.drop_take, List.take_take]
    congr 1
    omega
  · unfold Pk.en at e3 ⊢
    rw [hm, ho, q3, Bool.or_eq_false_iff, decide_eq_false_iff_not, e3]
    constructor
    · rintro ⟨he, hn⟩
      obtain rfl : j = n - 1 := by omega
      have hcov := h.cov
      rw [show n = n - 1 + 1 by omega, Nat.add_mul, Nat.one_mul] at hcov
      omega
    · intro he
      by_cases hn : j + 1 < n
      · exfalso
        have h3 := q2 hn
        rw [Nat.add_mul, Nat.one_mul] at h3
        have hz := h.zp
        rw [Nat.min_eq_left (by omega)] at he
        have h4 := h.lt (by omega)
        have h5 : (j + 1) * z ≤ (n - 1) * z := Nat.mul_le_mul_right z (by omega)
        rw [Nat.add_mul, Nat.one_mul] at h5
        omega
      · refine ⟨?_, hn⟩
        obtain rfl : j = n - 1 := by omega
        have hcov := h.cov
        rw [show n = n - 1 + 1 by omega, Nat.add_mul, Nat.one_mul] at hcov
        omega
theorem parts_len48 {y : Pk} {m : Int} (h68 : 68 ≤ m) : (parts y m).length ≤ y.b.length / 48 + 1 := by
  unfold parts
  split
  · simp
  · obtain ⟨z1, _, _⟩ := pz_spec h68
    simp only [lastMf, List.length_modify, List.length_map, List.length_range]
    rcases Nat.lt_or_ge (y.b.length / 48 + 1) (cn (pz m) y.b.length) with h9 | h9
    · have h1 := (cn_lt (by omega)).1 h9
      have h2 : (y.b.length / 48 + 1) * 48 ≤ (y.b.length / 48 + 1) * pz m := Nat.mul_le_mul_left _ z1
      omega
    · exact h9
/-- the pieces of the first i parts -/
structure Pcn (p : Pk) (z i : Nat) (Q : List Pk) : Prop where
  part : ∀ x ∈ Q, Part p x ∧ x.right = 0 ∧ x.ok ∧ (0 < p.b.length → 0 < x.b.length)
  inn : ∀ x ∈ Q, x.en ≤ ((i * z : Nat) : Int)
  apart : Aprt Q
  cov : ∀ k, k < i * z → k < p.b.length → ∃ x ∈ Q, Cvs x k
  len : Q.length ≤ i + min (i * z) p.b.length / 48
  pos : 0 < i → 1 ≤ Q.length
theorem Pcn.start (p : Pk) (z : Nat) : Pcn p z 0 [] :=
  ⟨fun x hx => by simp at hx, fun x hx => by simp at hx, List.Pairwise.nil, fun k hk => by omega, by simp, fun h => absurd h (Nat.lt_irrefl _)⟩
theorem Pcn.step {p : Pk} {m : Int} {z n i : Nat} {l Q : List Pk} (h : PD p m z n l) (ok : p.ok) (hp0 : p.off = 0) (hpm : p.mf = false) (hr : p.right = 0) (hl2 : p.b.length ≤ 2000) (hi : i < n) (hQ : Pcn p z i Q) {m2 : Int} (h68 : 68 ≤ m2) (hs : spe (pti p z n i) m2 = none) : Pcn p z (i + 1) (Q ++ parts (pti p z n i) m2) := by
  obtain ⟨q1, q2, q3⟩ := h.place hi
  have hz := h.zp
  have hyl : (pti p z n i).b.length ≤ 4000 := by rw [q3]; omega
  obtain ⟨z', n', hpd⟩ := parts_pd hs hyl
  have hyp := h.isPart hp0 hpm hi
  have hyr := h.right hr hi
  have hyk := h.ok ok hr hi
  have hlist : ∀ x ∈ parts (pti p z n i) m2, ∃ j, j < n' ∧ x = pti (pti p z n i) z' n' j := by
    intro x hx
    obtain ⟨j, hj, rfl⟩ := List.mem_iff_getElem.1 hx
    exact ⟨j, by rw [← hpd.len]; exact hj, hpd.at hj⟩
  have hyo : (pti p z n i).off = ((i * z : Nat) : Int) := by unfold pti; simp only [hp0]; omega
  have hwin : ∀ j, j < n' → ∀ k : Nat, Cvs (pti (pti p z n i) z' n' j) k ↔ (i * z + j * z' ≤ k ∧ k < i * z + (j + 1) * z' ∧ k < i * z + (pti p z n i).b.length) := by
    intro j hj k
    obtain ⟨p1, p2, p3⟩ := hpd.place hj
    have ho : (pti (pti p z n i) z' n' j).off = (pti p z n i).off + ((j * z' : Nat) : Int) := rfl
    unfold Cvs Pk.en
    rw [ho, p3, hyo, Nat.add_mul, Nat.one_mul]
    omega
  have hen : ∀ j, j < n' → (pti (pti p z n i) z' n' j).en ≤ (((i + 1) * z : Nat) : Int) := by
    intro j hj
    obtain ⟨p1, p2, p3⟩ := hpd.place hj
    have ho : (pti (pti p z n i) z' n' j).off = (pti p z n i).off + ((j * z' : Nat) : Int) := rfl
    unfold Pk.en
    rw [ho, p3, hyo, Nat.add_mul, Nat.one_mul]
    omega
  refine ⟨fun x hx => ?_, fun x hx => ?_, ?_, fun k hk hkl => ?_, ?_, fun _ => ?_⟩
  · rcases List.mem_append.1 hx with hx | hx
    · exact hQ.part x hx
    · obtain ⟨j, hj, rfl⟩ := hlist x hx
      refine ⟨sub_part hyp hpd hj, hpd.right hyr hj, hpd.ok hyk hyr hj, fun h0 => ?_⟩
      have hyb : 0 < (pti p z n i).b.length := by
        rw [q3]
        by_cases hn : 1 < n
        · have := h.some hn hi
          omega
        · obtain rfl : i = 0 := by omega
          omega
      rw [(hpd.place hj).2.2]
      by_cases hn : 1 < n'
      · have := hpd.some hn hj
        have := hpd.zp
        omega
      · obtain rfl : j = 0 := by omega
        have := hpd.zp
        omega
  · rcases List.mem_append.1 hx with hx | hx
    · have := hQ.inn x hx
      rw [Nat.add_mul, Nat.one_mul]
      omega
    · obtain ⟨j, hj, rfl⟩ := hlist x hx
      exact hen j hj
  · refine List.pairwise_append.2 ⟨hQ.apart, ?_, fun x hx y hy k hk => ?_⟩
    · rw [List.pairwise_iff_getElem]
      intro a b ha hb hab k hk
      have ha' : a < n' := by rw [← hpd.len]; exact ha
      have hb' : b < n' := by rw [← hpd.len]; exact hb
      rw [hpd.at ha, hpd.at hb] at hk
      have h1 := (hwin a ha' k).1 hk.1
      have h2 := (hwin b hb' k).1 hk.2
      have h3 : (a + 1) * z' ≤ b * z' := Nat.mul_le_mul_right z' hab
      omega
    · obtain ⟨j, hj, rfl⟩ := hlist y hy
      have h1 := hQ.inn x hx
      have h2 := (hwin j hj k).1 hk.2
      have h3 := hk.1.2
      omega
  · by_cases hki : k < i * z
    · obtain ⟨x, hx, hc⟩ := hQ.cov k hki hkl
      exact ⟨x, List.mem_append_left _ hx, hc⟩
    · rw [Nat.add_mul, Nat.one_mul] at hk
      have hkb : k - i * z < (pti p z n i).b.length := by rw [q3]; omega
      have hz' := hpd.zp
      have hj : (k - i * z) / z' < n' := by
        rw [Nat.div_lt_iff_lt_mul (by omega)]
        have := hpd.cov
        omega
      refine ⟨pti (pti p z n i) z' n' ((k - i * z) / z'), List.mem_append_right _ ?_, (hwin _ hj k).2 ?_⟩
      · have := hpd.one _ hj
        exact List.mem_of_getElem? this
      · have h1 := Nat.div_mul_le_self (k - i * z) z'
        have h2 := Nat.div_add_mod (k - i * z) z'
        have h3 := Nat.mod_lt (k - i * z) (show 0 < z' by omega)
        rw [Nat.mul_comm] at h2
        rw [Nat.add_mul, Nat.one_mul]
        omega
  · have h1 := hQ.len
    have h2 := parts_len48 (y := pti p z n i) h68
    rw [List.length_append]
    rw [q3] at h2
    rw [Nat.add_mul, Nat.one_mul]
    omega
  · rw [List.length_append]
    have := (parts_mono (p := pti p z n i) (Int.le_refl m2) h68).2
    omega
theorem part_is {p x : Pk} (hp0 : p.off = 0) (hpm : p.mf = false) (h : Part p x) (h0 : x.off = 0) (he : x.en = (p.b.length : Int)) : x = p := by
  obtain ⟨e1, ⟨w0, w1, w2⟩, e3⟩ := h
  have hm := e3.2 he
  have hlen : x.b.length = p.b.length := by unfold Pk.en at he; omega
  have hb : x.b = p.b := by
    rw [w2, h0, hlen]
    simp
  rw [e1, h0, hm, hb]
  obtain ⟨tos, ident, df, mf, off, ttl, pr, src, dst, b⟩ := p
  simp only at hp0 hpm
  rw [hp0, hpm]
/-- at last all are there -/
theorem Pcn.done {p : Pk} {m : Int} {z n : Nat} {l Q : List Pk} (h : PD p m z n l) (hn : n ≤ 42) (hp0 : p.off = 0) (hpm : p.mf = false) (hl2 : p.b.length ≤ 2000) (hQ : Pcn p z n Q) : Pcs p Q := by
  have hcov : Cov p Q := fun k hk => hQ.cov k (by have := h.cov; omega) hk
  have hlen := hQ.len
  refine ⟨fun x hx => ⟨(hQ.part x hx).1, (hQ.part x hx).2.1, (hQ.part x hx).2.2.1⟩, hQ.apart, hcov, fun h1 x hx => ?_, fun h1 => ?_, hQ.pos h.pos, by omega⟩
  · have hpos : 0 < p.b.length := by
      apply Classical.byContradiction
      intro h0
      have hn1 : n = 1 := by
        apply Classical.byContradiction
        intro hh
        have := h.lt (by have := h.pos; omega)
        omega
      have := hQ.pos h.pos
      rw [hn1] at hlen
      omega
    refine ⟨(hQ.part x hx).2.2.2 hpos, fun hw => ?_⟩
    obtain ⟨⟨_, _, e3⟩, _⟩ := hQ.part x hx
    have he := e3.1 hw.2
    obtain ⟨a, ha, rfl⟩ := List.mem_iff_getElem.1 hx
    have h2 : 2 ≤ Q.length := by have := hQ.pos h.pos; omega
    obtain ⟨b, hb, hab⟩ : ∃ b, b < Q.length ∧ a ≠ b := by
      by_cases e : a = 0
      · exact ⟨1, by omega, by omega⟩
      · exact ⟨0, by omega, e⟩
    obtain ⟨⟨_, ⟨w0, w1, _⟩, _⟩, _, _, hyb⟩ := hQ.part Q[b] (List.getElem_mem hb)
    have hyb := hyb hpos
    have c1 : Cvs Q[b] Q[b].off.toNat := by unfold Cvs Pk.en; omega
    have c2 : Cvs Q[a] Q[b].off.toNat := by
      unfold Cvs
      rw [he, hw.1]
      omega
    rcases Nat.lt_or_gt_of_ne hab with hlt | hlt
    · exact List.pairwise_iff_getElem.1 hQ.apart a b ha hb hlt _ ⟨c2, c1⟩
    · exact List.pairwise_iff_getElem.1 hQ.apart b a hb ha hlt _ ⟨c1, c2⟩
  · obtain ⟨x, rfl⟩ := List.length_eq_one_iff.1 h1
    obtain ⟨hpt, _⟩ := hQ.part x (by simp)
    have hpt' := hpt
    obtain ⟨_, ⟨w0, w1, _⟩, _⟩ := hpt'
    by_cases h0 : 0 < p.b.length
    · obtain ⟨y, hy, c1, _⟩ := hcov 0 h0
      rw [List.mem_singleton] at hy
      subst hy
      obtain ⟨y', hy', _, c2⟩ := hcov (p.b.length - 1) (by omega)
      rw [List.mem_singleton] at hy'
      subst hy'
      rw [part_is hp0 hpm hpt (by omega) (by unfold Pk.en at c2 ⊢; omega)]
    · rw [part_is hp0 hpm hpt (by omega) (by unfold Pk.en; omega)]
end Go.Proofs.YtabjihchcmjdmaaDoor
