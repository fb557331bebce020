/-
  Take of a part, in one contract; masks. By an AI agent.
-/
import Derived.Test.YtabjihchcmjdmaaDoorGh10
import Derived.Test.YtabjihchcmjdmaaDoorGg10
import Derived.Test.YtabjihchcmjdmaaDoorGb10
/-
  Masks and remainders of an int. By an AI agent.
-/
namespace Go.Proofs.YtabjihchcmjdmaaDoor
open Go.RowKit

theorem and_mask (x : Int) (k : Nat) (hk : k ≤ 65535) : ∃ v : Nat, bits .and .i64 x (k : Int) = (v : Int) ∧ v ≤ k := by
  refine ⟨((BitVec.ofInt 64 x) &&& (BitVec.ofInt 64 (k : Int))).toNat, ?_, ?_⟩
  · have h : ((BitVec.ofInt 64 x) &&& (BitVec.ofInt 64 (k : Int))).toNat ≤ k := by
      rw [BitVec.toNat_and]
      refine Nat.le_trans Nat.and_le_right ?_
      rw [BitVec.toNat_ofInt]
      omega
    show IntKind.i64.wrap _ = _
    rw [IntKind.wrap_i64]
    have h2 : (((BitVec.ofInt 64 x) &&& (BitVec.ofInt 64 (k : Int))).toNat : Int) ≤ 65535 := by omega
    show ((((BitVec.ofInt 64 x) &&& (BitVec.ofInt 64 (k : Int))).toNat : Int) + _) % _ - _ = _
    omega
  · rw [BitVec.toNat_and]
    refine Nat.le_trans Nat.and_le_right ?_
    rw [BitVec.toNat_ofInt]
    omega
theorem rem_nat (k n : Nat) (hn : 0 < n) : ∃ r : Nat, (k : Int).tmod (n : Int) = (r : Int) ∧ r < n :=
  ⟨k % n, by rw [Int.tmod_eq_emod_of_nonneg (by omega)]; rfl, Nat.mod_lt _ hn⟩
theorem and16 (x : Int) : ∃ v : Nat, bits .and .i64 x 65535 = (v : Int) ∧ v ≤ 65535 := by
  obtain ⟨v, h, hv⟩ := and_mask x 65535 (by omega)
  exact ⟨v, h, hv⟩
theorem and12 (x : Int) : ∃ v : Nat, bits .and .i64 x 4095 = (v : Int) ∧ v ≤ 4095 := by
  obtain ⟨v, h, hv⟩ := and_mask x 4095 (by omega)
  exact ⟨v, h, hv⟩
theorem rem15 (k : Nat) : ∃ r : Nat, (k : Int).tmod 1500 = (r : Int) ∧ r < 1500 := by
  obtain ⟨r, h, hr⟩ := rem_nat k 1500 (by omega)
  exact ⟨r, h, hr⟩
theorem rem5 (k : Nat) : ∃ r : Nat, (k : Int).tmod 500 = (r : Int) ∧ r < 500 := by
  obtain ⟨r, h, hr⟩ := rem_nat k 500 (by omega)
  exact ⟨r, h, hr⟩
theorem list1 {α β : Type} {f : α → β} {l : List α} {a : β} (h : l.map f = [a]) : ∃ x, l = [x] ∧ f x = a := by
  match l, h with
  | [x], h =>
    simp only [List.map_cons, List.map_nil, List.cons.injEq, and_true] at h
    exact ⟨x, rfl, h⟩
theorem OB.anyA {w : World} {B c : Nat} {A : Option Addr} {l : List UInt8} (h : OB w B (.slice A l.length c) l) : A = none → c = 0 := by
  rintro rfl
  obtain ⟨_, ⟨e, _⟩ | ⟨b, cap, cur, e, _⟩⟩ := h.2
  · injection e
  · injection e with e _ _
    cases e
end Go.Proofs.YtabjihchcmjdmaaDoor
/-
  Take of one part of a packet, in one contract: it waits, or the packet is there. By an AI agent.
-/
namespace Go.Proofs.YtabjihchcmjdmaaDoor
open Go.RowKit

theorem win_cut {pb : List UInt8} {x : Pk} (h : Win pb x) {a b : Int} (ha : x.off ≤ a) (hab : a ≤ b) (hb : b ≤ x.en) : x.cut a b = (pb.take b.toNat).drop a.toNat := by
  obtain ⟨h0, h1, h2⟩ := h
  obtain ⟨o, ho⟩ := Int.eq_ofNat_of_zero_le h0
  obtain ⟨i, rfl⟩ := Int.eq_ofNat_of_zero_le (show 0 ≤ a by omega)
  obtain ⟨j, rfl⟩ := Int.eq_ofNat_of_zero_le (show 0 ≤ b by omega)
  unfold Pk.en at hb
  unfold Pk.cut
  rw [ho] at h1 h2 ha hb ⊢
  simp only [Int.toNat_natCast] at h1 h2 ⊢
  have e1 : ((j : Int) - (o : Int)).toNat = j - o := by omega
  have e2 : ((i : Int) - (o : Int)).toNat = i - o := by omega
  rw [e1, e2, h2, List.take_take, Nat.min_eq_left (by omega), List.drop_take, List.drop_take, List.drop_drop]
  congr 1
  · omega
  · congr 1
    omega
theorem part_past {p x y : Pk} (hx : Part p x) (hy : Part p y) : pastB x y = false := by
  unfold pastB
  cases hm : y.mf with
  | true => rfl
  | false =>
    have e1 : y.en = (p.b.length : Int) := hy.2.2.1 hm
    obtain ⟨g0, g1, _⟩ := hx.2.1
    have e2 : x.en ≤ (p.b.length : Int) := by unfold Pk.en; omega
    have e3 : decide (y.en < x.en) = false := decide_eq_false (by omega)
    rw [e3]
    cases hn : x.mf with
    | true => rfl
    | false =>
      have e4 : x.en = (p.b.length : Int) := hx.2.2.1 hn
      have e5 : decide (x.en ≠ y.en) = false := decide_eq_false (by omega)
      rw [e5]
      rfl
/-- parts of one packet go together -/
theorem part_fights {p x y : Pk} (hx : Part p x) (hy : Part p y) : fightsB x y = false := by
  unfold fightsB
  rw [part_past hx hy, part_past hy hx]
  by_cases h : fro x y < til x y
  · have h1 : x.off ≤ fro x y ∧ y.off ≤ fro x y := by unfold fro; split <;> omega
    have h2 : til x y ≤ x.en ∧ til x y ≤ y.en := by unfold til; split <;> omega
    rw [win_cut hx.2.1 h1.1 (by omega) h2.1, win_cut hy.2.1 h1.2 (by omega) h2.2]
    simp
  · rw [decide_eq_false h]
    rfl
theorem part_kb {p x : Pk} (h : Part p x) : kb x = kb p := by
  rw [h.1]
  rfl
/-- every place of p is there -/
def Cov (p : Pk) (L : List Pk) : Prop := ∀ i : Nat, i < p.b.length → ∃ x ∈ L, x.off ≤ (i : Int) ∧ (i : Int) < x.en
theorem part_pos {p x : Pk} (h : Part p x) (h1 : ¬ (x.off = 0 ∧ x.mf = false)) : 0 < p.b.length := by
  obtain ⟨_, ⟨g0, g1, _⟩, h3⟩ := h
  apply Classical.byContradiction
  intro h0
  refine h1 ⟨by omega, h3.2 ?_⟩
  unfold Pk.en
  omega
theorem part_alone {p x : Pk} (h : Part p x) (h1 : ¬ (x.off = 0 ∧ x.mf = false)) : ¬ Cov p [x] := by
  intro hc
  have hp := part_pos h h1
  obtain ⟨_, ⟨g0, g1, _⟩, h3⟩ := h
  obtain ⟨y, hy, c1, c2⟩ := hc 0 hp
  rw [List.mem_singleton] at hy
  subst hy
  obtain ⟨z, hz, c3, c4⟩ := hc (p.b.length - 1) (by omega)
  rw [List.mem_singleton] at hz
  subst hz
  refine h1 ⟨by omega, h3.2 ?_⟩
  unfold Pk.en at c4 ⊢
  omega
/-- what waits at a key -/
def hl (G : List Hp) (k : List UInt8) : List Pk :=
  match G.find? (fun h => h.k == k) with
  | some h => h.os.map Prod.fst
  | none => []
abbrev Apart (G : List Hp) : Prop := G.Pairwise (fun a b => a.k ≠ b.k ∧ a.hb ≠ b.hb ∧ a.g ≠ b.g)
theorem hl_no {G : List Hp} {k : List UInt8} (h : ∀ x ∈ G, x.k ≠ k) : hl G k = [] := by
  unfold hl
  rw [List.find?_eq_none.2 (fun x hx => by simpa using h x hx)]
theorem hl_cases (G : List Hp) (k : List UInt8) : (∃ h ∈ G, h.k = k ∧ hl G k = h.os.map Prod.fst) ∨ ((∀ h ∈ G, h.k ≠ k) ∧ hl G k = []) := by
  cases hf : G.find? (fun h => h.k == k) with
  | some h =>
    refine .inl ⟨h, List.mem_of_find?_eq_some hf, by simpa using List.find?_some hf, ?_⟩
    unfold hl
    rw [hf]
  | none =>
    have h1 : ∀ h ∈ G, h.k ≠ k := fun h hh => by have := List.find?_eq_none.1 hf h hh; simpa using this
    exact .inr ⟨h1, hl_no h1⟩
theorem hl_of {G : List Hp} (hap : Apart G) {h : Hp} (hm : h ∈ G) : hl G h.k = h.os.map Prod.fst := by
  rcases hl_cases G h.k with ⟨x, hx, hk, e⟩ | ⟨hn, _⟩
  · have : x = h := by
      apply Classical.byContradiction
      intro hne
      have h2 : ∀ G : List Hp, Apart G → ∀ a b : Hp, a ∈ G → b ∈ G → a ≠ b → a.k ≠ b.k := by
        intro G
        induction G with
        | nil => intro _ a b ha; cases ha
        | cons c G ih =>
          intro hp a b ha hb hab
          obtain ⟨p1, p2⟩ := List.pairwise_cons.1 hp
          rcases List.mem_cons.1 ha with e1 | h1 <;> rcases List.mem_cons.1 hb with e2 | h2
          · exact absurd (e1.trans e2.symm) hab
          · rw [e1]; exact (p1 b h2).1
          · rw [e2]; exact (p1 a h1).1.symm
          · exact ih p2 a b h1 h2 hab
      exact h2 G hap x h hx hm hne hk
    rw [e, this]
  · exact absurd rfl (hn h hm)
theorem hl_mid {G1 G2 : List Hp} {h0 h' : Hp} (hap : Apart (G1 ++ h0 :: G2)) (hap' : Apart (G1 ++ h' :: G2)) (hk : h'.k = h0.k) (k : List UInt8) : hl (G1 ++ h' :: G2) k = if k = h0.k then h'.os.map Prod.fst else hl (G1 ++ h0 :: G2) k := by
  by_cases e : k = h0.k
  · rw [if_pos e, e, ← hk]
    exact hl_of hap' (by simp)
  · rw [if_neg e]
    rcases hl_cases (G1 ++ h0 :: G2) k with ⟨x, hx, hk1, e1⟩ | ⟨hn, e1⟩
    · rw [e1, ← hk1]
      refine hl_of hap' ?_
      simp only [List.mem_append, List.mem_cons] at hx ⊢
      rcases hx with hx | rfl | hx
      · exact .inl hx
      · exact absurd hk1.symm e
      · exact .inr (.inr hx)
    · rw [e1]
      refine hl_no (fun x hx => ?_)
      simp only [List.mem_append, List.mem_cons] at hx
      rcases hx with hx | rfl | hx
      · exact hn x (by simp [hx])
      · rw [hk]; exact fun e' => e e'.symm
      · exact hn x (by simp [hx])
theorem hl_drop {G1 G2 : List Hp} {h0 : Hp} (hap : Apart (G1 ++ h0 :: G2)) (k : List UInt8) : hl (G1 ++ G2) k = if k = h0.k then [] else hl (G1 ++ h0 :: G2) k := by
  have hap' : Apart (G1 ++ G2) := drop_mid hap
  by_cases e : k = h0.k
  · rw [if_pos e, e]
    rw [Apart, List.pairwise_append, List.pairwise_cons] at hap
    refine hl_no (fun x hx => ?_)
    rcases List.mem_append.1 hx with hx | hx
    · exact (hap.2.2 x hx h0 (by simp)).1
    · exact (hap.2.1.1 x hx).1.symm
  · rw [if_neg e]
    rcases hl_cases (G1 ++ h0 :: G2) k with ⟨x, hx, hk1, e1⟩ | ⟨hn, e1⟩
    · rw [e1, ← hk1]
      refine hl_of hap' ?_
      simp only [List.mem_append, List.mem_cons] at hx ⊢
      rcases hx with hx | rfl | hx
      · exact .inl hx
      · exact absurd hk1.symm e
      · exact .inr hx
    · rw [e1]
      refine hl_no (fun x hx => ?_)
      rcases List.mem_append.1 hx with hx | hx
      · exact hn x (by simp [hx])
      · exact hn x (by simp [hx])
theorem hl_snoc {G : List Hp} {h : Hp} (hap : Apart (G ++ [h])) (k : List UInt8) : hl (G ++ [h]) k = if k = h.k then h.os.map Prod.fst else hl G k := by
  by_cases e : k = h.k
  · rw [if_pos e, e]
    exact hl_of hap (by simp)
  · rw [if_neg e]
    rcases hl_cases G k with ⟨x, hx, hk1, e1⟩ | ⟨hn, e1⟩
    · rw [e1, ← hk1]
      exact hl_of hap (by simp [hx])
    · rw [e1]
      refine hl_no (fun x hx => ?_)
      rcases List.mem_append.1 hx with hx | hx
      · exact hn x hx
      · rw [List.mem_singleton] at hx
        subst hx
        exact fun e' => e e'.symm
/-- no key waits: none at all -/
theorem hl_none {w : World} {B rb bm : Nat} {tm : Int} {G : List Hp} (h : RS w B rb bm tm G) (hk : ∀ x ∈ G, hl G x.k = []) : G = [] := by
  cases G with
  | nil => rfl
  | cons x G =>
    have h1 := hl_of h.apart (h := x) (by simp)
    rw [hk x (by simp)] at h1
    have h2 := (h.hps x (by simp)).2.2.2.1
    rw [← List.length_map (f := Prod.fst), ← h1] at h2
    simp at h2
/-- one key at most: one heap at most -/
theorem len_one {G : List Hp} (hap : Apart G) {k : List UInt8} (h : ∀ x ∈ G, x.k = k) : G.length ≤ 1 := by
  match G, hap, h with
  | [], _, _ => simp
  | [_], _, _ => simp
  | a :: b :: G, hap, h =>
    exfalso
    have h1 := (List.pairwise_cons.1 hap).1 b (by simp)
    exact h1.1 ((h a (by simp)).trans (h b (by simp)).symm)
theorem len_two {G : List Hp} (hap : Apart G) {k k' : List UInt8} (h : ∀ x ∈ G, x.k = k ∨ x.k = k') : G.length ≤ 2 := by
  match G, hap, h with
  | [], _, _ => simp
  | [_], _, _ => simp
  | [_, _], _, _ => simp
  | a :: b :: c :: G, hap, h =>
    exfalso
    have h1 := ((List.pairwise_cons.1 hap).1 b (by simp)).1
    have h2 := ((List.pairwise_cons.1 hap).1 c (by simp)).1
    have h3 := ((List.pairwise_cons.1 (List.pairwise_cons.1 hap).2).1 c (by simp)).1
    rcases h a (by simp) with ha | ha <;> rcases h b (by simp) with hb | hb <;> rcases h c (by simp) with hc | hc
    · exact h1 (ha.trans hb.symm)
    · exact h1 (ha.trans hb.symm)
    · exact h2 (ha.trans hc.symm)
    · exact h3 (hb.trans hc.symm)
    · exact h3 (hb.trans hc.symm)
    · exact h2 (ha.trans hc.symm)
    · exact h1 (ha.trans hb.symm)
    · exact h1 (ha.trans hb.symm)
/-- what Take of a part of p ends in -/
structure PartPost (p x : Pk) (now : Int) (w : World) (B rb bm : Nat) (tm : Int) (G G' : List Hp) (w' : World) : Prop where
  up : Up B w w'
  rs : RS w' B rb bm tm G'
  keys : ∀ h ∈ G', h.k = kb p ∨ ∃ h0 ∈ G, h.k = h0.k
  bgs : ∀ h ∈ G', h.bg = now ∨ ∃ h0 ∈ G, h.bg = h0.bg
  others : ∀ k, k ≠ kb p → hl G' k = hl G k
abbrev ZPK : Value := .agg #[.int .u8 0, .int .u16 0, .bool false, .bool false, .int .i64 0, .int .u8 0, .int .u8 0, .int .u32 0, .int .u32 0, .slice none 0 0]
theorem take_part (p x : Pk) (A : Option Addr) (c : Nat) (now : Int) (B rb bm : Nat) (tm : Int) (G : List Hp) (w : World) (hrs : RS w B rb bm tm G) (ok : x.ok) (hr : RB w (fun _ => True) (.slice A x.b.length c) x.b) (hA : A = none → c = 0) (hl1 : x.b.length ≤ 100000)
    (hp0 : p.off = 0) (hpm : p.mf = false) (hx : Part p x) (h : x.right = 0) (h1 : ¬ (x.off = 0 ∧ x.mf = false)) (hall : ∀ y ∈ hl G (kb p), Part p y) (hlen : (hl G (kb p)).length < 200) (h8 : G.length < 8) :
    Calls Tryd.prog 19 #[.pointer (some ⟨rb, 0, none⟩), pkv x (.slice A x.b.length c), .int .u64 now] w fun e w' => ∃ G', PartPost p x now w B rb bm tm G G' w' ∧
      ((¬ Cov p (hl G (kb p) ++ [x]) ∧ hl G' (kb p) = hl G (kb p) ++ [x] ∧ e = .returned (.tuple #[ZPK, .bool false, .nilIface])) ∨
       (Cov p (hl G (kb p) ++ [x]) ∧ hl G' (kb p) = [] ∧ ∃ A' c', e = .returned (.tuple #[pkv p (.slice A' p.b.length c'), .bool true, .nilIface]) ∧ OB w' w.heap.size (.slice A' p.b.length c') p.b)) := by
  have hkb := part_kb hx
  have hpos := part_pos hx h1
  rcases hl_cases G (kb p) with ⟨h0, hm, hk, e0⟩ | ⟨hn, e0⟩
  · obtain ⟨G1, G2, rfl⟩ := List.append_of_mem hm
    have hf : h0.os.any (fun o => fightsB x o.1) = false := by
      rw [any_fst, ← e0, List.any_eq_false]
      intro y hy
      rw [part_fights hx (hall y hy)]
      decide
    have hn0 : h0.os.length < 200 := by rw [e0, List.length_map] at hlen; exact hlen
    refine (take_more x A c now B rb bm tm _ w hrs ok hr hA hl1 G1 G2 h0 h h1 rfl (hk.trans hkb.symm) hf hn0).mono ?_
    intro e w' hpost
    have hup := more_up hpost hrs
    obtain ⟨_, A1, c1, ⟨hw, rfl, h', hrs', hk', hb', ho'⟩ | ⟨q, A', c', hw, rfl, hob, hrs'⟩⟩ := hpost
    · have hnc : ¬ Cov p (hl (G1 ++ h0 :: G2) (kb p) ++ [x]) := by
        intro hc
        have := whole_all hp0 hpm (h0.os ++ [(x, A1, c1)]) (fun o ho => ?_) hpos (fun i hi => ?_) hw
        · cases this
        · rcases List.mem_append.1 ho with ho | ho
          · exact hall _ (by rw [e0]; exact List.mem_map_of_mem ho)
          · rw [List.mem_singleton] at ho
            subst ho
            exact hx
        · obtain ⟨y, hy, hy2⟩ := hc i hi
          rcases List.mem_append.1 hy with hy | hy
          · rw [e0] at hy
            obtain ⟨o, ho, rfl⟩ := List.mem_map.1 hy
            exact ⟨o, by simp [ho], hy2⟩
          · rw [List.mem_singleton] at hy
            subst hy
            exact ⟨(y, A1, c1), by simp, hy2⟩
      have hm2 := fun k => hl_mid hrs.apart hrs'.apart hk' k
      refine ⟨_, ⟨hup, hrs', fun y hy => ?_, fun y hy => ?_, fun k hk2 => ?_⟩, .inl ⟨hnc, ?_, rfl⟩⟩
      · simp only [List.mem_append, List.mem_cons] at hy
        rcases hy with hy | rfl | hy
        · exact .inr ⟨y, by simp [hy], rfl⟩
        · exact .inl (hk'.trans hk)
        · exact .inr ⟨y, by simp [hy], rfl⟩
      · simp only [List.mem_append, List.mem_cons] at hy
        rcases hy with hy | rfl | hy
        · exact .inr ⟨y, by simp [hy], rfl⟩
        · exact .inr ⟨h0, by simp, hb'⟩
        · exact .inr ⟨y, by simp [hy], rfl⟩
      · rw [hm2, if_neg (by rw [hk]; exact hk2)]
      · rw [hm2, if_pos hk.symm, ho', List.map_append, e0]
        rfl
    · have hc : Cov p (hl (G1 ++ h0 :: G2) (kb p) ++ [x]) := by
        apply Classical.byContradiction
        intro hnc
        unfold Cov at hnc
        rw [Classical.not_forall] at hnc
        obtain ⟨i, hi⟩ := hnc
        rw [Classical.not_imp] at hi
        have := whole_gap (p := p) (h0.os ++ [(x, A1, c1)]) (fun o ho => ?_) i hi.1 (fun o ho hcov => hi.2 ?_) hw
        · cases this
        · rcases List.mem_append.1 ho with ho | ho
          · exact hall _ (by rw [e0]; exact List.mem_map_of_mem ho)
          · rw [List.mem_singleton] at ho
            subst ho
            exact hx
        · rcases List.mem_append.1 ho with ho | ho
          · exact ⟨o.1, by rw [e0]; exact List.mem_append_left _ (List.mem_map_of_mem ho), hcov⟩
          · rw [List.mem_singleton] at ho
            subst ho
            exact ⟨x, by simp, hcov⟩
      have hq : some q = some p := by
        refine whole_all hp0 hpm (h0.os ++ [(x, A1, c1)]) (fun o ho => ?_) hpos (fun i hi => ?_) hw
        · rcases List.mem_append.1 ho with ho | ho
          · exact hall _ (by rw [e0]; exact List.mem_map_of_mem ho)
          · rw [List.mem_singleton] at ho
            subst ho
            exact hx
        · obtain ⟨y, hy, hy2⟩ := hc i hi
          rcases List.mem_append.1 hy with hy | hy
          · rw [e0] at hy
            obtain ⟨o, ho, rfl⟩ := List.mem_map.1 hy
            exact ⟨o, by simp [ho], hy2⟩
          · rw [List.mem_singleton] at hy
            subst hy
            exact ⟨(y, A1, c1), by simp, hy2⟩
      injection hq with hq
      subst hq
      have hm2 := fun k => hl_drop hrs.apart k
      refine ⟨_, ⟨hup, hrs', fun y hy => .inr ⟨y, ?_, rfl⟩, fun y hy => .inr ⟨y, ?_, rfl⟩, fun k hk2 => ?_⟩, .inr ⟨hc, ?_, A', c', rfl, hob⟩⟩
      · simp only [List.mem_append, List.mem_cons] at hy ⊢
        rcases hy with hy | hy
        · exact .inl hy
        · exact .inr (.inr hy)
      · simp only [List.mem_append, List.mem_cons] at hy ⊢
        rcases hy with hy | hy
        · exact .inl hy
        · exact .inr (.inr hy)
      · rw [hm2, if_neg (by rw [hk]; exact hk2)]
      · rw [hm2, if_pos hk.symm]
  · have hno : hpOf G x = none := by
      unfold hpOf lk
      rw [Option.map_eq_none_iff, List.find?_eq_none]
      intro y hy
      obtain ⟨z, hz, rfl⟩ := List.mem_map.1 hy
      have := hn z hz
      rw [hkb]
      simpa using this
    refine (take_new x A c now B rb bm tm G w hrs ok hr hA hl1 h h1 hno h8).mono ?_
    rintro e w' ⟨rfl, ⟨h', hrs', hk', hb', ho'⟩, hxx⟩
    have hlo := hrs.lo.2
    have hm2 := fun k => hl_snoc hrs'.apart k
    refine ⟨_, ⟨hxx.mono (fun k _ e => by have e : k = bm := e; omega), hrs', fun y hy => ?_, fun y hy => ?_, fun k hk2 => ?_⟩, .inl ⟨?_, ?_, rfl⟩⟩
    · rcases List.mem_append.1 hy with hy | hy
      · exact .inr ⟨y, hy, rfl⟩
      · rw [List.mem_singleton] at hy
        subst hy
        exact .inl (hk'.trans hkb)
    · rcases List.mem_append.1 hy with hy | hy
      · exact .inr ⟨y, hy, rfl⟩
      · rw [List.mem_singleton] at hy
        subst hy
        exact .inl hb'
    · rw [hm2, if_neg (by rw [hk', hkb]; exact hk2)]
    · rw [e0]
      exact part_alone hx h1
    · rw [hm2, if_pos (hk'.trans hkb).symm, ho', e0]
      rfl
/-- the parts that Split makes are parts -/
theorem PD.isPart {p : Pk} {m : Int} {z n : Nat} {l : List Pk} (h : PD p m z n l) (h0 : p.off = 0) (hm : p.mf = false) {i : Nat} (hi : i < n) : Part p (pti p z n i) := by
  obtain ⟨q1, q2, q3⟩ := h.place hi
  have e1 : (pti p z n i).off = ((i * z : Nat) : Int) := by unfold pti; simp only [h0]; omega
  have e2 : (pti p z n i).mf = decide (i + 1 < n) := by unfold pti; simp [hm]
  refine ⟨rfl, ⟨by rw [e1]; omega, ?_, ?_⟩, ?_⟩
  · rw [e1, q3, Int.toNat_natCast]
    omega
  · rw [e1, q3, Int.toNat_natCast]
    unfold pti
    simp only
    by_cases e : z ≤ p.b.length - i * z
    · rw [Nat.min_eq_left e]
    · rw [Nat.min_eq_right (by omega), List.take_of_length_le (by rw [List.length_drop]; omega), List.take_of_length_le (by rw [List.length_drop]; omega)]
  · unfold Pk.en
    rw [e2, e1, q3, decide_eq_false_iff_not]
    constructor
    · intro hn
      obtain rfl : i = n - 1 := by omega
      have hcov := h.cov
      rw [show n = n - 1 + 1 by omega, Nat.add_mul, Nat.one_mul] at hcov
      omega
    · intro he hn
      have h3 := q2 hn
      rw [Nat.add_mul, Nat.one_mul] at h3
      have hz := h.zp
      rw [Nat.min_eq_left (by omega)] at he
      have h4 := h.lt (by omega)
      have h5 : (i + 1) * z ≤ (n - 1) * z := Nat.mul_le_mul_right z (by omega)
      rw [Nat.add_mul, Nat.one_mul] at h5
      omega
/-- of more than one part each has bytes, and none is the packet -/
theorem PD.some {p : Pk} {m : Int} {z n : Nat} {l : List Pk} (h : PD p m z n l) (hn : 1 < n) {i : Nat} (hi : i < n) : i * z < p.b.length := by
  have h1 := h.lt hn
  have h2 : i * z ≤ (n - 1) * z := Nat.mul_le_mul_right z (by omega)
  omega
theorem PD.apart {p : Pk} {m : Int} {z n : Nat} {l : List Pk} (h : PD p m z n l) (h0 : p.off = 0) (hn : 1 < n) {i : Nat} : ¬ ((pti p z n i).off = 0 ∧ (pti p z n i).mf = false) := by
  rintro ⟨e1, e2⟩
  unfold pti at e1 e2
  simp only [h0, Bool.or_eq_false_iff, decide_eq_false_iff_not] at e1 e2
  have hz := h.zp
  have : i * z = 0 := by omega
  rcases Nat.mul_eq_zero.1 this with e | e <;> omega
theorem PD.ok {p : Pk} {m : Int} {z n : Nat} {l : List Pk} (h : PD p m z n l) (ok : p.ok) (hr : p.right = 0) {i : Nat} (hi : i < n) : (pti p z n i).ok := by
  have h2 := right_off (h.right hr hi)
  exact ⟨ok.1, ok.2.1, ⟨by omega, by omega⟩, ok.2.2.2⟩
/-- where part i's window lies -/
theorem PD.win {p : Pk} {m : Int} {z n : Nat} {l : List Pk} (h : PD p m z n l) (h0 : p.off = 0) {i : Nat} (hi : i < n) (k : Nat) : ((pti p z n i).off ≤ (k : Int) ∧ (k : Int) < (pti p z n i).en) ↔ (i * z ≤ k ∧ k < (i + 1) * z ∧ k < p.b.length) := by
  obtain ⟨q1, q2, q3⟩ := h.place hi
  have e1 : (pti p z n i).off = ((i * z : Nat) : Int) := by unfold pti; simp only [h0]; omega
  unfold Pk.en
  rw [e1, q3, Nat.add_mul, Nat.one_mul]
  omega
/-- what one part has no other one has -/
theorem PD.gap {p : Pk} {m : Int} {z n : Nat} {l : List Pk} (h : PD p m z n l) (h0 : p.off = 0) (hn : 1 < n) {g : Nat} (hg : g < n) {L : List Pk} (hL : ∀ x ∈ L, ∃ i, i < n ∧ i ≠ g ∧ x = pti p z n i) : ¬ Cov p L := by
  intro hc
  obtain ⟨x, hx, h1⟩ := hc (g * z) (h.some hn hg)
  obtain ⟨i, hi, hne, rfl⟩ := hL x hx
  have h2 := (h.win h0 hi (g * z)).1 h1
  have hz := h.zp
  rcases Nat.lt_or_ge i g with h3 | h3
  · have : (i + 1) * z ≤ g * z := Nat.mul_le_mul_right z h3
    omega
  · have : (g + 1) * z ≤ i * z := Nat.mul_le_mul_right z (by omega)
    rw [Nat.add_mul, Nat.one_mul] at this
    omega
/-- all parts cover -/
theorem PD.full {p : Pk} {m : Int} {z n : Nat} {l : List Pk} (h : PD p m z n l) (h0 : p.off = 0) {L : List Pk} (hL : ∀ i, i < n → pti p z n i ∈ L) : Cov p L := by
  intro k hk
  have hz := h.zp
  have hi : k / z < n := by
    rw [Nat.div_lt_iff_lt_mul (by omega)]
    have := h.cov
    omega
  refine ⟨_, hL _ hi, (h.win h0 hi k).2 ⟨Nat.div_mul_le_self k z, ?_, hk⟩⟩
  rw [Nat.add_mul, Nat.one_mul]
  have := Nat.div_add_mod k z
  have h2 := Nat.mod_lt k (show 0 < z by omega)
  rw [Nat.mul_comm] at this
  omega
end Go.Proofs.YtabjihchcmjdmaaDoor
/-
  The parts of a packet as Split hands them back. By an AI agent.
-/
namespace Go.Proofs.YtabjihchcmjdmaaDoor
open Go.RowKit

/-- a row of parts, as Split hands it back -/
structure PL (w : World) (Bp : Nat) (p : Pk) (m : Int) (z n : Nat) (g c : Nat) (os : List Po) : Prop where
  pd : PD p m z n (parts p m)
  one : ∀ i (h : i < os.length), os[i].1 = pti p z n i
  len : os.length = n
  op : OP w Bp (.slice (some ⟨g, 0, none⟩) n c) os
  obs : OBS w Bp os
theorem PL.up {w w' : World} {B Bp : Nat} {p : Pk} {m : Int} {z n g c : Nat} {os : List Po} (h : PL w Bp p m z n g c os) (hx : Up B w w') (hB : w.heap.size ≤ B) : PL w' Bp p m z n g c os :=
  ⟨h.pd, h.one, h.len, h.op.up hx hB, h.obs.up hx hB⟩
theorem PL.keep {w w' : World} {Bp : Nat} {p : Pk} {m : Int} {z n g c : Nat} {os : List Po} (h : PL w Bp p m z n g c os) (hx : Ex (fun _ => False) w w') : PL w' Bp p m z n g c os :=
  ⟨h.pd, h.one, h.len, h.op.keep hx (fun _ _ _ _ => id), h.obs.keep hx (fun _ _ _ _ _ _ => id)⟩
theorem PL.row {w : World} {Bp : Nat} {p : Pk} {m : Int} {z n g c : Nat} {os : List Po} (h : PL w Bp p m z n g c os) {i : Nat} (hi : i < n) :
    ∃ (mf : Bool) (off : Int) (b : List UInt8) (A : Option Addr) (c' : Nat), pti p z n i = { p with off := off, mf := mf, b := b } ∧ b.length ≤ p.b.length ∧ OB w Bp (.slice A b.length c') b ∧
      ∀ k u, (ocl ({ p with off := off, mf := mf, b := b }, A, c'))[k]? = some u → w.cell? ⟨g, i * 10 + k, none⟩ = some u := by
  have hio : i < os.length := by rw [h.len]; exact hi
  have hop : OP w Bp (.slice (some ⟨g, 0, none⟩) os.length c) os := by rw [h.len]; exact h.op
  have hrow := hop.prow i hio
  have hob := h.obs.1 os[i] (List.getElem_mem hio)
  have h1 := h.one i hio
  obtain ⟨o, ho⟩ : ∃ o, o = os[i] := ⟨_, rfl⟩
  rw [← ho] at hrow hob h1
  obtain ⟨x, A, c'⟩ := o
  simp only at h1
  have h2 : x = { p with off := x.off, mf := x.mf, b := x.b } := by rw [h1]; rfl
  refine ⟨x.mf, x.off, x.b, A, c', h1.symm.trans h2, ?_, hob, ?_⟩
  · rw [h1, (h.pd.place hi).2.2]
    omega
  · rw [← h2]
    exact hrow
theorem spe_good {p : Pk} {m : Int} (h68 : 68 ≤ m) (hr : p.right = 0) (hd : p.df = false) : spe p m = none := by
  unfold spe
  rw [if_neg (by omega), if_neg (fun h => h hr), hd]
  simp
theorem split_pl (P : Nat → Prop) (p : Pk) (A : Option Addr) (c : Nat) (m : Int) (w : World) (hr : RB w P (.slice A p.b.length c) p.b) (hA : A = none → c = 0) (hl : p.b.length ≤ 2000) (h : spe p m = none) :
    Calls Tryd.prog 15 #[pkv p (.slice A p.b.length c), .int .i64 m] w fun e w' => ∃ g c' z n os, e = .returned (.tuple #[.slice (some ⟨g, 0, none⟩) n c', .nilIface]) ∧ PL w' w.heap.size p m z n g c' os ∧ (1 ≤ n ∧ n ≤ 42) ∧ (w.heap.size ≤ g ∧ g < w'.heap.size) ∧ Ex (fun _ => False) w w' := by
  refine (split_yes P p A c m w hr hA (by omega) h).mono ?_
  rintro e w' ⟨A', c', os, rfl, hos, hop, hobs, hx⟩
  obtain ⟨z, n, hpd⟩ := parts_pd h (by omega)
  have hn := parts_len h hl
  have hlen : os.length = n := by rw [← hpd.len, ← hos, List.length_map]
  have hpos := hpd.pos
  obtain ⟨g, c2, e1, _, _⟩ := hop.get 0 (by omega)
  have hlt := hop.lt
  rw [hlen] at hop e1 ⊢
  injection e1 with e1 _ e2
  subst e1 e2
  refine ⟨g, c', z, n, os, rfl, ⟨hpd, fun i hi => ?_, hlen, hop, hobs⟩, ⟨hpos, by rw [hpd.len] at hn; exact hn⟩, hlt g rfl, hx⟩
  have h1 : (parts p m)[i]? = some os[i].1 := by rw [← hos, List.getElem?_map, List.getElem?_eq_getElem hi]; rfl
  rw [hpd.one i (by omega)] at h1
  injection h1 with h1
  exact h1.symm
end Go.Proofs.YtabjihchcmjdmaaDoor
