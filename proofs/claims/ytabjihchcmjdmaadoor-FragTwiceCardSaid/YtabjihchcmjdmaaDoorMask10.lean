/-
  Masks and remainders of an int. By an AI agent.
-/
import Derived.Test.YtabjihchcmjdmaaDoorGh10
namespace Go.Proofs.YtabjihchcmjdmaaDoor
open Go.RowKit

theorem and_mask (x : Int) (k : Nat) (hk : k ≤ 65535) : ∃ v : Nat, bits .and .i64 x (k : Int) = (v : Int) ∧ v ≤ k := by
  refine ⟨((BitVec.ofInt 64 x) &&& (BitVec.ofInt 64 (k : Int))).toNat, ?_, ?_⟩
  · have h : ((BitVec.ofInt 64 x) &&& (BitVec.ofInt 64 (k : Int))).toNat ≤ k := by
      rw [BitVec.toNat_and]
      refine Nat.le_trans Nat.and_le_right ?_
      rw [BitVec.toNat_ofInt]
      omega
    show IntKind.i64.wrap _ = _
    rw [IntKind.wrap_i64]
    have h2 : (((BitVec.ofInt 64 x) &&& (BitVec.ofInt 64 (k : Int))).toNat : Int) ≤ 65535 := by omega
    show ((((BitVec.ofInt 64 x) &&& (BitVec.ofInt 64 (k : Int))).toNat : Int) + _) % _ - _ = _
    omega
  · rw [BitVec.toNat_and]
    refine Nat.le_trans Nat.and_le_right ?_
    rw [BitVec.toNat_ofInt]
    omega
theorem rem_nat (k n : Nat) (hn : 0 < n) : ∃ r : Nat, (k : Int).tmod (n : Int) = (r : Int) ∧ r < n :=
  ⟨k % n, by rw [Int.tmod_eq_emod_of_nonneg (by omega)]; rfl, Nat.mod_lt _ hn⟩
theorem and16 (x : Int) : ∃ v : Nat, bits .and .i64 x 65535 = (v : Int) ∧ v ≤ 65535 := by
  obtain ⟨v, h, hv⟩ := and_mask x 65535 (by omega)
  exact ⟨v, h, hv⟩
theorem and12 (x : Int) : ∃ v : Nat, bits .and .i64 x 4095 = (v : Int) ∧ v ≤ 4095 := by
  obtain ⟨v, h, hv⟩ := and_mask x 4095 (by omega)
  exact ⟨v, h, hv⟩
theorem rem15 (k : Nat) : ∃ r : Nat, (k : Int).tmod 1500 = (r : Int) ∧ r < 1500 := by
  obtain ⟨r, h, hr⟩ := rem_nat k 1500 (by omega)
  exact ⟨r, h, hr⟩
theorem rem5 (k : Nat) : ∃ r : Nat, (k : Int).tmod 500 = (r : Int) ∧ r < 500 := by
  obtain ⟨r, h, hr⟩ := rem_nat k 500 (by omega)
  exact ⟨r, h, hr⟩
theorem list1 {α β : Type} {f : α → β} {l : List α} {a : β} (h : l.map f = [a]) : ∃ x, l = [x] ∧ f x = a := by
  match l, h with
  | [x], h =>
    simp only [List.map_cons, List.map_nil, List.cons.injEq, and_true] at h
    exact ⟨x, rfl, h⟩
theorem OB.anyA {w : World} {B c : Nat} {A : Option Addr} {l : List UInt8} (h : OB w B (.slice A l.length c) l) : A = none → c = 0 := by
  rintro rfl
  obtain ⟨_, ⟨e, _⟩ | ⟨b, cap, cur, e, _⟩⟩ := h.2
  · injection e
  · injection e with e _ _
    cases e
end Go.Proofs.YtabjihchcmjdmaaDoor
