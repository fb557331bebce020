/-
  More of the plain law of the Internet checksum. By an AI agent.
-/
import Derived.Test.YteefinlpfgbefaaBy
import Derived.Test.YteefinlpfgbefaaSumMath
namespace Go.Proofs.Yteefinlpfgbefaa

theorem su_own (A s : Nat) (h : s = 65535 - fo A) : fo (A + s) = 65535 := by
  have h1 := fo_le A
  have h2 := fo_rest A
  have h3 := fo_zero A
  rw [fo_full]
  by_cases hA : A = 0
  · have := h3.2 hA; omega
  · have : fo A ≠ 0 := fun e => hA (h3.1 e); omega
/-- bytes, an even number of them, with their sum behind, or ahead -/
theorem su_behind (l : List UInt8) (h : l.length % 2 = 0) (a b : UInt8) (hs : a.toNat * 256 + b.toNat = su l) : su (l ++ [a, b]) = 0 := by
  have e0 : ac true [a, b] = a.toNat * 256 + (b.toNat + 0) := rfl
  have e := su_own (ac true l) (su l) rfl
  unfold su at *
  rw [ac_append, hi_even _ _ h, e0, show ac true l + (a.toNat * 256 + (b.toNat + 0)) = ac true l + (65535 - fo (ac true l)) by omega, e]
theorem su_ahead (l : List UInt8) (a b : UInt8) (hs : a.toNat * 256 + b.toNat = su l) : su ([a, b] ++ l) = 0 := by
  have e0 : ac true [a, b] = a.toNat * 256 + (b.toNat + 0) := rfl
  have e := su_own (ac true l) (su l) rfl
  have e1 : ac true ([a, b] ++ l) = ac true l + su l := by
    have e2 := ac_append [a, b] l true
    have e3 : hi true [a, b] = true := by rw [hi_cons, hi_cons, hi_nil]; rfl
    rw [e3, e0] at e2
    omega
  show 65535 - fo (ac true ([a, b] ++ l)) = 0
  rw [e1, e]
theorem su_pad (l : List UInt8) : su (l ++ [0]) = su l := by
  unfold su
  rw [ac_snoc]
  have : (0 : UInt8).toNat = 0 := rfl
  simp [this]
theorem ac_drop (l : List UInt8) (i : Nat) (h2 : 2 ≤ i) (hi : i ≤ l.length) : ac true (l.drop (i - 2)) = (l[i - 2].toNat * 256 + l[i - 1].toNat) + ac true (l.drop i) := by
  rw [List.drop_eq_getElem_cons (show i - 2 < l.length by omega), List.drop_eq_getElem_cons (show i - 2 + 1 < l.length by omega)]
  have e1 : i - 2 + 1 = i - 1 := by omega
  have e2 : i - 1 + 1 = i := by omega
  simp only [e1, e2]
  show l[i - 2].toNat * 256 + (l[i - 1].toNat + ac true (l.drop i)) = _
  omega
end Go.Proofs.Yteefinlpfgbefaa
