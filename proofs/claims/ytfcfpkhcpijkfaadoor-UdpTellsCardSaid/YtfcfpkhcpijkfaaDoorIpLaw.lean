/-
  Packets that are spoilt, and cut. No program in sight. By an AI agent.
-/
import Derived.Test.YtfcfpkhcpijkfaaDoorIpP
namespace Go.Proofs.YtfcfpkhcpijkfaaDoor
open Go.RowKit

theorem ac_set1 (x : UInt8) : ∀ (l : List UInt8) (h : Bool) (k : Nat) (hk : k < l.length), ∃ w, (w = 256 ∨ w = 1) ∧ ac h (l.set k x) + w * l[k].toNat = ac h l + w * x.toNat
  | [], _, _, hk => absurd hk (by simp)
  | c :: r, h, 0, _ => by
    refine ⟨if h then 256 else 1, by cases h <;> simp, ?_⟩
    cases h <;> simp [ac] <;> omega
  | c :: r, h, k + 1, hk => by
    obtain ⟨w, hw, e⟩ := ac_set1 x r (!h) k (by simpa using hk)
    refine ⟨w, hw, ?_⟩
    simp only [List.set_cons_succ, ac, List.getElem_cons_succ]
    omega
/-- one byte that is turned is seen by the sum -/
theorem su_spoilt (l : List UInt8) (k : Nat) (hk : k < l.length) (x : UInt8) (h0 : su l = 0) (hx : x ≠ l[k]) : su (l.set k x) ≠ 0 := by
  intro h1
  rw [su_zero] at h0 h1
  obtain ⟨w, hw, e⟩ := ac_set1 x l true k hk
  have a := x.toNat_lt
  have b := l[k].toNat_lt
  have hne : x.toNat ≠ l[k].toNat := fun h => hx (UInt8.toNat_inj.1 h)
  rcases hw with rfl | rfl <;> omega
theorem xor_ne (a y : UInt8) (hy : y ≠ 0) : a ^^^ y ≠ a := by
  intro h
  have : a ^^^ (a ^^^ y) = a ^^^ a := by rw [h]
  rw [← UInt8.xor_assoc, UInt8.xor_self, UInt8.zero_xor] at this
  exact hy this
theorem take20_set (p : Pk) (k : Nat) (_hk : k < 20) (x : UInt8) : ((pb p).set k x).take 20 = ((pb p).take 20).set k x := by
  rw [List.take_set]
theorem pb_take20 (p : Pk) : (pb p).take 20 = (p.hd (p.sum : Int)).bytes := take20 _ _
theorem perr_sum {l : List UInt8} (h : su (l.take 20) ≠ 0) : perr l ≠ none := fun h' => h (ppk_good h').2.2.2.1
/-- one byte of the head that is turned -/
theorem pb_spoilt (p : Pk) (k : Nat) (hk : k < 20) (y : UInt8) (hy : y ≠ 0) : perr ((pb p).set k ((pb p)[k]'(by rw [pb_len]; omega) ^^^ y)) ≠ none := by
  apply perr_sum
  rw [take20_set p k hk]
  have hl : k < ((pb p).take 20).length := by rw [List.length_take, pb_len]; omega
  refine su_spoilt _ k hl _ (by rw [pb_take20]; exact Pk.sum_ok p) ?_
  rw [List.getElem_take]
  exact xor_ne _ y hy
/-- a packet that is cut off -/
theorem pb_cut {p : Pk} (ok : p.ok) (h : p.right = 0) (k : Nat) (hk : k < (pb p).length) : ∃ r, (r = [lay5, lay1] ∨ r = [lay5]) ∧ perr ((pb p).take k) = some (r, 2) := by
  have hs := Pk.sum_le p
  have hl : ((pb p).take k).length = k := by rw [List.length_take]; omega
  rw [pb_len] at hk
  by_cases h20 : k < 20
  · exact ⟨_, .inl rfl, by unfold perr; rw [if_pos (by omega)]⟩
  · refine ⟨_, .inr rfl, ?_⟩
    have e1 : Hd.of ((pb p).take k) = p.hd (p.sum : Int) := by
      rw [← Hd.of_take (by omega), List.take_take, show min 20 k = 20 by omega, pb_take20]
      have := Hd.of_bytes (Pk.hd_ok ok h (p.sum : Int) ⟨by omega, by omega⟩) []
      rwa [List.append_nil] at this
    have e2 : su (((pb p).take k).take 20) = 0 := by
      rw [List.take_take, show min 20 k = 20 by omega, pb_take20]
      exact Pk.sum_ok p
    have e3 : (p.hd (p.sum : Int)).chk 0 k = 2 := by
      unfold Hd.chk
      show (if (69 : Int) / 16 ≠ 4 then 12 else if (69 : Int) % 16 < 5 then 3 else if (5 : Int) < 69 % 16 then 11 else if 20 + (p.b.length : Int) < 20 then 3 else if (k : Int) < 20 + (p.b.length : Int) then 2 else if (0 : Nat) ≠ 0 then 4 else if 32768 ≤ p.bits then 3 else 0) = 2
      rw [if_neg (by decide), if_neg (by decide), if_neg (by decide), if_neg (by omega), if_pos (by omega)]
    unfold perr
    rw [if_neg (by omega), e1, e2, hl, e3, if_pos (by decide)]
theorem xor_u8 (a b : UInt8) : Go.bits .xor .u8 (a.toNat : Int) (b.toNat : Int) = ((a ^^^ b).toNat : Int) := by
  have ha := a.toNat_lt
  have hb := b.toNat_lt
  have key : (BitVec.ofInt 8 (a.toNat : Int) ^^^ BitVec.ofInt 8 (b.toNat : Int)).toNat = (a ^^^ b).toNat := by
    rw [BitVec.toNat_xor, BitVec.toNat_ofInt, BitVec.toNat_ofInt, UInt8.toNat_xor, show ((a.toNat : Int) % ((2 ^ 8 : Nat) : Int)).toNat = a.toNat by omega, show ((b.toNat : Int) % ((2 ^ 8 : Nat) : Int)).toNat = b.toNat by omega]
  have hl := (a ^^^ b).toNat_lt
  show IntKind.u8.wrap ((BitVec.ofInt 8 (a.toNat : Int) ^^^ BitVec.ofInt 8 (b.toNat : Int)).toNat : Nat) = _
  rw [key, IntKind.wrap_u8]
  omega
end Go.Proofs.YtfcfpkhcpijkfaaDoor
