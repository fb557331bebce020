/-
  The walks of package sum: folded, Sum, Valid, Update. By an AI agent.
-/
import Derived.Test.YtfcfpkhcpijkfaaDoorProg
import Derived.Test.YtfcfpkhcpijkfaaDoorBy
import Derived.Test.YtfcfpkhcpijkfaaDoorSumMath
namespace Go.Proofs.YtfcfpkhcpijkfaaDoor
open Go.RowKit

theorem and_ffff (x : Int) (h0 : 0 ≤ x) (h1 : x < 18446744073709551616) : Go.bits .and .u64 x 65535 = x % 65536 :=
  bits_mask .u64 64 (by decide) (fun n a b => by simp [IntKind.wrap, IntKind.bits, IntKind.signed]; omega) 16 (by decide) x h0 h1
theorem xor_ffff (b : Nat) (h : b < 65536) : 65535 ^^^ b = 65535 - b := by
  have h1 : (BitVec.allOnes 16 ^^^ BitVec.ofNat 16 b) = ~~~ (BitVec.ofNat 16 b) := by rw [BitVec.xor_comm, BitVec.xor_allOnes]
  have h2 := congrArg BitVec.toNat h1
  simp only [BitVec.toNat_xor, BitVec.toNat_allOnes, BitVec.toNat_ofNat, BitVec.toNat_not] at h2
  have e : b % 2 ^ 16 = b := Nat.mod_eq_of_lt h
  rw [e] at h2
  exact h2
theorem u16_max : IntKind.u16.max = 65535 := rfl
theorem u16_signed : IntKind.u16.signed = false := rfl
/-- '^x' of a uint16 -/
theorem not_16 (b : Nat) (h : b ≤ 65535) : Go.bits .xor .u16 IntKind.u16.max (b : Int) = ((65535 - b : Nat) : Int) := by
  have := u16_xor_nat 65535 b (by omega) (by omega)
  rw [xor_ffff b (by omega)] at this
  exact this
theorem and_i64 (n : Int) : Go.bits .and .i64 n 65535 = n % 65536 := by
  have h127 : (BitVec.ofInt 64 65535).toNat = 2 ^ 16 - 1 := by decide
  have key : (BitVec.ofInt 64 n &&& BitVec.ofInt 64 65535).toNat = (n % ((2 ^ 64 : Nat) : Int)).toNat % 2 ^ 16 := by
    rw [BitVec.toNat_and, BitVec.toNat_ofInt, h127, Nat.and_two_pow_sub_one_eq_mod]
  show IntKind.i64.wrap ((BitVec.ofInt 64 n &&& BitVec.ofInt 64 65535).toNat : Nat) = n % 65536
  rw [key, IntKind.wrap_i64]
  omega
theorem fo_cast (n : Nat) : ((65535 - fo n : Nat) : Int) = 65535 - (fo n : Int) := by have := fo_le n; omega

theorem folded_any (m : Nat) (hm : m < 4611686018427387904) (w : World) : Calls Tryd.prog 69 #[.int .u64 (m : Int)] w fun e w' => e = .returned (.int .u16 (fo m : Int)) ∧ w = w' := by
  go_enter Tryd.func69, Tryd.ntmps69
  go_wp2
  go_loop [0] (fun v => ∃ k : Nat, k < 4611686018427387904 ∧ v = .int .u64 (k : Int) ∧ Hid (fo k = fo m)) (fun v => (intOf v).toNat)
  case atStart => exact ⟨m, hm, rfl, rfl⟩
  case round =>
    obtain ⟨k, hk, rfl, he⟩ := hrel
    have ha := and_ffff k (by omega) (by omega)
    by_cases hlt : k < 65536
    · have hq : ((k : Int) / 65536 != 0) = false := by simp; omega
      go_wp2
      go_ret
      refine ⟨?_, rfl⟩
      rw [← he.out, fo_small k hlt]; rfl
    · have hq : ((k : Int) / 65536 != 0) = true := by simp; omega
      go_wp2
      go_round
      case rel => exact ⟨k % 65536 + k / 65536, by omega, by go_num, by rw [← he.out]; exact fo_step k (by omega)⟩
      case measure => simp [intOf]; omega

set_option maxHeartbeats 400000 in
theorem sum_any (P : Nat → Prop) (v : Value) (ls : List (List UInt8)) (w : World) (hr : RB2 w P v ls) (hn : ls.flatten.length ≤ 4294967296) :
    Calls Tryd.prog 49 #[v] w fun e w' => e = .returned (.int .u16 (su ls.flatten : Int)) ∧ w = w' := by
  obtain ⟨hl, A, c, rfl, hc, hcell⟩ := hr
  have HC := Lib.hid hcell
  clear hcell
  go_enter Tryd.func49, Tryd.ntmps49
  go_wp2
  go_loop [3, 4, 11] (fun n h i => ∃ k : Nat, k ≤ ls.length ∧ i = .int .i64 (k : Int) ∧ n = .int .u64 (ac true (ls.take k).flatten : Int) ∧ h = .bool (hi true (ls.take k).flatten)) (fun _ _ i => ls.length - (intOf i).toNat)
  case atStart => exact ⟨0, Nat.zero_le _, rfl, rfl, rfl⟩
  case round =>
    obtain ⟨k, hk, rfl, rfl, rfl⟩ := hrel
    by_cases hlt : k < ls.length
    · obtain ⟨b, off, vi, rfl, _, hvi, hli, Ai, ci, rfl, hci, hcelli⟩ := HC.out k hlt
      have HI := Lib.hid hcelli
      clear hcelli
      have hfl := flat_len ls k
      have hfl2 := flat_len ls (k + 1)
      have hfn := flat_next ls k hlt
      rw [hfn, List.length_append] at hfl2
      have HFN := Lib.hid hfn
      clear hfn
      go_wp2
      go_loop [3, 4, 17] (fun n h i => ∃ j : Nat, j ≤ ls[k].length ∧ i = .int .i64 (j : Int) ∧ n = .int .u64 (ac true ((ls.take k).flatten ++ ls[k].take j) : Int) ∧ h = .bool (hi true ((ls.take k).flatten ++ ls[k].take j))) (fun _ _ i => ls[k].length - (intOf i).toNat)
      case atStart => exact ⟨0, Nat.zero_le _, rfl, by simp, by simp⟩
      case round =>
        obtain ⟨j, hj, rfl, rfl, rfl⟩ := hrel
        by_cases hjt : j < ls[k].length
        · obtain ⟨bi, offi, rfl, _, hci⟩ := HI.out j hjt
          have hb := (ls[k][j]).toNat_lt
          have ht := take_next ls[k] j hjt
          have hs := ac_snoc ((ls.take k).flatten ++ ls[k].take j) ls[k][j] true
          have hh := hi_snoc ((ls.take k).flatten ++ ls[k].take j) ls[k][j] true
          rw [List.append_assoc, ← ht] at hs hh
          have hle := ac_le ((ls.take k).flatten ++ ls[k].take j) true
          have hll : ((ls.take k).flatten ++ ls[k].take j).length ≤ 4294967296 := by simp only [List.length_append, List.length_take]; omega
          have HS := Lib.hid hs
          have HH := Lib.hid hh
          clear hs hh ht
          go_wp2
          all_goals
            have hq := ‹hi true ((List.take k ls).flatten ++ List.take j ls[k]) = _›
            go_round
            case rel => exact ⟨j + 1, hjt, by go_num, by rw [HS.out, hq]; go_num, by rw [HH.out, hq]; rfl⟩
            case measure => simp [intOf]; omega
        · obtain rfl : j = ls[k].length := by omega
          go_wp2
          go_round
          case rel => exact ⟨k + 1, hlt, by go_num, by rw [HFN.out, List.take_length], by rw [HFN.out, List.take_length]⟩
          case measure => simp [intOf]; omega
    · obtain rfl : k = ls.length := by omega
      have ht : (ls.take ls.length).flatten = ls.flatten := by rw [List.take_length]
      have hle := ac_le ls.flatten true
      have hf := fo_le (ac true ls.flatten)
      have hx := not_16 (fo (ac true ls.flatten)) hf
      have hs := u16_signed
      go_wp2_with (go_at_call 69; refine (folded_any _ (by omega) _).mono ?_; rintro e w' ⟨rfl, rfl⟩)
      go_ret
      exact ⟨rfl, rfl⟩

theorem valid_any (P : Nat → Prop) (v : Value) (ls : List (List UInt8)) (w : World) (hr : RB2 w P v ls) (hn : ls.flatten.length ≤ 4294967296) :
    Calls Tryd.prog 42 #[v] w fun e w' => e = .returned (.bool ((su ls.flatten : Int) == 0)) ∧ w = w' := by
  go_enter Tryd.func42, Tryd.ntmps42
  go_wp2_with (go_at_call 49; refine (sum_any P v ls _ hr hn).mono ?_; rintro e w' ⟨rfl, rfl⟩)
  go_ret
  exact ⟨rfl, rfl⟩

/-- Sum of one slice, of two -/
theorem sum1_any (P : Nat → Prop) (v : Value) (l : List UInt8) (w : World) (t : TypeId) (g : Nat) (hg : g = w.heap.size) (hr : RB w P v l) (hl : l.length ≤ 4294967296) :
    Calls Tryd.prog 49 #[.slice (some ⟨g, 0, none⟩) 1 1] (w.alloc (.cells #[v] t)) fun e w' => e = .returned (.int .u16 (su l : Int)) ∧ w.alloc (.cells #[v] t) = w' := by
  have h := sum_any _ _ [l] _ (RB2.one hr t hg) (by simpa using hl)
  simpa using h
theorem sum2_any (P : Nat → Prop) (v1 v2 : Value) (l1 l2 : List UInt8) (w : World) (t : TypeId) (g : Nat) (hg : g = w.heap.size) (h1 : RB w P v1 l1) (h2 : RB w P v2 l2) (hl : l1.length + l2.length ≤ 4294967296) :
    Calls Tryd.prog 49 #[.slice (some ⟨g, 0, none⟩) 2 2] (w.alloc (.cells #[v1, v2] t)) fun e w' => e = .returned (.int .u16 (su (l1 ++ l2) : Int)) ∧ w.alloc (.cells #[v1, v2] t) = w' := by
  have h := sum_any _ _ [l1, l2] _ (RB2.two h1 h2 t hg) (by simpa using hl)
  simpa using h
theorem valid1_any (P : Nat → Prop) (v : Value) (l : List UInt8) (w : World) (t : TypeId) (g : Nat) (hg : g = w.heap.size) (hr : RB w P v l) (hl : l.length ≤ 4294967296) :
    Calls Tryd.prog 42 #[.slice (some ⟨g, 0, none⟩) 1 1] (w.alloc (.cells #[v] t)) fun e w' => e = .returned (.bool (decide (su l = 0))) ∧ w.alloc (.cells #[v] t) = w' := by
  have h := valid_any _ _ [l] _ (RB2.one hr t hg) (by simpa using hl)
  have e : ((su l : Int) == 0) = decide (su l = 0) := by rw [Bool.eq_iff_iff]; simp
  simpa [e] using h
theorem valid2_any (P : Nat → Prop) (v1 v2 : Value) (l1 l2 : List UInt8) (w : World) (t : TypeId) (g : Nat) (hg : g = w.heap.size) (h1 : RB w P v1 l1) (h2 : RB w P v2 l2) (hl : l1.length + l2.length ≤ 4294967296) :
    Calls Tryd.prog 42 #[.slice (some ⟨g, 0, none⟩) 2 2] (w.alloc (.cells #[v1, v2] t)) fun e w' => e = .returned (.bool (decide (su (l1 ++ l2) = 0))) ∧ w.alloc (.cells #[v1, v2] t) = w' := by
  have h := valid_any _ _ [l1, l2] _ (RB2.two h1 h2 t hg) (by simpa using hl)
  have e : ((su (l1 ++ l2) : Int) == 0) = decide (su (l1 ++ l2) = 0) := by rw [Bool.eq_iff_iff]; simp
  simpa [e] using h
end Go.Proofs.YtfcfpkhcpijkfaaDoor
