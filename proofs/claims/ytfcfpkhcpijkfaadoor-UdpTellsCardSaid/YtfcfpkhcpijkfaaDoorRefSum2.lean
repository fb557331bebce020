/-
  The walks of the reference for sums: fold, Sum, Update, Text, Pseudo. By an AI agent.
-/
import Derived.Test.YtfcfpkhcpijkfaaDoorPseudo
import Derived.Test.YtfcfpkhcpijkfaaDoorRef01
import Derived.Deep.QuietTactic
import Derived.BigQuiet
namespace Go.Proofs.YtfcfpkhcpijkfaaDoor
open Go.RowKit

theorem reffold_any (m : Nat) (hm : m < 4611686018427387904) (w : World) : Calls Tryd.prog 64 #[.int .i64 (m : Int)] w fun e w' => e = .returned (.int .u16 (fo m : Int)) ∧ w = w' := by
  go_enter Tryd.func64, Tryd.ntmps64
  go_wp2
  go_loop [0] (fun v => ∃ k : Nat, k < 4611686018427387904 ∧ v = .int .i64 (k : Int) ∧ Hid (fo k = fo m)) (fun v => (intOf v).toNat)
  case atStart => exact ⟨m, hm, rfl, rfl⟩
  case round =>
    obtain ⟨k, hk, rfl, he⟩ := hrel
    by_cases hlt : k < 65536
    · go_wp2
      go_ret
      refine ⟨?_, rfl⟩
      rw [← he.out, fo_small k hlt]; rfl
    · go_wp2
      go_round
      case rel => exact ⟨k % 65536 + k / 65536, by omega, by go_num, by rw [← he.out]; exact fo_step k (by omega)⟩
      case measure => simp [intOf]; omega

theorem low_16 (n : Int) : (IntKind.u64.wrap n).tmod 65536 = n % 65536 := by
  have e : IntKind.u64.wrap n = n % 18446744073709551616 := by simp [IntKind.wrap, IntKind.bits, IntKind.signed]
  rw [e, Int.tmod_eq_emod_of_nonneg (by omega)]
  omega

theorem refpseudo_any (s d p n : Int) (hs : 0 ≤ s ∧ s < 4294967296) (hd : 0 ≤ d ∧ d < 4294967296) (hp : 0 ≤ p ∧ p < 256) (hn : -9223372036854775808 ≤ n ∧ n ≤ 9223372036854775807) (w : World) :
    Calls Tryd.prog 46 #[.int .u32 s, .int .u32 d, .int .u8 p, .int .i64 n] w fun e w' => e = .returned (.string (bs (txt s 4 ++ txt d 4 ++ txt p 2 ++ txt (n % 65536) 2))) ∧ Ex (fun _ => False) w w' := by
  obtain ⟨hs0, hs1⟩ := hs
  obtain ⟨hd0, hd1⟩ := hd
  obtain ⟨hp0, hp1⟩ := hp
  obtain ⟨hn0, hn1⟩ := hn
  have hu := low_16 n
  have hn2 : 0 ≤ n % 65536 := by omega
  have hn3 : n % 65536 < 65536 := by omega
  have z1 : (bs (txt s 4)).size = 4 := by rw [bs_size, txt_len]
  have z2 : (bs (txt d 4)).size = 4 := by rw [bs_size, txt_len]
  have z3 : (bs (txt p 2)).size = 2 := by rw [bs_size, txt_len]
  have z4 : (bs (txt (n % 65536) 2)).size = 2 := by rw [bs_size, txt_len]
  have a1 := bs_append (txt s 4) (txt d 4)
  have a2 : bs (txt s 4 ++ txt d 4) ++ bs (txt p 2) = bs (txt s 4 ++ (txt d 4 ++ txt p 2)) := by rw [bs_append, List.append_assoc]
  have a3 := bs_append (txt s 4 ++ (txt d 4 ++ txt p 2)) (txt (n % 65536) 2)
  have z5 : (bs (txt s 4 ++ txt d 4)).size = 8 := by rw [bs_size]; simp [txt_len]
  have z6 : (bs (txt s 4 ++ (txt d 4 ++ txt p 2))).size = 10 := by rw [bs_size]; simp [txt_len]
  go_enter Tryd.func46, Tryd.ntmps46
  go_wp2_with fail
  refine (text_any s 4 hs0 hs1 (by omega) _).mono ?_
  rintro e w1 ⟨rfl, hx1⟩
  go_wp2_with fail
  refine (text_any d 4 hd0 hd1 (by omega) _).mono ?_
  rintro e w2 ⟨rfl, hx2⟩
  go_wp2_with fail
  refine (text_any p 2 hp0 (by omega) (by omega) _).mono ?_
  rintro e w3 ⟨rfl, hx3⟩
  go_wp2_with fail
  refine (text_any _ 2 (by omega) (by omega) (by omega) _).mono ?_
  rintro e w4 ⟨rfl, hx4⟩
  go_wp2_with fail
  go_ret
  refine ⟨?_, hx1.trans (hx2.trans (hx3.trans hx4))⟩
  show Ending.returned (.string (bs _)) = _
  simp only [List.append_assoc]

set_option maxHeartbeats 400000 in
theorem refsum_any (l : List UInt8) (hl : l.length ≤ 4294967296) (w : World) :
    Calls Tryd.prog 45 #[.string (bs l)] w fun e w' => e = .returned (.int .u16 (su l : Int)) ∧ Ex (fun _ => False) w w' := by
  have hz := bs_size l
  by_cases hodd : l.length % 2 = 1
  · have ho : (((l.length : Int) % 2) == 1) = true := by simp; omega
    obtain ⟨m, hb, hm2, hmac, hml⟩ : ∃ m, bs l ++ ⟨#[0]⟩ = bs m ∧ m.length % 2 = 0 ∧ Hid (ac true m = ac true l) ∧ m.length ≤ 4294967297 :=
      ⟨l ++ [0], bs_append l [0], by simp; omega, by show ac true (l ++ [0]) = ac true l; rw [ac_snoc]; simp, by simp; omega⟩
    have hzm := bs_size m
    go_enter Tryd.func45, Tryd.ntmps45
    go_wp2
    have hex : Ex (fun _ => False) w w := Ex.refl _ w
    go_loopw [3, 4] (fun n i wr => ∃ k : Nat, k ≤ m.length ∧ k % 2 = 0 ∧ i = .int .i64 (k : Int) ∧ n = .int .i64 (ac true (m.take k) : Int) ∧ Ex (fun _ => False) w wr) (fun _ i _ => m.length - (intOf i).toNat)
    case atStart => exact ⟨0, by omega, rfl, rfl, rfl, hex⟩
    case round =>
      clear hex
      obtain ⟨k, hk, hk2, rfl, rfl, hex⟩ := hrel
      have hle := ac_le (m.take k) true
      have hll : (m.take k).length ≤ m.length := List.length_take_le' _ _
      by_cases hlt : k < m.length
      · have hlt1 : k + 1 < m.length := by omega
        have e0 := bs_get m k hlt
        have e1 := bs_get m (k + 1) hlt1
        have b0 := (m[k]).toNat_lt
        have b1 := (m[k + 1]).toNat_lt
        have q1 := IntWalk.i64_in ((k : Int) + 1) (by omega)
        have q2 := IntWalk.i64_in (m[k].toNat : Int) (by omega)
        have q3 := IntWalk.i64_in ((m[k].toNat : Int) * 256) (by omega)
        have q4 := IntWalk.i64_in ((ac true (m.take k) : Int) + (m[k].toNat : Int) * 256) (by omega)
        have q5 := IntWalk.i64_in (m[k + 1].toNat : Int) (by omega)
        have q6 := IntWalk.i64_in ((ac true (m.take k) : Int) + (m[k].toNat : Int) * 256 + (m[k + 1].toNat : Int)) (by omega)
        have q7 : (0 : Int) ≤ (k : Int) + 1 := by omega
        have q8 : ((k : Int) + 1).toNat = k + 1 := by omega
        have hn : Hid (ac true (m.take (k + 2)) = ac true (m.take k) + m[k].toNat * 256 + m[k + 1].toNat) := by
          show ac true (m.take (k + 1 + 1)) = _
          rw [take_next m (k + 1) hlt1, take_next m k hlt, ac_snoc, ac_snoc, hi_snoc, hi_even _ _ (by rw [List.length_take]; omega)]
          simp
        go_wp2
        go_quiet (fail)
        clear q1 q2 q3 q4 q5 q6 q7 q8
        go_wp2
        go_roundw
        case rel => exact ⟨k + 2, by omega, by omega, by go_num, by rw [hn.out]; go_num, hex.drewN _⟩
        case measure => simp [intOf]; omega
      · obtain rfl : k = m.length := by omega
        have ht : m.take m.length = m := List.take_length
        have hf := fo_le (ac true m)
        rw [ht] at hle
        go_wp2_with (go_at_call 64; refine (reffold_any _ (by omega) _).mono ?_; rintro e w' ⟨rfl, rfl⟩)
        go_ret
        refine ⟨?_, hex⟩
        show Ending.returned (.int .u16 (65535 - (fo (ac true m) : Int))) = _
        unfold su
        first | rw [← hmac.out] | skip
        rw [fo_cast]
  · have ho : (((l.length : Int) % 2) == 1) = false := by simp; omega
    obtain ⟨m, hb, hm2, hmac, hml⟩ : ∃ m, m = l ∧ m.length % 2 = 0 ∧ Hid (ac true m = ac true m) ∧ m.length ≤ 4294967297 := ⟨l, rfl, by omega, rfl, by omega⟩
    subst hb
    have hzm := hz
    go_enter Tryd.func45, Tryd.ntmps45
    go_wp2
    have hex : Ex (fun _ => False) w w := Ex.refl _ w
    go_loopw [3, 4] (fun n i wr => ∃ k : Nat, k ≤ m.length ∧ k % 2 = 0 ∧ i = .int .i64 (k : Int) ∧ n = .int .i64 (ac true (m.take k) : Int) ∧ Ex (fun _ => False) w wr) (fun _ i _ => m.length - (intOf i).toNat)
    case atStart => exact ⟨0, by omega, rfl, rfl, rfl, hex⟩
    case round =>
      clear hex
      obtain ⟨k, hk, hk2, rfl, rfl, hex⟩ := hrel
      have hle := ac_le (m.take k) true
      have hll : (m.take k).length ≤ m.length := List.length_take_le' _ _
      by_cases hlt : k < m.length
      · have hlt1 : k + 1 < m.length := by omega
        have e0 := bs_get m k hlt
        have e1 := bs_get m (k + 1) hlt1
        have b0 := (m[k]).toNat_lt
        have b1 := (m[k + 1]).toNat_lt
        have q1 := IntWalk.i64_in ((k : Int) + 1) (by omega)
        have q2 := IntWalk.i64_in (m[k].toNat : Int) (by omega)
        have q3 := IntWalk.i64_in ((m[k].toNat : Int) * 256) (by omega)
        have q4 := IntWalk.i64_in ((ac true (m.take k) : Int) + (m[k].toNat : Int) * 256) (by omega)
        have q5 := IntWalk.i64_in (m[k + 1].toNat : Int) (by omega)
        have q6 := IntWalk.i64_in ((ac true (m.take k) : Int) + (m[k].toNat : Int) * 256 + (m[k + 1].toNat : Int)) (by omega)
        have q7 : (0 : Int) ≤ (k : Int) + 1 := by omega
        have q8 : ((k : Int) + 1).toNat = k + 1 := by omega
        have hn : Hid (ac true (m.take (k + 2)) = ac true (m.take k) + m[k].toNat * 256 + m[k + 1].toNat) := by
          show ac true (m.take (k + 1 + 1)) = _
          rw [take_next m (k + 1) hlt1, take_next m k hlt, ac_snoc, ac_snoc, hi_snoc, hi_even _ _ (by rw [List.length_take]; omega)]
          simp
        go_wp2
        go_quiet (fail)
        clear q1 q2 q3 q4 q5 q6 q7 q8
        go_wp2
        go_roundw
        case rel => exact ⟨k + 2, by omega, by omega, by go_num, by rw [hn.out]; go_num, hex.drewN _⟩
        case measure => simp [intOf]; omega
      · obtain rfl : k = m.length := by omega
        have ht : m.take m.length = m := List.take_length
        have hf := fo_le (ac true m)
        rw [ht] at hle
        go_wp2_with (go_at_call 64; refine (reffold_any _ (by omega) _).mono ?_; rintro e w' ⟨rfl, rfl⟩)
        go_ret
        refine ⟨?_, hex⟩
        show Ending.returned (.int .u16 (65535 - (fo (ac true m) : Int))) = _
        unfold su
        first | rw [← hmac.out] | skip
        rw [fo_cast]
end Go.Proofs.YtfcfpkhcpijkfaaDoor
