/-
  The contract of law 05's alike. By an AI agent.
-/
import Derived.Test.YtfcfpkhcpijkfaaDoorRow
import Derived.Deep.QuietTactic
import Derived.BigQuiet
import Derived.IntWalk
namespace Go.Proofs.YtfcfpkhcpijkfaaDoor
open Go.RowKit

theorem RB.at {w : World} {P : Nat → Prop} {A : Option Addr} {n c : Nat} {l : List UInt8} (h : RB w P (.slice A n c) l) (hn : 0 < l.length) :
    n = l.length ∧ ∃ b off, A = some ⟨b, off, none⟩ ∧ ∀ i (hi : i < l.length), w.cell? ⟨b, off + i, none⟩ = some (.int .u8 (l[i].toNat : Int)) := by
  obtain ⟨_, A', c', e, _, hc⟩ := h
  injection e with e1 e2 e3
  subst e1 e3
  obtain ⟨b, off, rfl, _, _⟩ := hc 0 hn
  refine ⟨e2, b, off, rfl, fun i hi => ?_⟩
  obtain ⟨b', off', e, _, h2⟩ := hc i hi
  injection e with e
  injection e with e4 e5
  subst e4 e5
  exact h2
set_option maxRecDepth 100000 in
set_option maxHeartbeats 4000000 in
theorem alike_same (P Q : Nat → Prop) (A B : Option Addr) (n c m d : Nat) (l r : List UInt8) (w : World) (hr : RB w P (.slice A n c) l) (hq : RB w Q (.slice B m d) r) (hml : l.length ≤ 1000000) (h20 : 20 ≤ l.length) (hlr : ∀ i (h : i < l.length), ∃ h2 : i < r.length, l[i] = r[i]) :
    Calls Tryd.prog 33 #[.slice A n c, .slice B m d] w fun e w' => e = .returned (.bool true) ∧ Ex (fun _ => False) w w' := by
  obtain rfl : n = l.length := by obtain ⟨_, _, _, e, _⟩ := hr; injection e
  obtain rfl : m = r.length := by obtain ⟨_, _, _, e, _⟩ := hq; injection e
  have hmr : r.length ≤ 9223372036854775807 := hq.1
  have HR := Lib.hid hr
  have HQ := Lib.hid hq
  have HLR := Lib.hid hlr
  clear hr hq hlr
  go_enter Tryd.func33, Tryd.ntmps33
  go_wp2
  have hex : Ex (fun _ => False) w w := Ex.refl _ w
  go_loopw [5] (fun i wr => ∃ k : Nat, k ≤ l.length ∧ i = .int .i64 (k : Int) ∧ Ex (fun _ => False) w wr) (fun i _ => l.length - (intOf i).toNat)
  case atStart => exact ⟨0, by omega, rfl, hex⟩
  case round =>
    clear hex
    obtain ⟨k, hk, rfl, hex⟩ := hrel
    have HEX := Lib.hid hex
    clear hex
    by_cases hlt : k < l.length
    ·
      obtain ⟨hk4, hkk⟩ := HLR.out k hlt
      obtain ⟨_, b1, o1, rfl, hc1⟩ := HR.out.at (by omega)
      obtain ⟨_, b2, o2, rfl, hc2⟩ := HQ.out.at (by omega)
      have ck := HEX.out.cell (hc1 k hlt) id
      have dk := HEX.out.cell (hc2 k hk4) id
      rw [← hkk] at dk
      have hi1 : (k : Int) < (l.length : Int) := by omega
      have hi2 : (k : Int) < (r.length : Int) := by omega
      have hi3 : (0 : Int) ≤ (k : Int) := by omega
      generalize l[k].toNat = x at ck dk
      clear hkk
      by_cases hk1 : k = 10 ∨ k = 11
      ·
        obtain ⟨g10, hg10⟩ := HLR.out 10 (by omega)
        obtain ⟨g11, hg11⟩ := HLR.out 11 (by omega)
        have c10 := HEX.out.cell (hc1 10 (by omega)) id
        have c11 := HEX.out.cell (hc1 11 (by omega)) id
        have d10 := HEX.out.cell (hc2 10 (by omega)) id
        have d11 := HEX.out.cell (hc2 11 (by omega)) id
        rw [← hg10] at d10
        rw [← hg11] at d11
        clear hg10 hg11 hc1 hc2 ck dk
        generalize l[10].toNat = x10 at c10 d10
        generalize l[11].toNat = x11 at c11 d11
        obtain ⟨p0, hp0⟩ : ∃ p, ((x10 : Int) == 0) = p := ⟨_, rfl⟩
        obtain ⟨p1, hp1⟩ : ∃ p, ((x11 : Int) == 0) = p := ⟨_, rfl⟩
        obtain ⟨q0, hq0⟩ : ∃ p, ((x10 : Int) == 255) = p := ⟨_, rfl⟩
        obtain ⟨q1, hq1⟩ : ∃ p, ((x11 : Int) == 255) = p := ⟨_, rfl⟩
        have i10 : (10 : Int) < (l.length : Int) := by omega
        have i11 : (11 : Int) < (l.length : Int) := by omega
        have j10 : (10 : Int) < (r.length : Int) := by omega
        have j11 : (11 : Int) < (r.length : Int) := by omega
        have n10 : 10 < l.length := by omega
        have n11 : 11 < l.length := by omega
        rcases hk1 with rfl | rfl
        ·
          cases p0 <;> cases p1 <;> cases q0 <;> cases q1
          all_goals
            go_upto_region 5 with fail
            go_quiet (fail)
            go_wp2_with fail
            go_roundw
            case rel => exact ⟨11, by omega, by go_num, HEX.out.drewN _⟩
            case measure => simp [intOf]; omega
        ·
          cases p0 <;> cases p1 <;> cases q0 <;> cases q1
          all_goals
            go_upto_region 5 with fail
            go_quiet (fail)
            go_wp2_with fail
            go_roundw
            case rel => exact ⟨12, by omega, by go_num, HEX.out.drewN _⟩
            case measure => simp [intOf]; omega
      ·
        have e10 : ((k : Int) == 10) = false := by rw [beq_eq_false_iff_ne]; omega
        have e11 : ((k : Int) == 11) = false := by rw [beq_eq_false_iff_ne]; omega
        clear hk1
        clear hc1 hc2
        go_upto_region 5 with fail
        go_quiet (fail)
        go_wp2_with fail
        go_roundw
        case rel => exact ⟨k + 1, by omega, by go_num, HEX.out.drewN _⟩
        case measure => simp [intOf]; omega
    · have hke : k = l.length := by omega
      subst hke
      go_wp2_with fail
      go_ret
      exact ⟨rfl, HEX.out⟩
set_option maxRecDepth 100000 in
set_option maxHeartbeats 4000000 in
theorem alike_sum (P Q : Nat → Prop) (A B : Option Addr) (n c m d : Nat) (l r : List UInt8) (w : World) (hr : RB w P (.slice A n c) l) (hq : RB w Q (.slice B m d) r) (hml : l.length ≤ 1000000) (h20 : 20 ≤ l.length) (hle : l.length ≤ r.length) (hlr : ∀ i (h : i < l.length), i ≠ 10 → i ≠ 11 → ∃ h2 : i < r.length, l[i] = r[i]) (hl10 : l[10]'(by omega) = 0) (hl11 : l[11]'(by omega) = 0) (hr10 : r[10]'(by omega) = 255) (hr11 : r[11]'(by omega) = 255) :
    Calls Tryd.prog 33 #[.slice A n c, .slice B m d] w fun e w' => e = .returned (.bool true) ∧ Ex (fun _ => False) w w' := by
  obtain rfl : n = l.length := by obtain ⟨_, _, _, e, _⟩ := hr; injection e
  obtain rfl : m = r.length := by obtain ⟨_, _, _, e, _⟩ := hq; injection e
  have hmr : r.length ≤ 9223372036854775807 := hq.1
  have HR := Lib.hid hr
  have HQ := Lib.hid hq
  have HLR := Lib.hid hlr
  clear hr hq hlr
  have H1 := Lib.hid hl10
  have H2 := Lib.hid hl11
  have H3 := Lib.hid hr10
  have H4 := Lib.hid hr11
  clear hl10 hl11 hr10 hr11
  go_enter Tryd.func33, Tryd.ntmps33
  go_wp2
  have hex : Ex (fun _ => False) w w := Ex.refl _ w
  go_loopw [5] (fun i wr => ∃ k : Nat, k ≤ l.length ∧ i = .int .i64 (k : Int) ∧ Ex (fun _ => False) w wr) (fun i _ => l.length - (intOf i).toNat)
  case atStart => exact ⟨0, by omega, rfl, hex⟩
  case round =>
    clear hex
    obtain ⟨k, hk, rfl, hex⟩ := hrel
    have HEX := Lib.hid hex
    clear hex
    by_cases hlt : k < l.length
    ·
      by_cases hk1 : k = 10 ∨ k = 11
      ·
        obtain ⟨_, b1, o1, rfl, hc1⟩ := HR.out.at (by omega)
        obtain ⟨_, b2, o2, rfl, hc2⟩ := HQ.out.at (by omega)
        have c10 := HEX.out.cell (hc1 10 (by omega)) id
        have c11 := HEX.out.cell (hc1 11 (by omega)) id
        have d10 := HEX.out.cell (hc2 10 (by omega)) id
        have d11 := HEX.out.cell (hc2 11 (by omega)) id
        rw [H1.out] at c10
        rw [H2.out] at c11
        rw [H3.out] at d10
        rw [H4.out] at d11
        have z0 : (((0 : UInt8).toNat : Nat) : Int) = 0 := rfl
        have z1 : (((255 : UInt8).toNat : Nat) : Int) = 255 := rfl
        rw [z0] at c10 c11
        rw [z1] at d10 d11
        clear hc1 hc2 z0 z1
        have i10 : (10 : Int) < (l.length : Int) := by omega
        have i11 : (11 : Int) < (l.length : Int) := by omega
        have j10 : (10 : Int) < (r.length : Int) := by omega
        have j11 : (11 : Int) < (r.length : Int) := by omega
        have n10 : 10 < l.length := by omega
        have n11 : 11 < l.length := by omega
        rcases hk1 with rfl | rfl
        ·
          go_upto_region 5 with fail
          go_quiet (fail)
          go_wp2_with fail
          go_roundw
          case rel => exact ⟨11, by omega, by go_num, HEX.out.drewN _⟩
          case measure => simp [intOf]; omega
        ·
          go_upto_region 5 with fail
          go_quiet (fail)
          go_wp2_with fail
          go_roundw
          case rel => exact ⟨12, by omega, by go_num, HEX.out.drewN _⟩
          case measure => simp [intOf]; omega
      ·
        have hk2 : k ≠ 10 := fun h => hk1 (.inl h)
        have hk3 : k ≠ 11 := fun h => hk1 (.inr h)
        obtain ⟨hk4, hkk⟩ := HLR.out k hlt hk2 hk3
        have e10 : ((k : Int) == 10) = false := by rw [beq_eq_false_iff_ne]; omega
        have e11 : ((k : Int) == 11) = false := by rw [beq_eq_false_iff_ne]; omega
        clear hk1 hk2 hk3
        obtain ⟨_, b1, o1, rfl, hc1⟩ := HR.out.at (by omega)
        obtain ⟨_, b2, o2, rfl, hc2⟩ := HQ.out.at (by omega)
        have ck := HEX.out.cell (hc1 k hlt) id
        have dk := HEX.out.cell (hc2 k hk4) id
        rw [← hkk] at dk
        have hi1 : (k : Int) < (l.length : Int) := by omega
        have hi2 : (k : Int) < (r.length : Int) := by omega
        have hi3 : (0 : Int) ≤ (k : Int) := by omega
        generalize l[k].toNat = x at ck dk
        clear hkk
        clear hc1 hc2
        go_upto_region 5 with fail
        go_quiet (fail)
        go_wp2_with fail
        go_roundw
        case rel => exact ⟨k + 1, by omega, by go_num, HEX.out.drewN _⟩
        case measure => simp [intOf]; omega
    · have hke : k = l.length := by omega
      subst hke
      go_wp2_with fail
      go_ret
      exact ⟨rfl, HEX.out⟩
end Go.Proofs.YtfcfpkhcpijkfaaDoor
