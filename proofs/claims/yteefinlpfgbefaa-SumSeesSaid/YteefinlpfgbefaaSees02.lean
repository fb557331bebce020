/-
  The walk of the law SumSees. By an AI agent.
-/
import Derived.Test.YteefinlpfgbefaaLaw02
import Derived.Deep.QuietTactic
import Derived.BigQuiet
namespace Go.Proofs.Yteefinlpfgbefaa
open Go.RowKit

set_option maxHeartbeats 1000000 in
theorem sees_any (P : Nat → Prop) (v : Value) (l : List UInt8) (at_ n : Int) (w : World) (hr : RB w P v l) (hn : 0 ≤ n ∧ n < 65536) (ha : -9223372036854775808 ≤ at_ ∧ at_ ≤ 9223372036854775807) :
    Calls Try.prog 6 #[v, .int .i64 at_, .int .u16 n] w fun e w' => e = .returned (.bool true) ∧ Ex (fun _ => False) w w' := by
  obtain ⟨n, rfl⟩ := Int.eq_ofNat_of_zero_le hn.1
  have hn1 : n < 65536 := by omega
  obtain ⟨ha0, ha1⟩ := ha
  clear hn
  have hr := hr.old
  obtain ⟨hl, A, c, rfl, hc, hcell⟩ := hr
  have HR : Hid (RB w (fun k => P k ∧ k < w.heap.size) (.slice A l.length c) l) := ⟨hl, A, c, rfl, hc, hcell⟩
  clear hcell hr
  obtain ⟨i0, hi, hz0, hz1, hz2⟩ := info_parts Try.info5
  obtain ⟨m, hm, hm1, HM⟩ : ∃ m : Nat, (if 200 < (l.length : Int) then (200 : Int) else (l.length : Int)) = (m : Int) ∧ m ≤ l.length ∧ Hid (m = (l.take 200).length) := by
    refine ⟨(l.take 200).length, ?_, by simp; omega, rfl⟩
    rw [List.length_take]; split <;> omega
  have hmi : (m : Int) ≤ (l.length : Int) := by omega
  go_enter Try.func6, Try.ntmps6
  go_wp2_with fail
  refine (shown_any _).mono ?_
  rintro e w1 ⟨rfl, hx1⟩
  obtain ⟨l2, hr2, hb2⟩ : ∃ l2 : List UInt8, RB w (fun k => P k ∧ k < w.heap.size) (.slice A m c) l2 ∧ l2.length ≤ 200 :=
    ⟨l.take 200, by rw [HM.out]; exact HR.out.take 200, by simp; omega⟩
  have HX := Lib.hid hx1
  clear hx1 HM HR
  by_cases hodd : l2.length % 2 = 1
  · have ho : (((l2.length : Int) % 2) == 1) = true := by simp; omega
    obtain ⟨M, hM, hM2, hMl⟩ : ∃ M, Hid (l2 ++ [0] = M) ∧ M.length % 2 = 0 ∧ M.length ≤ 201 := ⟨l2 ++ [0], rfl, by simp; omega, by simp; omega⟩
    obtain ⟨x, hx, hx1⟩ : ∃ x : Nat, Go.bits .and .i64 at_ 65535 = (x : Int) ∧ x ≤ 65535 := ⟨(at_ % 65536).toNat, by rw [and_i64]; omega, by omega⟩
    go_wp2_with (first | (at_builtin; refine wpList_append_om i0 32 Try.underlying32 hi hz0 hz1 hz2 rfl (.tmp 12) (.tmp 17) rfl w (fun _ => False) w1.heap.size (.slice (some ⟨w1.heap.size, 0, none⟩) 0 0) [] rfl _ (.slice A m c) l2 l2 rfl rfl (HX.out.alloc _) (OB.lit w1 w1.heap.size [] (Nat.le_refl _) (by simp)) ((hr2.keep HX.out (fun _ _ _ => id)).alloc _) ?c1 HX.out.size ?c2 ?_; (case c1 => simp; omega); (case c2 => simp); intro A2 c2 w2 ho2 hx2 hz2x; try simp only [World.size_alloc] at hz2x) | (at_builtin; refine wpList_append_om i0 32 Try.underlying32 hi hz0 hz1 hz2 rfl (.tmp 23) (.tmp 24) rfl w (fun _ => False) w1.heap.size (.slice A2 l2.length c2) l2 rfl _ (.slice (some ⟨w2.heap.size, 0, none⟩) 1 1) [0] M hM.out rfl (hx2.alloc _) (ho2.alloc _) (RB.made w2 [0] _ _ (by rfl) (by simp) _ _ rfl (Nat.le_refl _) rfl) ?c1 HX.out.size ?c2 ?_; (case c1 => simp; omega); (case c2 => simp; omega); intro A3 c3 w3 ho3 hx3 hz3; try simp only [World.size_alloc] at hz3; have hsz3 : w1.heap.size ≤ w3.heap.size := (by omega)))
    have ho3 := Lib.hid ho3
    have hx3 := Lib.hid hx3
    refine (sum1_any _ _ M _ _ _ rfl ho3.out.rb (by omega)).mono ?_
    rintro e w' ⟨rfl, rfl⟩
    have hsl := su_le M
    have hs1 := by8_toNat ((su M : Int) / 256)
    have hs2 := by8_toNat ((su M : Int) % 256)
    obtain ⟨N, hN, hN2, hNl, hNa⟩ : ∃ N, Hid (M ++ [by8 ((su M : Int) / 256), by8 ((su M : Int) % 256)] = N) ∧ N.length % 2 = 0 ∧ (2 ≤ N.length ∧ N.length ≤ 203) ∧ Hid (ac true N = ac true M + su M) :=
      ⟨_, rfl, by simp; omega, by simp; omega, by
        show _ = _
        rw [ac_append, hi_even _ _ hM2]; simp [ac]; omega⟩
    obtain ⟨j, hj, hj2, hjl⟩ : ∃ j : Nat, (x : Int) % ((N.length : Int) / 2) * 2 = (j : Int) ∧ j % 2 = 0 ∧ j + 1 < N.length := at_even x N.length (by omega) hN2
    have hnz : ¬ ((N.length : Int) / 2 = 0) := by omega
    clear hs1 hs2
    go_wp2_with (at_builtin; refine wpList_append_om i0 32 Try.underlying32 hi hz0 hz1 hz2 rfl (.tmp 29) (.tmp 36) rfl w (fun _ => False) w1.heap.size (.slice A3 M.length c3) M rfl _ (.slice (some ⟨w3.heap.size + 1, 0, none⟩) 2 2) [by8 ((su M : Int) / 256), by8 ((su M : Int) % 256)] N hN.out rfl ((hx3.out.alloc _).alloc _) ((ho3.out.alloc _).alloc _) (RB.made _ [by8 ((su M : Int) / 256), by8 ((su M : Int) % 256)] _ _ ?c3 (by simp) _ _ rfl (Nat.le_refl _) (by simp)) ?c1 HX.out.size ?c2 ?_; (case c1 => simp; omega); (case c2 => simp; omega); (case c3 => simp [u8v_by8]; omega); intro A4 c4 w4 ho4 hx4 _)
    obtain ⟨g, cap, e, hBg, hgl⟩ := ho4.form (show 0 < N.length by omega)
    injection e with e1 e2 e3
    subst e1
    clear e2 e3
    have hx4 := Lib.hid hx4
    have ho4 := Lib.hid ho4
    have hb0 := (N[j]'(by omega)).toNat_lt
    have hb1 := (N[j + 1]).toNat_lt
    have hc0 := ho4.out.cell j (by omega)
    have hc1 := ho4.out.cell (j + 1) hjl
    have hfg := ho4.out.frozen j
    have hfh := ho4.out.frozen (j + 1)
    have q1 := IntWalk.i64_in ((j : Int) + 1) (by omega)
    have q7 : (0 : Int) ≤ (j : Int) + 1 := by omega
    have q8 : ((j : Int) + 1).toNat = j + 1 := by omega
    have q2 := IntWalk.u16_in ((N[j]'(by omega)).toNat : Int) (by omega)
    have q3 := IntWalk.u16_in (((N[j]'(by omega)).toNat : Int) * 256) (by omega)
    have q4 := IntWalk.u16_in ((N[j + 1]).toNat : Int) (by omega)
    have q5 := IntWalk.u16_in (((N[j]'(by omega)).toNat : Int) * 256 + ((N[j + 1]).toNat : Int)) (by omega)
    go_wp2
    go_quiet (fail)
    clear q1 q2 q3 q4 q5
    have hset := ac_set N j hj2 hjl (by8 ((n : Int) / 256)) (by8 ((n : Int) % 256))
    have hpr := ac_pair N j hj2 hjl
    have hlm : ((N.set j (by8 ((n : Int) / 256))).set (j + 1) (by8 ((n : Int) % 256))).length = N.length := by simp
    have hxy : (by8 ((n : Int) / 256)).toNat * 256 + (by8 ((n : Int) % 256)).toNat = n := by
      have h1 := by8_toNat ((n : Int) / 256)
      have h2 := by8_toNat ((n : Int) % 256)
      omega
    rw [hxy] at hset
    obtain ⟨o, ho', ho1⟩ : ∃ o : Nat, (N[j]'(by omega)).toNat * 256 + (N[j + 1]).toNat = o ∧ o ≤ 65535 := ⟨_, rfl, by omega⟩
    rw [ho'] at hpr
    rw [show ((N[j]'(by omega)).toNat : Int) * 256 + ((N[j + 1]).toNat : Int) = (o : Int) from by omega]
    clear ho' hxy
    have hwg : w.heap.size ≤ g := by have := HX.out.size; omega
    obtain ⟨k, hk1, hk2⟩ : ∃ k, ac true N = k + o ∧ ac true ((N.set j (by8 ((n : Int) / 256))).set (j + 1) (by8 ((n : Int) % 256))) = k + n := ⟨ac true (N.take j) + ac true (N.drop (j + 2)), by rw [hpr]; omega, by rw [hset]; omega⟩
    have hval : ¬ (n = o ∨ (n = 0 ∧ o = 65535) ∨ (n = 65535 ∧ o = 0)) → decide (su ((N.set j (by8 ((n : Int) / 256))).set (j + 1) (by8 ((n : Int) % 256))) = 0) = false := by
      intro hne
      have h1 := hNa.out
      have h2 := fo_rest (ac true M)
      have h3 := fo_le (ac true M)
      have h4 := fo_full (k + n)
      have h5 := fo_le (k + n)
      have h6 : su M = 65535 - fo (ac true M) := rfl
      simp only [decide_eq_false_iff_not]
      intro he
      unfold su at he
      rw [hk2] at he
      have h7 := h4.1 (by omega)
      rw [hk1, h6] at h1
      apply hne
      omega
    clear hset hpr hk1 hk2
    have HV := Lib.hid hval
    clear hval
    by_cases c1 : n = o
    · subst c1
      go_wp2_with fail
      go_ret
      exact ⟨rfl, by (repeat (first | (with_reducible exact hx4.out) | (with_reducible apply Ex.alloc) | (with_reducible apply Ex.drewN) | (with_reducible refine Ex.setCell ?_ (.inr (show w.heap.size ≤ g from hwg)) _)))⟩
    · have b1 : ((n : Int) == (o : Int)) = false := beq_eq_false_iff_ne.mpr (by omega)
      by_cases c2 : n = 0 ∧ o = 65535
      · obtain ⟨rfl, rfl⟩ := c2
        go_wp2_with fail
        go_ret
        exact ⟨rfl, by (repeat (first | (with_reducible exact hx4.out) | (with_reducible apply Ex.alloc) | (with_reducible apply Ex.drewN) | (with_reducible refine Ex.setCell ?_ (.inr (show w.heap.size ≤ g from hwg)) _)))⟩
      · by_cases c3 : n = 65535 ∧ o = 0
        · obtain ⟨rfl, rfl⟩ := c3
          go_wp2_with fail
          go_ret
          exact ⟨rfl, by (repeat (first | (with_reducible exact hx4.out) | (with_reducible apply Ex.alloc) | (with_reducible apply Ex.drewN) | (with_reducible refine Ex.setCell ?_ (.inr (show w.heap.size ≤ g from hwg)) _)))⟩
        · have hv := HV.out (by omega)
          by_cases c4 : n = 0
          · have b2 : ((n : Int) == 0) = true := beq_iff_eq.mpr (by omega)
            have b3 : ((o : Int) == 65535) = false := beq_eq_false_iff_ne.mpr (by omega)
            have b4 : ((n : Int) == 65535) = false := beq_eq_false_iff_ne.mpr (by omega)
            clear c1 c2 c3 c4
            go_wp2_with fail
            refine (valid1_any _ _ _ _ _ _ (by simp) (((ho4.out.keep (S := fun _ => False) ((Ex.refl _ w4).drewN nq) (fun _ _ _ _ => id)).set j (by8 ((n : Int) / 256)) (.int .u8 ((n : Int) / 256)) (by rw [by8_toNat]; congr 1; omega)).set (j + 1) (by8 ((n : Int) % 256)) (.int .u8 ((n : Int) % 256)) (by rw [by8_toNat]; congr 1; omega)).rb (by rw [hlm]; omega)).mono ?_
            rintro e w' ⟨rfl, rfl⟩
            go_wp2_with fail
            go_ret
            exact ⟨rfl, by (repeat (first | (with_reducible exact hx4.out) | (with_reducible apply Ex.alloc) | (with_reducible apply Ex.drewN) | (with_reducible refine Ex.setCell ?_ (.inr (show w.heap.size ≤ g from hwg)) _)))⟩
          · have b2 : ((n : Int) == 0) = false := beq_eq_false_iff_ne.mpr (by omega)
            by_cases c5 : n = 65535
            · have b4 : ((n : Int) == 65535) = true := beq_iff_eq.mpr (by omega)
              have b5 : ((o : Int) == 0) = false := beq_eq_false_iff_ne.mpr (by omega)
              clear c1 c2 c3 c4 c5
              go_wp2_with fail
              refine (valid1_any _ _ _ _ _ _ (by simp) (((ho4.out.keep (S := fun _ => False) ((Ex.refl _ w4).drewN nq) (fun _ _ _ _ => id)).set j (by8 ((n : Int) / 256)) (.int .u8 ((n : Int) / 256)) (by rw [by8_toNat]; congr 1; omega)).set (j + 1) (by8 ((n : Int) % 256)) (.int .u8 ((n : Int) % 256)) (by rw [by8_toNat]; congr 1; omega)).rb (by rw [hlm]; omega)).mono ?_
              rintro e w' ⟨rfl, rfl⟩
              go_wp2_with fail
              go_ret
              exact ⟨rfl, by (repeat (first | (with_reducible exact hx4.out) | (with_reducible apply Ex.alloc) | (with_reducible apply Ex.drewN) | (with_reducible refine Ex.setCell ?_ (.inr (show w.heap.size ≤ g from hwg)) _)))⟩
            · have b4 : ((n : Int) == 65535) = false := beq_eq_false_iff_ne.mpr (by omega)
              clear c1 c2 c3 c4 c5
              go_wp2_with fail
              refine (valid1_any _ _ _ _ _ _ (by simp) (((ho4.out.keep (S := fun _ => False) ((Ex.refl _ w4).drewN nq) (fun _ _ _ _ => id)).set j (by8 ((n : Int) / 256)) (.int .u8 ((n : Int) / 256)) (by rw [by8_toNat]; congr 1; omega)).set (j + 1) (by8 ((n : Int) % 256)) (.int .u8 ((n : Int) % 256)) (by rw [by8_toNat]; congr 1; omega)).rb (by rw [hlm]; omega)).mono ?_
              rintro e w' ⟨rfl, rfl⟩
              go_wp2_with fail
              go_ret
              exact ⟨rfl, by (repeat (first | (with_reducible exact hx4.out) | (with_reducible apply Ex.alloc) | (with_reducible apply Ex.drewN) | (with_reducible refine Ex.setCell ?_ (.inr (show w.heap.size ≤ g from hwg)) _)))⟩

  · have ho : (((l2.length : Int) % 2) == 1) = false := beq_eq_false_iff_ne.mpr (by omega)
    obtain ⟨M, hM⟩ : ∃ M, M = l2 := ⟨_, rfl⟩
    subst hM
    have hM2 : M.length % 2 = 0 := by omega
    have hMl : M.length ≤ 201 := by omega
    obtain ⟨x, hx, hx1⟩ : ∃ x : Nat, Go.bits .and .i64 at_ 65535 = (x : Int) ∧ x ≤ 65535 := ⟨(at_ % 65536).toNat, by rw [and_i64]; omega, by omega⟩
    go_wp2_with (at_builtin; refine wpList_append_om i0 32 Try.underlying32 hi hz0 hz1 hz2 rfl (.tmp 12) (.tmp 17) rfl w (fun _ => False) w1.heap.size (.slice (some ⟨w1.heap.size, 0, none⟩) 0 0) [] rfl _ (.slice A m c) M M rfl rfl (HX.out.alloc _) (OB.lit w1 w1.heap.size [] (Nat.le_refl _) (by simp)) ((hr2.keep HX.out (fun _ _ _ => id)).alloc _) ?c1 HX.out.size ?c2 ?_; (case c1 => simp; omega); (case c2 => simp); intro A3 c3 w3 ho3 hx3 hz3; try simp only [World.size_alloc] at hz3; have hsz3 : w1.heap.size ≤ w3.heap.size := (by omega))
    have ho3 := Lib.hid ho3
    have hx3 := Lib.hid hx3
    refine (sum1_any _ _ M _ _ _ rfl ho3.out.rb (by omega)).mono ?_
    rintro e w' ⟨rfl, rfl⟩
    have hsl := su_le M
    have hs1 := by8_toNat ((su M : Int) / 256)
    have hs2 := by8_toNat ((su M : Int) % 256)
    obtain ⟨N, hN, hN2, hNl, hNa⟩ : ∃ N, Hid (M ++ [by8 ((su M : Int) / 256), by8 ((su M : Int) % 256)] = N) ∧ N.length % 2 = 0 ∧ (2 ≤ N.length ∧ N.length ≤ 203) ∧ Hid (ac true N = ac true M + su M) :=
      ⟨_, rfl, by simp; omega, by simp; omega, by
        show _ = _
        rw [ac_append, hi_even _ _ hM2]; simp [ac]; omega⟩
    obtain ⟨j, hj, hj2, hjl⟩ : ∃ j : Nat, (x : Int) % ((N.length : Int) / 2) * 2 = (j : Int) ∧ j % 2 = 0 ∧ j + 1 < N.length := at_even x N.length (by omega) hN2
    have hnz : ¬ ((N.length : Int) / 2 = 0) := by omega
    clear hs1 hs2
    go_wp2_with (at_builtin; refine wpList_append_om i0 32 Try.underlying32 hi hz0 hz1 hz2 rfl (.tmp 29) (.tmp 36) rfl w (fun _ => False) w1.heap.size (.slice A3 M.length c3) M rfl _ (.slice (some ⟨w3.heap.size + 1, 0, none⟩) 2 2) [by8 ((su M : Int) / 256), by8 ((su M : Int) % 256)] N hN.out rfl ((hx3.out.alloc _).alloc _) ((ho3.out.alloc _).alloc _) (RB.made _ [by8 ((su M : Int) / 256), by8 ((su M : Int) % 256)] _ _ ?c3 (by simp) _ _ rfl (Nat.le_refl _) (by simp)) ?c1 HX.out.size ?c2 ?_; (case c1 => simp; omega); (case c2 => simp; omega); (case c3 => simp [u8v_by8]; omega); intro A4 c4 w4 ho4 hx4 _)
    obtain ⟨g, cap, e, hBg, hgl⟩ := ho4.form (show 0 < N.length by omega)
    injection e with e1 e2 e3
    subst e1
    clear e2 e3
    have hx4 := Lib.hid hx4
    have ho4 := Lib.hid ho4
    have hb0 := (N[j]'(by omega)).toNat_lt
    have hb1 := (N[j + 1]).toNat_lt
    have hc0 := ho4.out.cell j (by omega)
    have hc1 := ho4.out.cell (j + 1) hjl
    have hfg := ho4.out.frozen j
    have hfh := ho4.out.frozen (j + 1)
    have q1 := IntWalk.i64_in ((j : Int) + 1) (by omega)
    have q7 : (0 : Int) ≤ (j : Int) + 1 := by omega
    have q8 : ((j : Int) + 1).toNat = j + 1 := by omega
    have q2 := IntWalk.u16_in ((N[j]'(by omega)).toNat : Int) (by omega)
    have q3 := IntWalk.u16_in (((N[j]'(by omega)).toNat : Int) * 256) (by omega)
    have q4 := IntWalk.u16_in ((N[j + 1]).toNat : Int) (by omega)
    have q5 := IntWalk.u16_in (((N[j]'(by omega)).toNat : Int) * 256 + ((N[j + 1]).toNat : Int)) (by omega)
    go_wp2
    go_quiet (fail)
    clear q1 q2 q3 q4 q5
    have hset := ac_set N j hj2 hjl (by8 ((n : Int) / 256)) (by8 ((n : Int) % 256))
    have hpr := ac_pair N j hj2 hjl
    have hlm : ((N.set j (by8 ((n : Int) / 256))).set (j + 1) (by8 ((n : Int) % 256))).length = N.length := by simp
    have hxy : (by8 ((n : Int) / 256)).toNat * 256 + (by8 ((n : Int) % 256)).toNat = n := by
      have h1 := by8_toNat ((n : Int) / 256)
      have h2 := by8_toNat ((n : Int) % 256)
      omega
    rw [hxy] at hset
    obtain ⟨o, ho', ho1⟩ : ∃ o : Nat, (N[j]'(by omega)).toNat * 256 + (N[j + 1]).toNat = o ∧ o ≤ 65535 := ⟨_, rfl, by omega⟩
    rw [ho'] at hpr
    rw [show ((N[j]'(by omega)).toNat : Int) * 256 + ((N[j + 1]).toNat : Int) = (o : Int) from by omega]
    clear ho' hxy
    have hwg : w.heap.size ≤ g := by have := HX.out.size; omega
    obtain ⟨k, hk1, hk2⟩ : ∃ k, ac true N = k + o ∧ ac true ((N.set j (by8 ((n : Int) / 256))).set (j + 1) (by8 ((n : Int) % 256))) = k + n := ⟨ac true (N.take j) + ac true (N.drop (j + 2)), by rw [hpr]; omega, by rw [hset]; omega⟩
    have hval : ¬ (n = o ∨ (n = 0 ∧ o = 65535) ∨ (n = 65535 ∧ o = 0)) → decide (su ((N.set j (by8 ((n : Int) / 256))).set (j + 1) (by8 ((n : Int) % 256))) = 0) = false := by
      intro hne
      have h1 := hNa.out
      have h2 := fo_rest (ac true M)
      have h3 := fo_le (ac true M)
      have h4 := fo_full (k + n)
      have h5 := fo_le (k + n)
      have h6 : su M = 65535 - fo (ac true M) := rfl
      simp only [decide_eq_false_iff_not]
      intro he
      unfold su at he
      rw [hk2] at he
      have h7 := h4.1 (by omega)
      rw [hk1, h6] at h1
      apply hne
      omega
    clear hset hpr hk1 hk2
    have HV := Lib.hid hval
    clear hval
    by_cases c1 : n = o
    · subst c1
      go_wp2_with fail
      go_ret
      exact ⟨rfl, by (repeat (first | (with_reducible exact hx4.out) | (with_reducible apply Ex.alloc) | (with_reducible apply Ex.drewN) | (with_reducible refine Ex.setCell ?_ (.inr (show w.heap.size ≤ g from hwg)) _)))⟩
    · have b1 : ((n : Int) == (o : Int)) = false := beq_eq_false_iff_ne.mpr (by omega)
      by_cases c2 : n = 0 ∧ o = 65535
      · obtain ⟨rfl, rfl⟩ := c2
        go_wp2_with fail
        go_ret
        exact ⟨rfl, by (repeat (first | (with_reducible exact hx4.out) | (with_reducible apply Ex.alloc) | (with_reducible apply Ex.drewN) | (with_reducible refine Ex.setCell ?_ (.inr (show w.heap.size ≤ g from hwg)) _)))⟩
      · by_cases c3 : n = 65535 ∧ o = 0
        · obtain ⟨rfl, rfl⟩ := c3
          go_wp2_with fail
          go_ret
          exact ⟨rfl, by (repeat (first | (with_reducible exact hx4.out) | (with_reducible apply Ex.alloc) | (with_reducible apply Ex.drewN) | (with_reducible refine Ex.setCell ?_ (.inr (show w.heap.size ≤ g from hwg)) _)))⟩
        · have hv := HV.out (by omega)
          by_cases c4 : n = 0
          · have b2 : ((n : Int) == 0) = true := beq_iff_eq.mpr (by omega)
            have b3 : ((o : Int) == 65535) = false := beq_eq_false_iff_ne.mpr (by omega)
            have b4 : ((n : Int) == 65535) = false := beq_eq_false_iff_ne.mpr (by omega)
            clear c1 c2 c3 c4
            go_wp2_with fail
            refine (valid1_any _ _ _ _ _ _ (by simp) (((ho4.out.keep (S := fun _ => False) ((Ex.refl _ w4).drewN nq) (fun _ _ _ _ => id)).set j (by8 ((n : Int) / 256)) (.int .u8 ((n : Int) / 256)) (by rw [by8_toNat]; congr 1; omega)).set (j + 1) (by8 ((n : Int) % 256)) (.int .u8 ((n : Int) % 256)) (by rw [by8_toNat]; congr 1; omega)).rb (by rw [hlm]; omega)).mono ?_
            rintro e w' ⟨rfl, rfl⟩
            go_wp2_with fail
            go_ret
            exact ⟨rfl, by (repeat (first | (with_reducible exact hx4.out) | (with_reducible apply Ex.alloc) | (with_reducible apply Ex.drewN) | (with_reducible refine Ex.setCell ?_ (.inr (show w.heap.size ≤ g from hwg)) _)))⟩
          · have b2 : ((n : Int) == 0) = false := beq_eq_false_iff_ne.mpr (by omega)
            by_cases c5 : n = 65535
            · have b4 : ((n : Int) == 65535) = true := beq_iff_eq.mpr (by omega)
              have b5 : ((o : Int) == 0) = false := beq_eq_false_iff_ne.mpr (by omega)
              clear c1 c2 c3 c4 c5
              go_wp2_with fail
              refine (valid1_any _ _ _ _ _ _ (by simp) (((ho4.out.keep (S := fun _ => False) ((Ex.refl _ w4).drewN nq) (fun _ _ _ _ => id)).set j (by8 ((n : Int) / 256)) (.int .u8 ((n : Int) / 256)) (by rw [by8_toNat]; congr 1; omega)).set (j + 1) (by8 ((n : Int) % 256)) (.int .u8 ((n : Int) % 256)) (by rw [by8_toNat]; congr 1; omega)).rb (by rw [hlm]; omega)).mono ?_
              rintro e w' ⟨rfl, rfl⟩
              go_wp2_with fail
              go_ret
              exact ⟨rfl, by (repeat (first | (with_reducible exact hx4.out) | (with_reducible apply Ex.alloc) | (with_reducible apply Ex.drewN) | (with_reducible refine Ex.setCell ?_ (.inr (show w.heap.size ≤ g from hwg)) _)))⟩
            · have b4 : ((n : Int) == 65535) = false := beq_eq_false_iff_ne.mpr (by omega)
              clear c1 c2 c3 c4 c5
              go_wp2_with fail
              refine (valid1_any _ _ _ _ _ _ (by simp) (((ho4.out.keep (S := fun _ => False) ((Ex.refl _ w4).drewN nq) (fun _ _ _ _ => id)).set j (by8 ((n : Int) / 256)) (.int .u8 ((n : Int) / 256)) (by rw [by8_toNat]; congr 1; omega)).set (j + 1) (by8 ((n : Int) % 256)) (.int .u8 ((n : Int) % 256)) (by rw [by8_toNat]; congr 1; omega)).rb (by rw [hlm]; omega)).mono ?_
              rintro e w' ⟨rfl, rfl⟩
              go_wp2_with fail
              go_ret
              exact ⟨rfl, by (repeat (first | (with_reducible exact hx4.out) | (with_reducible apply Ex.alloc) | (with_reducible apply Ex.drewN) | (with_reducible refine Ex.setCell ?_ (.inr (show w.heap.size ≤ g from hwg)) _)))⟩

end Go.Proofs.Yteefinlpfgbefaa
