/-
  The walk of the law SumUpdates. By an AI agent.
-/
import Derived.Test.YteefinlpfgbefaaLaw02
import Derived.Deep.QuietTactic
import Derived.BigQuiet
namespace Go.Proofs.Yteefinlpfgbefaa
open Go.RowKit

set_option maxHeartbeats 1000000 in
theorem updates_any (P : Nat → Prop) (v : Value) (l : List UInt8) (at_ n : Int) (w : World) (hr : RB w P v l) (hn : 0 ≤ n ∧ n < 65536) (ha : -9223372036854775808 ≤ at_ ∧ at_ ≤ 9223372036854775807) :
    Calls Try.prog 5 #[v, .int .i64 at_, .int .u16 n] w fun e w' => e = .returned (.bool true) ∧ Ex (fun _ => False) w w' := by
  obtain ⟨n, rfl⟩ := Int.eq_ofNat_of_zero_le hn.1
  have hn1 : n < 65536 := by omega
  obtain ⟨ha0, ha1⟩ := ha
  clear hn
  have hr := hr.old
  obtain ⟨hl, A, c, rfl, hc, hcell⟩ := hr
  have HR : Hid (RB w (fun k => P k ∧ k < w.heap.size) (.slice A l.length c) l) := ⟨hl, A, c, rfl, hc, hcell⟩
  clear hcell hr
  obtain ⟨i0, hi, hz0, hz1, hz2⟩ := info_parts Try.info5
  obtain ⟨m, hm, hm1, HM⟩ : ∃ m : Nat, (if 200 < (l.length : Int) then (200 : Int) else (l.length : Int)) = (m : Int) ∧ m ≤ l.length ∧ Hid (m = (l.take 200).length) := by
    refine ⟨(l.take 200).length, ?_, by simp; omega, rfl⟩
    rw [List.length_take]; split <;> omega
  have hmi : (m : Int) ≤ (l.length : Int) := by omega
  go_enter Try.func5, Try.ntmps5
  go_wp2_with fail
  refine (shown_any _).mono ?_
  rintro e w1 ⟨rfl, hx1⟩
  obtain ⟨l2, hr2, hb2⟩ : ∃ l2 : List UInt8, RB w (fun k => P k ∧ k < w.heap.size) (.slice A m c) l2 ∧ l2.length ≤ 200 :=
    ⟨l.take 200, by rw [HM.out]; exact HR.out.take 200, by simp; omega⟩
  have HX := Lib.hid hx1
  clear hx1 HM HR
  by_cases hodd : l2.length % 2 = 1
  · have ho : (((l2.length : Int) % 2) == 1) = true := by simp; omega
    obtain ⟨M, hM, hM2, hMl⟩ : ∃ M, Hid (l2 ++ [0] = M) ∧ M.length % 2 = 0 ∧ M.length ≤ 201 := ⟨l2 ++ [0], rfl, by simp; omega, by simp; omega⟩
    have hM0 : 0 < M.length := by rw [← hM.out]; simp
    obtain ⟨x, hx, hx1⟩ : ∃ x : Nat, Go.bits .and .i64 at_ 65535 = (x : Int) ∧ x ≤ 65535 := ⟨(at_ % 65536).toNat, by rw [and_i64]; omega, by omega⟩
    obtain ⟨j, hj, hj2, hjl⟩ : ∃ j : Nat, (x : Int) % ((M.length : Int) / 2) * 2 = (j : Int) ∧ j % 2 = 0 ∧ j + 1 < M.length := at_even x M.length hM0 hM2
    have hz : ((M.length : Int) == 0) = false := beq_eq_false_iff_ne.mpr (by omega)
    have hnz : ¬ ((M.length : Int) / 2 = 0) := by omega
    go_wp2_with (first | (at_builtin; refine wpList_append_om i0 32 Try.underlying32 hi hz0 hz1 hz2 rfl (.tmp 13) (.tmp 18) rfl w (fun _ => False) w1.heap.size (.slice (some ⟨w1.heap.size, 0, none⟩) 0 0) [] rfl _ (.slice A m c) l2 l2 rfl rfl (HX.out.alloc _) (OB.lit w1 w1.heap.size [] (Nat.le_refl _) (by simp)) ((hr2.keep HX.out (fun _ _ _ => id)).alloc _) ?c1 HX.out.size ?c2 ?_; (case c1 => simp; omega); (case c2 => simp); intro A2 c2 w2 ho2 hx2 _) | (at_builtin; refine wpList_append_om i0 32 Try.underlying32 hi hz0 hz1 hz2 rfl (.tmp 24) (.tmp 25) rfl w (fun _ => False) w1.heap.size (.slice A2 l2.length c2) l2 rfl _ (.slice (some ⟨w2.heap.size, 0, none⟩) 1 1) [0] M hM.out rfl (hx2.alloc _) (ho2.alloc _) (RB.made w2 [0] _ _ (by rfl) (by simp) _ _ rfl (Nat.le_refl _) rfl) ?c1 HX.out.size ?c2 ?_; (case c1 => simp; omega); (case c2 => obtain ⟨_, _, _, h1, h2⟩ := ho2.form (by omega); simp; omega); intro A3 c3 w3 ho3 hx3 _))
    obtain ⟨g, cap, e, hBg, hgl⟩ := ho3.form hM0
    injection e with e1 e2 e3
    subst e1
    clear e2 e3
    have hx3 := Lib.hid hx3
    have ho3 := Lib.hid ho3
    refine (sum1_any _ _ M _ _ _ rfl ho3.out.rb (by omega)).mono ?_
    rintro e w' ⟨rfl, rfl⟩
    have hb0 := (M[j]'(by omega)).toNat_lt
    have hb1 := (M[j + 1]).toNat_lt
    have hc0 := ho3.out.cell j (by omega)
    have hc1 := ho3.out.cell (j + 1) hjl
    have q1 := IntWalk.i64_in ((j : Int) + 1) (by omega)
    have q7 : (0 : Int) ≤ (j : Int) + 1 := by omega
    have q8 : ((j : Int) + 1).toNat = j + 1 := by omega
    have q2 := IntWalk.u16_in ((M[j]'(by omega)).toNat : Int) (by omega)
    have q3 := IntWalk.u16_in (((M[j]'(by omega)).toNat : Int) * 256) (by omega)
    have q4 := IntWalk.u16_in ((M[j + 1]).toNat : Int) (by omega)
    have q5 := IntWalk.u16_in (((M[j]'(by omega)).toNat : Int) * 256 + ((M[j + 1]).toNat : Int)) (by omega)
    go_wp2
    go_quiet (fail)
    clear q1 q2 q3 q4 q5 q7 q8
    go_wp2_with fail
    have how := ho3.out.keep (S := fun _ => False) (((Ex.refl _ w3).alloc (.cells #[.slice (some ⟨g, 0, none⟩) M.length c3] 32)).drewN nq) (fun _ _ _ _ => id)
    have hxw := (hx3.out.alloc (.cells #[.slice (some ⟨g, 0, none⟩) M.length c3] 32)).drewN nq
    generalize ((w3.alloc (.cells #[.slice (some ⟨g, 0, none⟩) M.length c3] 32)).drewN nq) = W at how hxw ⊢
    have hcg := how.cell j (by omega)
    have hch := how.cell (j + 1) hjl
    have hfg := how.frozen j
    have hfh := how.frozen (j + 1)
    have HOW := Lib.hid how
    have HXW := Lib.hid hxw
    clear how hxw hc0 hc1
    refine (noughts_any _ _ M W HOW.out.rb).mono ?_
    rintro e w' ⟨rfl, rfl⟩
    have q1 : (0 : Int) ≤ (j : Int) + 1 := by omega
    have q8 : ((j : Int) + 1).toNat = j + 1 := by omega
    go_wp2_with fail
    have how := HOW.out.set j (by8 ((n : Int) / 256)) (.int .u8 ((n : Int) / 256)) (by rw [by8_toNat]; congr 1; omega)
    have how := how.set (j + 1) (by8 ((n : Int) % 256)) (.int .u8 ((n : Int) % 256)) (by rw [by8_toNat]; congr 1; omega)
    have hxw := (HXW.out.setCell (p := ⟨g, j, none⟩) (.inr (show w.heap.size ≤ g by have := HX.out.size; omega)) (.int .u8 ((n : Int) / 256))).setCell (p := ⟨g, j + 1, none⟩) (.inr (show w.heap.size ≤ g by have := HX.out.size; omega)) (.int .u8 ((n : Int) % 256))
    have hset := ac_set M j hj2 hjl (by8 ((n : Int) / 256)) (by8 ((n : Int) % 256))
    have hpr := ac_pair M j hj2 hjl
    have hlm : ((M.set j (by8 ((n : Int) / 256))).set (j + 1) (by8 ((n : Int) % 256))).length = M.length := by simp
    have hxy : (by8 ((n : Int) / 256)).toNat * 256 + (by8 ((n : Int) % 256)).toNat = n := by
      have h1 := by8_toNat ((n : Int) / 256)
      have h2 := by8_toNat ((n : Int) % 256)
      omega
    rw [hxy] at hset
    generalize (M.set j (by8 ((n : Int) / 256))).set (j + 1) (by8 ((n : Int) % 256)) = M' at how hset hlm
    generalize (W.setCell ⟨g, j, none⟩ (.int .u8 ((n : Int) / 256))).setCell ⟨g, j + 1, none⟩ (.int .u8 ((n : Int) % 256)) = W' at how hxw ⊢
    generalize hK : ac true (M.take j) = k1 at hset hpr
    generalize hK2 : ac true (M.drop (j + 2)) = k2 at hset hpr
    obtain ⟨o, ho', ho1⟩ : ∃ o : Nat, (M[j]'(by omega)).toNat * 256 + (M[j + 1]).toNat = o ∧ o ≤ 65535 := ⟨_, rfl, by omega⟩
    rw [ho'] at hpr
    rw [show ((M[j]'(by omega)).toNat : Int) * 256 + ((M[j + 1]).toNat : Int) = (o : Int) from by omega]
    have hnow : 0 < ac true M' → up (su M) o n = su M' := by
      have := up_now (k1 + k2) o n ho1
      rw [show k1 + k2 + o = ac true M from by omega, show k1 + k2 + n = ac true M' from by omega] at this
      exact this
    have hback : 0 < ac true M → up (up (su M) o n) n o = su M := by
      have := up_back (k1 + k2) o n ho1 (by omega)
      rw [show k1 + k2 + o = ac true M from by omega] at this
      exact this
    have HNOW := Lib.hid hnow
    have HBACK := Lib.hid hback
    have HOW' := Lib.hid how
    have HXW' := Lib.hid hxw
    clear hnow hback how hxw hset hpr hK hK2 hxy ho' hcg hch hfg hfh q1 q8
    refine (update_any (su M) o n (su_le M) ho1 (by omega) _).mono ?_
    rintro e w' ⟨rfl, rfl⟩
    go_wp2_with fail
    refine (noughts_any _ _ M' _ HOW'.out.rb).mono ?_
    rintro e w' ⟨rfl, rfl⟩
    have hfin : 0 < ac true M → up (up (su M) o n) n o = su M := HBACK.out
    by_cases hA : ac true M = 0
    · have hdA : decide (ac true M = 0) = true := by simp [hA]
      by_cases hA' : ac true M' = 0
      · have hdA' : decide (ac true M' = 0) = true := by simp [hA']
        clear hfin hA hA'
        go_wp2_with fail
        go_ret
        exact ⟨rfl, HXW'.out⟩
      · have hdA' : decide (ac true M' = 0) = false := by simp [hA']
        have he := HNOW.out (by omega)
        clear hfin hA hA'
        go_wp2_with fail
        refine (sum1_any _ _ M' _ _ _ rfl HOW'.out.rb (by omega)).mono ?_
        rintro e w' ⟨rfl, rfl⟩
        go_wp2_with fail
        go_ret
        exact ⟨rfl, HXW'.out.alloc _⟩
    · have hdA : decide (ac true M = 0) = false := by simp [hA]
      have hfin' := hfin (by omega)
      by_cases hA' : ac true M' = 0
      · have hdA' : decide (ac true M' = 0) = true := by simp [hA']
        clear hfin hA hA'
        go_wp2_with fail
        refine (update_any (up (su M) o n) n o (up_le _ _ _) (by omega) ho1 _).mono ?_
        rintro e w' ⟨rfl, rfl⟩
        go_wp2_with fail
        go_ret
        exact ⟨rfl, HXW'.out⟩
      · have hdA' : decide (ac true M' = 0) = false := by simp [hA']
        have he := HNOW.out (by omega)
        rw [he] at hfin'
        clear hfin hA hA'
        go_wp2_with fail
        refine (sum1_any _ _ M' _ _ _ rfl HOW'.out.rb (by omega)).mono ?_
        rintro e w' ⟨rfl, rfl⟩
        go_wp2_with fail
        refine (update_any (su M') n o (su_le _) (by omega) ho1 _).mono ?_
        rintro e w' ⟨rfl, rfl⟩
        go_wp2_with fail
        go_ret
        exact ⟨rfl, HXW'.out.alloc _⟩
  · have ho : (((l2.length : Int) % 2) == 1) = false := beq_eq_false_iff_ne.mpr (by omega)
    obtain ⟨M, hM⟩ : ∃ M, M = l2 := ⟨_, rfl⟩
    subst hM
    have hM2 : M.length % 2 = 0 := by omega
    have hMl : M.length ≤ 201 := by omega
    by_cases hM0 : 0 < M.length
    · obtain ⟨x, hx, hx1⟩ : ∃ x : Nat, Go.bits .and .i64 at_ 65535 = (x : Int) ∧ x ≤ 65535 := ⟨(at_ % 65536).toNat, by rw [and_i64]; omega, by omega⟩
      obtain ⟨j, hj, hj2, hjl⟩ : ∃ j : Nat, (x : Int) % ((M.length : Int) / 2) * 2 = (j : Int) ∧ j % 2 = 0 ∧ j + 1 < M.length := at_even x M.length hM0 hM2
      have hz : ((M.length : Int) == 0) = false := beq_eq_false_iff_ne.mpr (by omega)
      have hnz : ¬ ((M.length : Int) / 2 = 0) := by omega
      go_wp2_with (at_builtin; refine wpList_append_om i0 32 Try.underlying32 hi hz0 hz1 hz2 rfl (.tmp 13) (.tmp 18) rfl w (fun _ => False) w1.heap.size (.slice (some ⟨w1.heap.size, 0, none⟩) 0 0) [] rfl _ (.slice A m c) M M rfl rfl (HX.out.alloc _) (OB.lit w1 w1.heap.size [] (Nat.le_refl _) (by simp)) ((hr2.keep HX.out (fun _ _ _ => id)).alloc _) ?c1 HX.out.size ?c2 ?_; (case c1 => simp; omega); (case c2 => simp); intro A3 c3 w3 ho3 hx3 _)
      obtain ⟨g, cap, e, hBg, hgl⟩ := ho3.form hM0
      injection e with e1 e2 e3
      subst e1
      clear e2 e3
      have hx3 := Lib.hid hx3
      have ho3 := Lib.hid ho3
      refine (sum1_any _ _ M _ _ _ rfl ho3.out.rb (by omega)).mono ?_
      rintro e w' ⟨rfl, rfl⟩
      have hb0 := (M[j]'(by omega)).toNat_lt
      have hb1 := (M[j + 1]).toNat_lt
      have hc0 := ho3.out.cell j (by omega)
      have hc1 := ho3.out.cell (j + 1) hjl
      have q1 := IntWalk.i64_in ((j : Int) + 1) (by omega)
      have q7 : (0 : Int) ≤ (j : Int) + 1 := by omega
      have q8 : ((j : Int) + 1).toNat = j + 1 := by omega
      have q2 := IntWalk.u16_in ((M[j]'(by omega)).toNat : Int) (by omega)
      have q3 := IntWalk.u16_in (((M[j]'(by omega)).toNat : Int) * 256) (by omega)
      have q4 := IntWalk.u16_in ((M[j + 1]).toNat : Int) (by omega)
      have q5 := IntWalk.u16_in (((M[j]'(by omega)).toNat : Int) * 256 + ((M[j + 1]).toNat : Int)) (by omega)
      go_wp2
      go_quiet (fail)
      clear q1 q2 q3 q4 q5 q7 q8
      go_wp2_with fail
      have how := ho3.out.keep (S := fun _ => False) (((Ex.refl _ w3).alloc (.cells #[.slice (some ⟨g, 0, none⟩) M.length c3] 32)).drewN nq) (fun _ _ _ _ => id)
      have hxw := (hx3.out.alloc (.cells #[.slice (some ⟨g, 0, none⟩) M.length c3] 32)).drewN nq
      generalize ((w3.alloc (.cells #[.slice (some ⟨g, 0, none⟩) M.length c3] 32)).drewN nq) = W at how hxw ⊢
      have hcg := how.cell j (by omega)
      have hch := how.cell (j + 1) hjl
      have hfg := how.frozen j
      have hfh := how.frozen (j + 1)
      have HOW := Lib.hid how
      have HXW := Lib.hid hxw
      clear how hxw hc0 hc1
      refine (noughts_any _ _ M W HOW.out.rb).mono ?_
      rintro e w' ⟨rfl, rfl⟩
      have q1 : (0 : Int) ≤ (j : Int) + 1 := by omega
      have q8 : ((j : Int) + 1).toNat = j + 1 := by omega
      go_wp2_with fail
      have how := HOW.out.set j (by8 ((n : Int) / 256)) (.int .u8 ((n : Int) / 256)) (by rw [by8_toNat]; congr 1; omega)
      have how := how.set (j + 1) (by8 ((n : Int) % 256)) (.int .u8 ((n : Int) % 256)) (by rw [by8_toNat]; congr 1; omega)
      have hxw := (HXW.out.setCell (p := ⟨g, j, none⟩) (.inr (show w.heap.size ≤ g by have := HX.out.size; omega)) (.int .u8 ((n : Int) / 256))).setCell (p := ⟨g, j + 1, none⟩) (.inr (show w.heap.size ≤ g by have := HX.out.size; omega)) (.int .u8 ((n : Int) % 256))
      have hset := ac_set M j hj2 hjl (by8 ((n : Int) / 256)) (by8 ((n : Int) % 256))
      have hpr := ac_pair M j hj2 hjl
      have hlm : ((M.set j (by8 ((n : Int) / 256))).set (j + 1) (by8 ((n : Int) % 256))).length = M.length := by simp
      have hxy : (by8 ((n : Int) / 256)).toNat * 256 + (by8 ((n : Int) % 256)).toNat = n := by
        have h1 := by8_toNat ((n : Int) / 256)
        have h2 := by8_toNat ((n : Int) % 256)
        omega
      rw [hxy] at hset
      generalize (M.set j (by8 ((n : Int) / 256))).set (j + 1) (by8 ((n : Int) % 256)) = M' at how hset hlm
      generalize (W.setCell ⟨g, j, none⟩ (.int .u8 ((n : Int) / 256))).setCell ⟨g, j + 1, none⟩ (.int .u8 ((n : Int) % 256)) = W' at how hxw ⊢
      generalize hK : ac true (M.take j) = k1 at hset hpr
      generalize hK2 : ac true (M.drop (j + 2)) = k2 at hset hpr
      obtain ⟨o, ho', ho1⟩ : ∃ o : Nat, (M[j]'(by omega)).toNat * 256 + (M[j + 1]).toNat = o ∧ o ≤ 65535 := ⟨_, rfl, by omega⟩
      rw [ho'] at hpr
      rw [show ((M[j]'(by omega)).toNat : Int) * 256 + ((M[j + 1]).toNat : Int) = (o : Int) from by omega]
      have hnow : 0 < ac true M' → up (su M) o n = su M' := by
        have := up_now (k1 + k2) o n ho1
        rw [show k1 + k2 + o = ac true M from by omega, show k1 + k2 + n = ac true M' from by omega] at this
        exact this
      have hback : 0 < ac true M → up (up (su M) o n) n o = su M := by
        have := up_back (k1 + k2) o n ho1 (by omega)
        rw [show k1 + k2 + o = ac true M from by omega] at this
        exact this
      have HNOW := Lib.hid hnow
      have HBACK := Lib.hid hback
      have HOW' := Lib.hid how
      have HXW' := Lib.hid hxw
      clear hnow hback how hxw hset hpr hK hK2 hxy ho' hcg hch hfg hfh q1 q8
      refine (update_any (su M) o n (su_le M) ho1 (by omega) _).mono ?_
      rintro e w' ⟨rfl, rfl⟩
      go_wp2_with fail
      refine (noughts_any _ _ M' _ HOW'.out.rb).mono ?_
      rintro e w' ⟨rfl, rfl⟩
      have hfin : 0 < ac true M → up (up (su M) o n) n o = su M := HBACK.out
      by_cases hA : ac true M = 0
      · have hdA : decide (ac true M = 0) = true := by simp [hA]
        by_cases hA' : ac true M' = 0
        · have hdA' : decide (ac true M' = 0) = true := by simp [hA']
          clear hfin hA hA'
          go_wp2_with fail
          go_ret
          exact ⟨rfl, HXW'.out⟩
        · have hdA' : decide (ac true M' = 0) = false := by simp [hA']
          have he := HNOW.out (by omega)
          clear hfin hA hA'
          go_wp2_with fail
          refine (sum1_any _ _ M' _ _ _ rfl HOW'.out.rb (by omega)).mono ?_
          rintro e w' ⟨rfl, rfl⟩
          go_wp2_with fail
          go_ret
          exact ⟨rfl, HXW'.out.alloc _⟩
      · have hdA : decide (ac true M = 0) = false := by simp [hA]
        have hfin' := hfin (by omega)
        by_cases hA' : ac true M' = 0
        · have hdA' : decide (ac true M' = 0) = true := by simp [hA']
          clear hfin hA hA'
          go_wp2_with fail
          refine (update_any (up (su M) o n) n o (up_le _ _ _) (by omega) ho1 _).mono ?_
          rintro e w' ⟨rfl, rfl⟩
          go_wp2_with fail
          go_ret
          exact ⟨rfl, HXW'.out⟩
        · have hdA' : decide (ac true M' = 0) = false := by simp [hA']
          have he := HNOW.out (by omega)
          rw [he] at hfin'
          clear hfin hA hA'
          go_wp2_with fail
          refine (sum1_any _ _ M' _ _ _ rfl HOW'.out.rb (by omega)).mono ?_
          rintro e w' ⟨rfl, rfl⟩
          go_wp2_with fail
          refine (update_any (su M') n o (su_le _) (by omega) ho1 _).mono ?_
          rintro e w' ⟨rfl, rfl⟩
          go_wp2_with fail
          go_ret
          exact ⟨rfl, HXW'.out.alloc _⟩
    · have hz : ((M.length : Int) == 0) = true := beq_iff_eq.mpr (by omega)
      go_wp2_with (at_builtin; refine wpList_append_om i0 32 Try.underlying32 hi hz0 hz1 hz2 rfl (.tmp 13) (.tmp 18) rfl w (fun _ => False) w1.heap.size (.slice (some ⟨w1.heap.size, 0, none⟩) 0 0) [] rfl _ (.slice A m c) M M rfl rfl (HX.out.alloc _) (OB.lit w1 w1.heap.size [] (Nat.le_refl _) (by simp)) ((hr2.keep HX.out (fun _ _ _ => id)).alloc _) ?c1 HX.out.size ?c2 ?_; (case c1 => simp; omega); (case c2 => simp); intro A3 c3 w3 ho3 hx3 _)
      go_ret
      exact ⟨rfl, hx3⟩
end Go.Proofs.Yteefinlpfgbefaa
