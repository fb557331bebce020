/-
  The walk of the law SumChain. By an AI agent.
-/
import Derived.Test.YteefinlpfgbefaaLaw02
import Derived.Deep.QuietTactic
import Derived.BigQuiet
namespace Go.Proofs.Yteefinlpfgbefaa
open Go.RowKit

set_option maxRecDepth 100000 in
set_option maxHeartbeats 1000000 in
theorem chain_any (P : Nat → Prop) (v va vl : Value) (l la : List UInt8) (ll : List UInt16) (w : World) (hr : RB w P v l) (hra : RB w P va la) (hrl : RW w P vl ll) :
    Calls Try.prog 9 #[v, va, vl] w fun e w' => e = .returned (.bool true) ∧ Ex (fun _ => False) w w' := by
  obtain ⟨hla, Aa, ca, rfl, hca, hcella⟩ := hra
  have HCA := Lib.hid hcella
  clear hcella
  obtain ⟨hll, Al, cl, rfl, hcl, hcelll⟩ := hrl
  have HCL := Lib.hid hcelll
  clear hcelll
  have hr := hr.old
  obtain ⟨hl, A, c, rfl, hc, hcell⟩ := hr
  have HR : Hid (RB w (fun k => P k ∧ k < w.heap.size) (.slice A l.length c) l) := ⟨hl, A, c, rfl, hc, hcell⟩
  clear hcell hr
  obtain ⟨i0, hi, hz0, hz1, hz2⟩ := info_parts Try.info5
  obtain ⟨m, hm, hm1, HM⟩ : ∃ m : Nat, (if 100 < (l.length : Int) then (100 : Int) else (l.length : Int)) = (m : Int) ∧ m ≤ l.length ∧ Hid (m = (l.take 100).length) := by
    refine ⟨(l.take 100).length, ?_, by simp; omega, rfl⟩
    rw [List.length_take]; split <;> omega
  have hmi : (m : Int) ≤ (l.length : Int) := by omega
  go_enter Try.func9, Try.ntmps9
  go_wp2_with fail
  refine (shown_any _).mono ?_
  rintro e w1 ⟨rfl, hx1⟩
  obtain ⟨l2, hr2, hb2⟩ : ∃ l2 : List UInt8, RB w (fun k => P k ∧ k < w.heap.size) (.slice A m c) l2 ∧ l2.length ≤ 100 :=
    ⟨l.take 100, by rw [HM.out]; exact HR.out.take 100, by simp; omega⟩
  have HX := Lib.hid hx1
  clear hx1 HM HR
  by_cases hodd : l2.length % 2 = 1
  · have ho : (((l2.length : Int) % 2) == 1) = true := by simp; omega
    obtain ⟨M, hM, hM2, hMl⟩ : ∃ M, Hid (l2 ++ [0] = M) ∧ M.length % 2 = 0 ∧ M.length ≤ 101 := ⟨l2 ++ [0], rfl, by simp; omega, by simp; omega⟩
    obtain ⟨N, hN, hN2, hNl⟩ : ∃ N, Hid (M ++ [0, 1] = N) ∧ N.length % 2 = 0 ∧ N.length = M.length + 2 := ⟨M ++ [0, 1], rfl, by simp; omega, by simp⟩
    have HNL := Lib.hid hNl
    have hNl1 : 2 ≤ N.length := by omega
    have hNl2 : N.length ≤ 103 := by omega
    clear hNl
    go_wp2_with (first | (at_builtin; refine wpList_append_om i0 32 Try.underlying32 hi hz0 hz1 hz2 rfl (.tmp 13) (.tmp 18) rfl w (fun _ => False) w1.heap.size (.slice (some ⟨w1.heap.size, 0, none⟩) 0 0) [] rfl _ (.slice A m c) l2 l2 rfl rfl (HX.out.alloc _) (OB.lit w1 w1.heap.size [] (Nat.le_refl _) (by simp)) ((hr2.keep HX.out (fun _ _ _ => id)).alloc _) ?c1 HX.out.size ?c2 ?_; (case c1 => simp; omega); (case c2 => simp); intro A2 c2 w2 ho2 hx2 hz2x; try simp only [World.size_alloc] at hz2x) | (at_builtin; refine wpList_append_om i0 32 Try.underlying32 hi hz0 hz1 hz2 rfl (.tmp 24) (.tmp 25) rfl w (fun _ => False) w1.heap.size (.slice A2 l2.length c2) l2 rfl _ (.slice (some ⟨w2.heap.size, 0, none⟩) 1 1) [0] M hM.out rfl (hx2.alloc _) (ho2.alloc _) (RB.made w2 [0] _ _ (by rfl) (by simp) _ _ rfl (Nat.le_refl _) rfl) ?c1 HX.out.size ?c2 ?_; (case c1 => simp; omega); (case c2 => simp; omega); intro A3 c3 w3 ho3 hx3 hz3; try simp only [World.size_alloc] at hz3; have hsz3 : w1.heap.size ≤ w3.heap.size := (by omega)) | (at_builtin; refine wpList_append_om i0 32 Try.underlying32 hi hz0 hz1 hz2 rfl (.tmp 27) (.tmp 28) rfl w (fun _ => False) w1.heap.size (.slice A3 M.length c3) M rfl _ (.slice (some ⟨w3.heap.size, 0, none⟩) 2 2) [0, 1] N hN.out rfl (hx3.alloc _) (ho3.alloc _) (RB.made w3 [0, 1] _ _ (by rfl) (by simp) _ _ rfl (Nat.le_refl _) rfl) ?c1 HX.out.size ?c2 ?_; (case c1 => simp; omega); (case c2 => simp; omega); intro A4 c4 w4 ho4 hx4 _))
    obtain ⟨g, cap, e, hBg, hgl⟩ := ho4.form (show 0 < N.length by omega)
    injection e with e1 e2 e3
    subst e1
    clear e2 e3
    have ho4 := Lib.hid ho4
    have hx4 := Lib.hid hx4
    refine (sum1_any _ _ N _ _ _ rfl ho4.out.rb (by omega)).mono ?_
    rintro e w' ⟨rfl, rfl⟩
    have hwg : w.heap.size ≤ g := by have := HX.out.size; omega
    have hoi := ho4.out.alloc (.cells #[.slice (some ⟨g, 0, none⟩) N.length c4] 32)
    have hxi := hx4.out.alloc (.cells #[.slice (some ⟨g, 0, none⟩) N.length c4] 32)
    have hXi : ∃ X, Hid (X.length = M.length ∧ N = X ++ [0, 1]) := ⟨M, rfl, hN.out.symm⟩
    have HXI := Lib.hid hXi
    clear hXi
    go_wp2
    go_loopw [8, 9] (fun s i wr => ∃ (k : Nat) (N' : List UInt8), k ≤ 20 ∧ i = .int .i64 (k : Int) ∧ s = .int .u16 (su N' : Int) ∧ Hid (N'.length = N.length) ∧ OB wr w1.heap.size (.slice (some ⟨g, 0, none⟩) N.length c4) N' ∧ Hid (∃ X, Hid (X.length = M.length ∧ N' = X ++ [0, 1])) ∧ Ex (fun _ => False) w wr) (fun _ i _ => 20 - (intOf i).toNat)
    case atStart => exact ⟨0, N, by omega, rfl, rfl, rfl, hoi, HXI, hxi⟩
    case round =>
      clear hoi hxi HXI
      obtain ⟨k, N', hk, rfl, rfl, hNL, hoN, hX, hxN⟩ := hrel
      have hNL2 : N'.length ≤ 103 := by rw [hNL.out]; exact hNl2
      have HON := Lib.hid hoN
      have HXN := Lib.hid hxN
      clear hoN hxN
      by_cases d1 : k < la.length
      · by_cases d2 : k < ll.length
        · by_cases d3 : k < 20
          · by_cases d4 : N.length = 2
            · have hz : ((N.length : Int) == 2) = true := beq_iff_eq.mpr (by omega)
              clear d4
              go_wp2_with fail
              refine (sum1_any _ _ N' _ _ _ rfl HON.out.rb (by omega)).mono ?_
              rintro e w' ⟨rfl, rfl⟩
              go_wp2_with fail
              go_ret
              exact ⟨rfl, HXN.out.alloc _⟩
            · have hz : ((N.length : Int) == 2) = false := beq_eq_false_iff_ne.mpr (by omega)
              have hN4 : 4 ≤ N.length := by omega
              clear d4
              obtain ⟨ba, offa, rfl, _, hcka⟩ := HCA.out k d1
              obtain ⟨bl, offl, rfl, _, hckl⟩ := HCL.out k d2
              have hcka := HXN.out.cell hcka id
              have hbl : bl < w.heap.size := World.block_lt_of_cell? w _ hckl
              have hne1 : bl ≠ g := by omega
              have hne2 : g ≠ bl := by omega
              have hckl := HXN.out.cell hckl id
              have hla8 := (la[k]).toNat_lt
              have hll16 := (ll[k]).toNat_lt
              obtain ⟨j, hj, hj2, hjl⟩ : ∃ j : Nat, ((la[k].toNat : Int)) % ((N.length : Int) / 2 - 1) * 2 = (j : Int) ∧ j % 2 = 0 ∧ j + 3 < N.length := at_chain la[k].toNat N.length hN4 hN2
              have hnz : ¬ ((N.length : Int) / 2 - 1 = 0) := by omega
              have hjl1 : j + 1 < N'.length := by rw [hNL.out]; omega
              have hb0 := (N'[j]'(by omega)).toNat_lt
              have hb1 := (N'[j + 1]).toNat_lt
              have hc0 := HON.out.cell j (by omega)
              have hc1 := HON.out.cell (j + 1) hjl1
              have hfg := HON.out.frozen j
              have hfh := HON.out.frozen (j + 1)
              have q1 := IntWalk.i64_in ((j : Int) + 1) (by omega)
              have q7 : (0 : Int) ≤ (j : Int) + 1 := by omega
              have q8 : ((j : Int) + 1).toNat = j + 1 := by omega
              have q2 := IntWalk.u16_in ((N'[j]'(by omega)).toNat : Int) (by omega)
              have q3 := IntWalk.u16_in (((N'[j]'(by omega)).toNat : Int) * 256) (by omega)
              have q4 := IntWalk.u16_in ((N'[j + 1]).toNat : Int) (by omega)
              have q5 := IntWalk.u16_in (((N'[j]'(by omega)).toNat : Int) * 256 + ((N'[j + 1]).toNat : Int)) (by omega)
              have q9 : ((j : Int) + 1) < (N.length : Int) := by omega
              go_wp2_with fail
              go_quiet (fail)
              clear q1 q2 q3 q4 q5
              obtain ⟨n, hn, hn1⟩ : ∃ n : Nat, ll[k].toNat = n ∧ n < 65536 := ⟨_, rfl, hll16⟩
              rw [hn] at hckl
              have hset := ac_set N' j hj2 hjl1 (by8 ((n : Int) / 256)) (by8 ((n : Int) % 256))
              have hpr := ac_pair N' j hj2 hjl1
              have hxy : (by8 ((n : Int) / 256)).toNat * 256 + (by8 ((n : Int) % 256)).toNat = n := by
                have h1 := by8_toNat ((n : Int) / 256)
                have h2 := by8_toNat ((n : Int) % 256)
                omega
              rw [hxy] at hset
              obtain ⟨o, ho', ho1⟩ : ∃ o : Nat, (N'[j]'(by omega)).toNat * 256 + (N'[j + 1]).toNat = o ∧ o ≤ 65535 := ⟨_, rfl, by omega⟩
              rw [ho'] at hpr
              rw [show ((N'[j]'(by omega)).toNat : Int) * 256 + ((N'[j + 1]).toNat : Int) = (o : Int) from by omega]
              have hX2 : Hid (∃ X, Hid (X.length = M.length ∧ (N'.set j (by8 ((n : Int) / 256))).set (j + 1) (by8 ((n : Int) % 256)) = X ++ [0, 1])) := by
                obtain ⟨X, hX1⟩ := hX.out
                obtain ⟨hX1, hX2⟩ := hX1.out
                have hNM := HNL.out
                refine ⟨(X.set j (by8 ((n : Int) / 256))).set (j + 1) (by8 ((n : Int) % 256)), by simpa using hX1, ?_⟩
                rw [hX2, List.set_append_left _ _ (by omega), List.set_append_left _ _ (by simp; omega)]
              have hpos : 0 < ac true ((N'.set j (by8 ((n : Int) / 256))).set (j + 1) (by8 ((n : Int) % 256))) := by
                obtain ⟨X, hX1⟩ := hX2.out
                obtain ⟨hX1, hX2⟩ := hX1.out
                rw [hX2, ac_append, hi_even _ _ (by rw [hX1]; exact hM2)]
                simp [ac]
              have hup : up (su N') o n = su ((N'.set j (by8 ((n : Int) / 256))).set (j + 1) (by8 ((n : Int) % 256))) := by
                have h1 := up_now (ac true (N'.take j) + ac true (N'.drop (j + 2))) o n ho1 (by omega)
                rw [show ac true (N'.take j) + ac true (N'.drop (j + 2)) + o = ac true N' by omega, show ac true (N'.take j) + ac true (N'.drop (j + 2)) + n = ac true ((N'.set j (by8 ((n : Int) / 256))).set (j + 1) (by8 ((n : Int) % 256))) by omega] at h1
                exact h1
              have HS0 := (((HON.out.keep (S := fun _ => False) ((Ex.refl _ wr).drewN nq) (fun _ _ _ _ => id)).set j (by8 ((n : Int) / 256)) (.int .u8 ((n : Int) / 256)) (by rw [by8_toNat]; congr 1; omega)).set (j + 1) (by8 ((n : Int) % 256)) (.int .u8 ((n : Int) % 256)) (by rw [by8_toNat]; congr 1; omega))
              have hlen2 : ((N'.set j (by8 ((n : Int) / 256))).set (j + 1) (by8 ((n : Int) % 256))).length = N'.length := by simp
              clear hset hpos hpr
              generalize (N'.set j (by8 ((n : Int) / 256))).set (j + 1) (by8 ((n : Int) % 256)) = N2 at HS0 hup hX2 hlen2
              have HUP := Lib.hid hup
              have HS := Lib.hid HS0
              have HL2 := Lib.hid hlen2
              have HXS := Lib.hid (((HXN.out.drewN nq).setCell (p := ⟨g, j, none⟩) (.inr hwg) (.int .u8 ((n : Int) / 256))).setCell (p := ⟨g, j + 1, none⟩) (.inr hwg) (.int .u8 ((n : Int) % 256)))
              clear hxy ho' hup hX hn HS0 hlen2
              go_wp2_with fail
              refine (update_any (su N') o n (su_le _) ho1 (by omega) _).mono ?_
              rintro e w' ⟨rfl, rfl⟩
              rw [HUP.out]
              go_wp2_with fail
              go_roundw
              case rel => exact ⟨k + 1, N2, by omega, by go_num, rfl, HL2.out.trans hNL.out, HS.out, hX2, HXS.out⟩
              case measure => simp [intOf]; omega
          · go_wp2_with fail
            refine (sum1_any _ _ N' _ _ _ rfl HON.out.rb (by omega)).mono ?_
            rintro e w' ⟨rfl, rfl⟩
            go_wp2_with fail
            go_ret
            exact ⟨rfl, HXN.out.alloc _⟩
        · go_wp2_with fail
          refine (sum1_any _ _ N' _ _ _ rfl HON.out.rb (by omega)).mono ?_
          rintro e w' ⟨rfl, rfl⟩
          go_wp2_with fail
          go_ret
          exact ⟨rfl, HXN.out.alloc _⟩
      · go_wp2_with fail
        refine (sum1_any _ _ N' _ _ _ rfl HON.out.rb (by omega)).mono ?_
        rintro e w' ⟨rfl, rfl⟩
        go_wp2_with fail
        go_ret
        exact ⟨rfl, HXN.out.alloc _⟩
  · have ho : (((l2.length : Int) % 2) == 1) = false := beq_eq_false_iff_ne.mpr (by omega)
    obtain ⟨M, hM⟩ : ∃ M, M = l2 := ⟨_, rfl⟩
    subst hM
    have hM2 : M.length % 2 = 0 := by omega
    have hMl : M.length ≤ 101 := by omega
    obtain ⟨N, hN, hN2, hNl⟩ : ∃ N, Hid (M ++ [0, 1] = N) ∧ N.length % 2 = 0 ∧ N.length = M.length + 2 := ⟨M ++ [0, 1], rfl, by simp; omega, by simp⟩
    have HNL := Lib.hid hNl
    have hNl1 : 2 ≤ N.length := by omega
    have hNl2 : N.length ≤ 103 := by omega
    clear hNl
    go_wp2_with (first | (at_builtin; refine wpList_append_om i0 32 Try.underlying32 hi hz0 hz1 hz2 rfl (.tmp 13) (.tmp 18) rfl w (fun _ => False) w1.heap.size (.slice (some ⟨w1.heap.size, 0, none⟩) 0 0) [] rfl _ (.slice A m c) M M rfl rfl (HX.out.alloc _) (OB.lit w1 w1.heap.size [] (Nat.le_refl _) (by simp)) ((hr2.keep HX.out (fun _ _ _ => id)).alloc _) ?c1 HX.out.size ?c2 ?_; (case c1 => simp; omega); (case c2 => simp); intro A3 c3 w3 ho3 hx3 hz3; try simp only [World.size_alloc] at hz3; have hsz3 : w1.heap.size ≤ w3.heap.size := (by omega)) | (at_builtin; refine wpList_append_om i0 32 Try.underlying32 hi hz0 hz1 hz2 rfl (.tmp 27) (.tmp 28) rfl w (fun _ => False) w1.heap.size (.slice A3 M.length c3) M rfl _ (.slice (some ⟨w3.heap.size, 0, none⟩) 2 2) [0, 1] N hN.out rfl (hx3.alloc _) (ho3.alloc _) (RB.made w3 [0, 1] _ _ (by rfl) (by simp) _ _ rfl (Nat.le_refl _) rfl) ?c1 HX.out.size ?c2 ?_; (case c1 => simp; omega); (case c2 => simp; omega); intro A4 c4 w4 ho4 hx4 _))
    obtain ⟨g, cap, e, hBg, hgl⟩ := ho4.form (show 0 < N.length by omega)
    injection e with e1 e2 e3
    subst e1
    clear e2 e3
    have ho4 := Lib.hid ho4
    have hx4 := Lib.hid hx4
    refine (sum1_any _ _ N _ _ _ rfl ho4.out.rb (by omega)).mono ?_
    rintro e w' ⟨rfl, rfl⟩
    have hwg : w.heap.size ≤ g := by have := HX.out.size; omega
    have hoi := ho4.out.alloc (.cells #[.slice (some ⟨g, 0, none⟩) N.length c4] 32)
    have hxi := hx4.out.alloc (.cells #[.slice (some ⟨g, 0, none⟩) N.length c4] 32)
    have hXi : ∃ X, Hid (X.length = M.length ∧ N = X ++ [0, 1]) := ⟨M, rfl, hN.out.symm⟩
    have HXI := Lib.hid hXi
    clear hXi
    go_wp2
    go_loopw [8, 9] (fun s i wr => ∃ (k : Nat) (N' : List UInt8), k ≤ 20 ∧ i = .int .i64 (k : Int) ∧ s = .int .u16 (su N' : Int) ∧ Hid (N'.length = N.length) ∧ OB wr w1.heap.size (.slice (some ⟨g, 0, none⟩) N.length c4) N' ∧ Hid (∃ X, Hid (X.length = M.length ∧ N' = X ++ [0, 1])) ∧ Ex (fun _ => False) w wr) (fun _ i _ => 20 - (intOf i).toNat)
    case atStart => exact ⟨0, N, by omega, rfl, rfl, rfl, hoi, HXI, hxi⟩
    case round =>
      clear hoi hxi HXI
      obtain ⟨k, N', hk, rfl, rfl, hNL, hoN, hX, hxN⟩ := hrel
      have hNL2 : N'.length ≤ 103 := by rw [hNL.out]; exact hNl2
      have HON := Lib.hid hoN
      have HXN := Lib.hid hxN
      clear hoN hxN
      by_cases d1 : k < la.length
      · by_cases d2 : k < ll.length
        · by_cases d3 : k < 20
          · by_cases d4 : N.length = 2
            · have hz : ((N.length : Int) == 2) = true := beq_iff_eq.mpr (by omega)
              clear d4
              go_wp2_with fail
              refine (sum1_any _ _ N' _ _ _ rfl HON.out.rb (by omega)).mono ?_
              rintro e w' ⟨rfl, rfl⟩
              go_wp2_with fail
              go_ret
              exact ⟨rfl, HXN.out.alloc _⟩
            · have hz : ((N.length : Int) == 2) = false := beq_eq_false_iff_ne.mpr (by omega)
              have hN4 : 4 ≤ N.length := by omega
              clear d4
              obtain ⟨ba, offa, rfl, _, hcka⟩ := HCA.out k d1
              obtain ⟨bl, offl, rfl, _, hckl⟩ := HCL.out k d2
              have hcka := HXN.out.cell hcka id
              have hbl : bl < w.heap.size := World.block_lt_of_cell? w _ hckl
              have hne1 : bl ≠ g := by omega
              have hne2 : g ≠ bl := by omega
              have hckl := HXN.out.cell hckl id
              have hla8 := (la[k]).toNat_lt
              have hll16 := (ll[k]).toNat_lt
              obtain ⟨j, hj, hj2, hjl⟩ : ∃ j : Nat, ((la[k].toNat : Int)) % ((N.length : Int) / 2 - 1) * 2 = (j : Int) ∧ j % 2 = 0 ∧ j + 3 < N.length := at_chain la[k].toNat N.length hN4 hN2
              have hnz : ¬ ((N.length : Int) / 2 - 1 = 0) := by omega
              have hjl1 : j + 1 < N'.length := by rw [hNL.out]; omega
              have hb0 := (N'[j]'(by omega)).toNat_lt
              have hb1 := (N'[j + 1]).toNat_lt
              have hc0 := HON.out.cell j (by omega)
              have hc1 := HON.out.cell (j + 1) hjl1
              have hfg := HON.out.frozen j
              have hfh := HON.out.frozen (j + 1)
              have q1 := IntWalk.i64_in ((j : Int) + 1) (by omega)
              have q7 : (0 : Int) ≤ (j : Int) + 1 := by omega
              have q8 : ((j : Int) + 1).toNat = j + 1 := by omega
              have q2 := IntWalk.u16_in ((N'[j]'(by omega)).toNat : Int) (by omega)
              have q3 := IntWalk.u16_in (((N'[j]'(by omega)).toNat : Int) * 256) (by omega)
              have q4 := IntWalk.u16_in ((N'[j + 1]).toNat : Int) (by omega)
              have q5 := IntWalk.u16_in (((N'[j]'(by omega)).toNat : Int) * 256 + ((N'[j + 1]).toNat : Int)) (by omega)
              have q9 : ((j : Int) + 1) < (N.length : Int) := by omega
              go_wp2_with fail
              go_quiet (fail)
              clear q1 q2 q3 q4 q5
              obtain ⟨n, hn, hn1⟩ : ∃ n : Nat, ll[k].toNat = n ∧ n < 65536 := ⟨_, rfl, hll16⟩
              rw [hn] at hckl
              have hset := ac_set N' j hj2 hjl1 (by8 ((n : Int) / 256)) (by8 ((n : Int) % 256))
              have hpr := ac_pair N' j hj2 hjl1
              have hxy : (by8 ((n : Int) / 256)).toNat * 256 + (by8 ((n : Int) % 256)).toNat = n := by
                have h1 := by8_toNat ((n : Int) / 256)
                have h2 := by8_toNat ((n : Int) % 256)
                omega
              rw [hxy] at hset
              obtain ⟨o, ho', ho1⟩ : ∃ o : Nat, (N'[j]'(by omega)).toNat * 256 + (N'[j + 1]).toNat = o ∧ o ≤ 65535 := ⟨_, rfl, by omega⟩
              rw [ho'] at hpr
              rw [show ((N'[j]'(by omega)).toNat : Int) * 256 + ((N'[j + 1]).toNat : Int) = (o : Int) from by omega]
              have hX2 : Hid (∃ X, Hid (X.length = M.length ∧ (N'.set j (by8 ((n : Int) / 256))).set (j + 1) (by8 ((n : Int) % 256)) = X ++ [0, 1])) := by
                obtain ⟨X, hX1⟩ := hX.out
                obtain ⟨hX1, hX2⟩ := hX1.out
                have hNM := HNL.out
                refine ⟨(X.set j (by8 ((n : Int) / 256))).set (j + 1) (by8 ((n : Int) % 256)), by simpa using hX1, ?_⟩
                rw [hX2, List.set_append_left _ _ (by omega), List.set_append_left _ _ (by simp; omega)]
              have hpos : 0 < ac true ((N'.set j (by8 ((n : Int) / 256))).set (j + 1) (by8 ((n : Int) % 256))) := by
                obtain ⟨X, hX1⟩ := hX2.out
                obtain ⟨hX1, hX2⟩ := hX1.out
                rw [hX2, ac_append, hi_even _ _ (by rw [hX1]; exact hM2)]
                simp [ac]
              have hup : up (su N') o n = su ((N'.set j (by8 ((n : Int) / 256))).set (j + 1) (by8 ((n : Int) % 256))) := by
                have h1 := up_now (ac true (N'.take j) + ac true (N'.drop (j + 2))) o n ho1 (by omega)
                rw [show ac true (N'.take j) + ac true (N'.drop (j + 2)) + o = ac true N' by omega, show ac true (N'.take j) + ac true (N'.drop (j + 2)) + n = ac true ((N'.set j (by8 ((n : Int) / 256))).set (j + 1) (by8 ((n : Int) % 256))) by omega] at h1
                exact h1
              have HS0 := (((HON.out.keep (S := fun _ => False) ((Ex.refl _ wr).drewN nq) (fun _ _ _ _ => id)).set j (by8 ((n : Int) / 256)) (.int .u8 ((n : Int) / 256)) (by rw [by8_toNat]; congr 1; omega)).set (j + 1) (by8 ((n : Int) % 256)) (.int .u8 ((n : Int) % 256)) (by rw [by8_toNat]; congr 1; omega))
              have hlen2 : ((N'.set j (by8 ((n : Int) / 256))).set (j + 1) (by8 ((n : Int) % 256))).length = N'.length := by simp
              clear hset hpos hpr
              generalize (N'.set j (by8 ((n : Int) / 256))).set (j + 1) (by8 ((n : Int) % 256)) = N2 at HS0 hup hX2 hlen2
              have HUP := Lib.hid hup
              have HS := Lib.hid HS0
              have HL2 := Lib.hid hlen2
              have HXS := Lib.hid (((HXN.out.drewN nq).setCell (p := ⟨g, j, none⟩) (.inr hwg) (.int .u8 ((n : Int) / 256))).setCell (p := ⟨g, j + 1, none⟩) (.inr hwg) (.int .u8 ((n : Int) % 256)))
              clear hxy ho' hup hX hn HS0 hlen2
              go_wp2_with fail
              refine (update_any (su N') o n (su_le _) ho1 (by omega) _).mono ?_
              rintro e w' ⟨rfl, rfl⟩
              rw [HUP.out]
              go_wp2_with fail
              go_roundw
              case rel => exact ⟨k + 1, N2, by omega, by go_num, rfl, HL2.out.trans hNL.out, HS.out, hX2, HXS.out⟩
              case measure => simp [intOf]; omega
          · go_wp2_with fail
            refine (sum1_any _ _ N' _ _ _ rfl HON.out.rb (by omega)).mono ?_
            rintro e w' ⟨rfl, rfl⟩
            go_wp2_with fail
            go_ret
            exact ⟨rfl, HXN.out.alloc _⟩
        · go_wp2_with fail
          refine (sum1_any _ _ N' _ _ _ rfl HON.out.rb (by omega)).mono ?_
          rintro e w' ⟨rfl, rfl⟩
          go_wp2_with fail
          go_ret
          exact ⟨rfl, HXN.out.alloc _⟩
      · go_wp2_with fail
        refine (sum1_any _ _ N' _ _ _ rfl HON.out.rb (by omega)).mono ?_
        rintro e w' ⟨rfl, rfl⟩
        go_wp2_with fail
        go_ret
        exact ⟨rfl, HXN.out.alloc _⟩
end Go.Proofs.Yteefinlpfgbefaa
