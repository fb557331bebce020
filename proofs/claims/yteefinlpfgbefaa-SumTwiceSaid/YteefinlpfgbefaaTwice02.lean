/-
  The walk of the law SumTwice. By an AI agent.
-/
import Derived.Test.YteefinlpfgbefaaLaw02
import Derived.Deep.QuietTactic
import Derived.BigQuiet
namespace Go.Proofs.Yteefinlpfgbefaa
open Go.RowKit

theorem fo_val (l : List UInt8) : (65535 : Int) - (su l : Int) = (fo (ac true l) : Int) := by
  have := fo_le (ac true l)
  unfold su
  omega

set_option maxHeartbeats 1000000 in
theorem twice_any (P : Nat → Prop) (v vb : Value) (l lb : List UInt8) (w : World) (hr : RB w P v l) (hrb : RB w P vb lb) :
    Calls Try.prog 7 #[v, vb] w fun e w' => e = .returned (.bool true) ∧ Ex (fun _ => False) w w' := by
  have hr := hr.old
  obtain ⟨hl, A, c, rfl, hc, hcell⟩ := hr
  have HR : Hid (RB w (fun k => P k ∧ k < w.heap.size) (.slice A l.length c) l) := ⟨hl, A, c, rfl, hc, hcell⟩
  clear hcell hr
  obtain ⟨i0, hi, hz0, hz1, hz2⟩ := info_parts Try.info5
  obtain ⟨m, hm, hm1, HM⟩ : ∃ m : Nat, (if 200 < (l.length : Int) then (200 : Int) else (l.length : Int)) = (m : Int) ∧ m ≤ l.length ∧ Hid (m = (l.take 200).length) := by
    refine ⟨(l.take 200).length, ?_, by simp; omega, rfl⟩
    rw [List.length_take]; split <;> omega
  have hmi : (m : Int) ≤ (l.length : Int) := by omega
  have hrb := hrb.old
  obtain ⟨hlb, Ab, cb, rfl, hcb, hcellb⟩ := hrb
  have HRB : Hid (RB w (fun k => P k ∧ k < w.heap.size) (.slice Ab lb.length cb) lb) := ⟨hlb, Ab, cb, rfl, hcb, hcellb⟩
  clear hcellb hrb
  obtain ⟨mb, hmb, hmb1, HMB⟩ : ∃ m : Nat, (if 200 < (lb.length : Int) then (200 : Int) else (lb.length : Int)) = (m : Int) ∧ m ≤ lb.length ∧ Hid (m = (lb.take 200).length) := by
    refine ⟨(lb.take 200).length, ?_, by simp; omega, rfl⟩
    rw [List.length_take]; split <;> omega
  have hmib : (mb : Int) ≤ (lb.length : Int) := by omega
  obtain ⟨l3, hr3, hb3⟩ : ∃ l3 : List UInt8, RB w (fun k => P k ∧ k < w.heap.size) (.slice Ab mb cb) l3 ∧ l3.length ≤ 200 :=
    ⟨lb.take 200, by rw [HMB.out]; exact HRB.out.take 200, by simp; omega⟩
  clear HRB HMB
  go_enter Try.func7, Try.ntmps7
  go_wp2_with fail
  refine (shown_any _).mono ?_
  rintro e w1 ⟨rfl, hx1⟩
  obtain ⟨l2, hr2, hb2⟩ : ∃ l2 : List UInt8, RB w (fun k => P k ∧ k < w.heap.size) (.slice A m c) l2 ∧ l2.length ≤ 200 :=
    ⟨l.take 200, by rw [HM.out]; exact HR.out.take 200, by simp; omega⟩
  have HX := Lib.hid hx1
  clear hx1 HM HR
  by_cases hodd : l2.length % 2 = 1
  · have ho : (((l2.length : Int) % 2) == 1) = true := by simp; omega
    obtain ⟨M, hM, hM2, hMl⟩ : ∃ M, Hid (l2 ++ [0] = M) ∧ M.length % 2 = 0 ∧ M.length ≤ 201 := ⟨l2 ++ [0], rfl, by simp; omega, by simp; omega⟩
    go_wp2_with (first | (at_builtin; refine wpList_append_om i0 32 Try.underlying32 hi hz0 hz1 hz2 rfl (.tmp 12) (.tmp 17) rfl w (fun _ => False) w1.heap.size (.slice (some ⟨w1.heap.size, 0, none⟩) 0 0) [] rfl _ (.slice A m c) l2 l2 rfl rfl (HX.out.alloc _) (OB.lit w1 w1.heap.size [] (Nat.le_refl _) (by simp)) ((hr2.keep HX.out (fun _ _ _ => id)).alloc _) ?c1 HX.out.size ?c2 ?_; (case c1 => simp; omega); (case c2 => simp); intro A2 c2 w2 ho2 hx2 hz2x; try simp only [World.size_alloc] at hz2x) | (at_builtin; refine wpList_append_om i0 32 Try.underlying32 hi hz0 hz1 hz2 rfl (.tmp 28) (.tmp 29) rfl w (fun _ => False) w1.heap.size (.slice A2 l2.length c2) l2 rfl _ (.slice (some ⟨w2.heap.size, 0, none⟩) 1 1) [0] M hM.out rfl (hx2.alloc _) (ho2.alloc _) (RB.made w2 [0] _ _ (by rfl) (by simp) _ _ rfl (Nat.le_refl _) rfl) ?c1 HX.out.size ?c2 ?_; (case c1 => simp; omega); (case c2 => simp; omega); intro A3 c3 w3 ho3 hx3 hz3; try simp only [World.size_alloc] at hz3; have hsz3 : w1.heap.size ≤ w3.heap.size := (by omega)))
    have ho3 := Lib.hid ho3
    have hx3 := Lib.hid hx3
    refine (sum1_any _ _ M _ _ _ rfl ho3.out.rb (by omega)).mono ?_
    rintro e w' ⟨rfl, rfl⟩
    have hy1 := fo_val M
    have hy2 := fo_val l3
    have hf1 := fo_le (ac true M)
    have hf2 := fo_le (ac true l3)
    go_wp2_with fail
    refine (sum1_any _ _ l3 _ _ _ (by simp) ((hr3.keep hx3.out (fun _ _ _ => id)).alloc _) (by omega)).mono ?_
    rintro e w' ⟨rfl, rfl⟩
    go_wp2_with fail
    have hq1 := by8_toNat ((fo (ac true M) : Int) / 256)
    have hq2 := by8_toNat ((fo (ac true M) : Int) % 256)
    have hq3 := by8_toNat ((fo (ac true l3) : Int) / 256)
    have hq4 := by8_toNat ((fo (ac true l3) : Int) % 256)
    have hsf := su_four (fo (ac true M)) (fo (ac true l3)) (by8 ((fo (ac true M) : Int) / 256)) (by8 ((fo (ac true M) : Int) % 256)) (by8 ((fo (ac true l3) : Int) / 256)) (by8 ((fo (ac true l3) : Int) % 256)) (by omega) (by omega)
    have hst := su_two M l3 hM2
    rw [← hst] at hsf
    clear hq1 hq2 hq3 hq4
    refine (sum1_any _ _ [by8 ((fo (ac true M) : Int) / 256), by8 ((fo (ac true M) : Int) % 256), by8 ((fo (ac true l3) : Int) / 256), by8 ((fo (ac true l3) : Int) % 256)] _ _ _ (by simp) (RB.made _ _ _ _ (by simp [u8v_by8]; omega) (by simp) _ _ rfl (Nat.le_refl _) (by simp)) (by simp)).mono ?_
    rintro e w' ⟨rfl, rfl⟩
    rw [hsf]
    have hoW := (((ho3.out.alloc (.cells #[.slice A3 M.length c3] 32)).alloc (.cells #[.slice Ab mb cb] 32)).alloc (.cells #[.int .u8 ((fo (ac true M) : Int) / 256), .int .u8 ((fo (ac true M) : Int) % 256), .int .u8 ((fo (ac true l3) : Int) / 256), .int .u8 ((fo (ac true l3) : Int) % 256)] 5)).alloc (.cells #[.slice (some ⟨w3.heap.size + 1 + 1, 0, none⟩) 4 4] 32)
    have hxW := (((hx3.out.alloc (.cells #[.slice A3 M.length c3] 32)).alloc (.cells #[.slice Ab mb cb] 32)).alloc (.cells #[.int .u8 ((fo (ac true M) : Int) / 256), .int .u8 ((fo (ac true M) : Int) % 256), .int .u8 ((fo (ac true l3) : Int) / 256), .int .u8 ((fo (ac true l3) : Int) % 256)] 5)).alloc (.cells #[.slice (some ⟨w3.heap.size + 1 + 1, 0, none⟩) 4 4] 32)
    have hzW : w3.heap.size ≤ ((((w3.alloc (.cells #[.slice A3 M.length c3] 32)).alloc (.cells #[.slice Ab mb cb] 32)).alloc (.cells #[.int .u8 ((fo (ac true M) : Int) / 256), .int .u8 ((fo (ac true M) : Int) % 256), .int .u8 ((fo (ac true l3) : Int) / 256), .int .u8 ((fo (ac true l3) : Int) % 256)] 5)).alloc (.cells #[.slice (some ⟨w3.heap.size + 1 + 1, 0, none⟩) 4 4] 32)).heap.size := by simp; omega
    generalize ((((w3.alloc (.cells #[.slice A3 M.length c3] 32)).alloc (.cells #[.slice Ab mb cb] 32)).alloc (.cells #[.int .u8 ((fo (ac true M) : Int) / 256), .int .u8 ((fo (ac true M) : Int) % 256), .int .u8 ((fo (ac true l3) : Int) / 256), .int .u8 ((fo (ac true l3) : Int) % 256)] 5)).alloc (.cells #[.slice (some ⟨w3.heap.size + 1 + 1, 0, none⟩) 4 4] 32)) = W at hoW hxW hzW ⊢
    have HSI := Lib.hid (su_inv M hM2)
    have hwl := hoW.lt
    have HOW := Lib.hid hoW
    have HXW := Lib.hid hxW
    clear hoW hxW hsf hst
    go_wp2_with (at_builtin; refine wpList_append_om i0 32 Try.underlying32 hi hz0 hz1 hz2 rfl (.tmp 54) (.tmp 55) rfl W (fun _ => False) W.heap.size (.slice (some ⟨W.heap.size, 0, none⟩) 0 0) [] rfl _ (.slice A3 M.length c3) M M rfl rfl ((Ex.refl _ W).alloc _) (OB.lit W W.heap.size [] (Nat.le_refl _) (by simp)) (HOW.out.rb.alloc _) ?c1 (Nat.le_refl _) ?c2 ?_; (case c1 => simp; omega); (case c2 => simp); intro A5 c5 w5 ho5 hx5 _)
    have hin : OB w5 W.heap.size (.slice A5 M.length c5) ((M.take 0).map inv8 ++ M.drop 0) := by simpa using ho5
    go_loopw [10] (fun i wr => ∃ k : Nat, k ≤ M.length ∧ i = .int .i64 (k : Int) ∧ OB wr W.heap.size (.slice A5 M.length c5) ((M.take k).map inv8 ++ M.drop k) ∧ Ex (fun _ => False) W wr) (fun i _ => M.length - (intOf i).toNat)
    case atStart => exact ⟨0, Nat.zero_le _, rfl, hin, hx5⟩
    case round =>
      clear hin ho5 hx5
      obtain ⟨k, hk, rfl, hor, hxr⟩ := hrel
      have hTl : ((M.take k).map inv8 ++ M.drop k).length = M.length := by simp; omega
      have hoM := HOW.out.keep hxr (fun _ _ _ _ => id)
      by_cases hlt : k < M.length
      · obtain ⟨g3, cap3, e3, hg3, hgl3⟩ := HOW.out.form (show 0 < M.length by omega)
        injection e3 with e31 e32 e33
        subst e31
        obtain ⟨g5, cap5, e5, hg5, hgl5⟩ := hor.form (show 0 < _ by rw [hTl]; omega)
        injection e5 with e51 e52 e53
        subst e51
        have hc3 := hoM.cell k hlt
        obtain ⟨old, hc5⟩ : ∃ old, wr.cell? ⟨g5, k, none⟩ = some old := ⟨_, hor.cell k (by rw [hTl]; exact hlt)⟩
        have hf5 := hor.frozen k
        have hb := (M[k]).toNat_lt
        have hio := inv8_toNat M[k]
        have hset := hor.set k (inv8 M[k]) (.int .u8 (255 - (M[k].toNat : Int))) (by rw [hio]; congr 1; omega)
        rw [inv_step M k hlt] at hset
        have HSET := Lib.hid hset
        clear hset hio e32 e33 e52 e53 hTl
        go_wp2
        go_roundw
        case rel => exact ⟨k + 1, by omega, by go_num, HSET.out, hxr.setCell (.inr hg5) _⟩
        case measure => simp [intOf]; omega
      · obtain rfl : k = M.length := by omega
        have hT : (M.take M.length).map inv8 ++ M.drop M.length = M.map inv8 := by simp
        rw [hT] at hor
        have h3 := (hr3.keep HX.out (fun _ _ _ => id))
        have hxw : Ex (fun _ => False) w wr := HXW.out.trans hxr
        go_wp2_with fail
        refine (sum2_any (fun _ => True) _ _ M l3 _ _ _ rfl hoM.rb.any ((hr3.keep hxw (fun _ _ _ => id)).any) (by omega)).mono ?_
        rintro e w' ⟨rfl, rfl⟩
        by_cases hM0 : M.length = 0
        · have hz : ((M.length : Int) == 0) = true := beq_iff_eq.mpr (by omega)
          clear hM0
          go_wp2_with fail
          go_ret
          exact ⟨rfl, hxw.alloc _⟩
        · have hz : ((M.length : Int) == 0) = false := beq_eq_false_iff_ne.mpr (by omega)
          have hs0 := HSI.out (by omega)
          have hml : (M.map inv8).length = M.length := by simp
          go_wp2_with fail
          refine (sum2_any (fun _ => True) _ _ M (M.map inv8) _ _ _ (by simp) (hoM.rb.any.alloc _) (hor.rb.any.alloc _) (by rw [hml]; omega)).mono ?_
          rintro e w' ⟨rfl, rfl⟩
          rw [hs0]
          go_wp2_with fail
          go_ret
          exact ⟨rfl, (hxw.alloc _).alloc _⟩
  · have ho : (((l2.length : Int) % 2) == 1) = false := beq_eq_false_iff_ne.mpr (by omega)
    obtain ⟨M, hM⟩ : ∃ M, M = l2 := ⟨_, rfl⟩
    subst hM
    have hM2 : M.length % 2 = 0 := by omega
    have hMl : M.length ≤ 201 := by omega
    go_wp2_with (first | (at_builtin; refine wpList_append_om i0 32 Try.underlying32 hi hz0 hz1 hz2 rfl (.tmp 12) (.tmp 17) rfl w (fun _ => False) w1.heap.size (.slice (some ⟨w1.heap.size, 0, none⟩) 0 0) [] rfl _ (.slice A m c) M M rfl rfl (HX.out.alloc _) (OB.lit w1 w1.heap.size [] (Nat.le_refl _) (by simp)) ((hr2.keep HX.out (fun _ _ _ => id)).alloc _) ?c1 HX.out.size ?c2 ?_; (case c1 => simp; omega); (case c2 => simp); intro A3 c3 w3 ho3 hx3 hz3; try simp only [World.size_alloc] at hz3; have hsz3 : w1.heap.size ≤ w3.heap.size := (by omega)))
    have ho3 := Lib.hid ho3
    have hx3 := Lib.hid hx3
    refine (sum1_any _ _ M _ _ _ rfl ho3.out.rb (by omega)).mono ?_
    rintro e w' ⟨rfl, rfl⟩
    have hy1 := fo_val M
    have hy2 := fo_val l3
    have hf1 := fo_le (ac true M)
    have hf2 := fo_le (ac true l3)
    go_wp2_with fail
    refine (sum1_any _ _ l3 _ _ _ (by simp) ((hr3.keep hx3.out (fun _ _ _ => id)).alloc _) (by omega)).mono ?_
    rintro e w' ⟨rfl, rfl⟩
    go_wp2_with fail
    have hq1 := by8_toNat ((fo (ac true M) : Int) / 256)
    have hq2 := by8_toNat ((fo (ac true M) : Int) % 256)
    have hq3 := by8_toNat ((fo (ac true l3) : Int) / 256)
    have hq4 := by8_toNat ((fo (ac true l3) : Int) % 256)
    have hsf := su_four (fo (ac true M)) (fo (ac true l3)) (by8 ((fo (ac true M) : Int) / 256)) (by8 ((fo (ac true M) : Int) % 256)) (by8 ((fo (ac true l3) : Int) / 256)) (by8 ((fo (ac true l3) : Int) % 256)) (by omega) (by omega)
    have hst := su_two M l3 hM2
    rw [← hst] at hsf
    clear hq1 hq2 hq3 hq4
    refine (sum1_any _ _ [by8 ((fo (ac true M) : Int) / 256), by8 ((fo (ac true M) : Int) % 256), by8 ((fo (ac true l3) : Int) / 256), by8 ((fo (ac true l3) : Int) % 256)] _ _ _ (by simp) (RB.made _ _ _ _ (by simp [u8v_by8]; omega) (by simp) _ _ rfl (Nat.le_refl _) (by simp)) (by simp)).mono ?_
    rintro e w' ⟨rfl, rfl⟩
    rw [hsf]
    have hoW := (((ho3.out.alloc (.cells #[.slice A3 M.length c3] 32)).alloc (.cells #[.slice Ab mb cb] 32)).alloc (.cells #[.int .u8 ((fo (ac true M) : Int) / 256), .int .u8 ((fo (ac true M) : Int) % 256), .int .u8 ((fo (ac true l3) : Int) / 256), .int .u8 ((fo (ac true l3) : Int) % 256)] 5)).alloc (.cells #[.slice (some ⟨w3.heap.size + 1 + 1, 0, none⟩) 4 4] 32)
    have hxW := (((hx3.out.alloc (.cells #[.slice A3 M.length c3] 32)).alloc (.cells #[.slice Ab mb cb] 32)).alloc (.cells #[.int .u8 ((fo (ac true M) : Int) / 256), .int .u8 ((fo (ac true M) : Int) % 256), .int .u8 ((fo (ac true l3) : Int) / 256), .int .u8 ((fo (ac true l3) : Int) % 256)] 5)).alloc (.cells #[.slice (some ⟨w3.heap.size + 1 + 1, 0, none⟩) 4 4] 32)
    have hzW : w3.heap.size ≤ ((((w3.alloc (.cells #[.slice A3 M.length c3] 32)).alloc (.cells #[.slice Ab mb cb] 32)).alloc (.cells #[.int .u8 ((fo (ac true M) : Int) / 256), .int .u8 ((fo (ac true M) : Int) % 256), .int .u8 ((fo (ac true l3) : Int) / 256), .int .u8 ((fo (ac true l3) : Int) % 256)] 5)).alloc (.cells #[.slice (some ⟨w3.heap.size + 1 + 1, 0, none⟩) 4 4] 32)).heap.size := by simp; omega
    generalize ((((w3.alloc (.cells #[.slice A3 M.length c3] 32)).alloc (.cells #[.slice Ab mb cb] 32)).alloc (.cells #[.int .u8 ((fo (ac true M) : Int) / 256), .int .u8 ((fo (ac true M) : Int) % 256), .int .u8 ((fo (ac true l3) : Int) / 256), .int .u8 ((fo (ac true l3) : Int) % 256)] 5)).alloc (.cells #[.slice (some ⟨w3.heap.size + 1 + 1, 0, none⟩) 4 4] 32)) = W at hoW hxW hzW ⊢
    have HSI := Lib.hid (su_inv M hM2)
    have hwl := hoW.lt
    have HOW := Lib.hid hoW
    have HXW := Lib.hid hxW
    clear hoW hxW hsf hst
    go_wp2_with (at_builtin; refine wpList_append_om i0 32 Try.underlying32 hi hz0 hz1 hz2 rfl (.tmp 54) (.tmp 55) rfl W (fun _ => False) W.heap.size (.slice (some ⟨W.heap.size, 0, none⟩) 0 0) [] rfl _ (.slice A3 M.length c3) M M rfl rfl ((Ex.refl _ W).alloc _) (OB.lit W W.heap.size [] (Nat.le_refl _) (by simp)) (HOW.out.rb.alloc _) ?c1 (Nat.le_refl _) ?c2 ?_; (case c1 => simp; omega); (case c2 => simp); intro A5 c5 w5 ho5 hx5 _)
    have hin : OB w5 W.heap.size (.slice A5 M.length c5) ((M.take 0).map inv8 ++ M.drop 0) := by simpa using ho5
    go_loopw [10] (fun i wr => ∃ k : Nat, k ≤ M.length ∧ i = .int .i64 (k : Int) ∧ OB wr W.heap.size (.slice A5 M.length c5) ((M.take k).map inv8 ++ M.drop k) ∧ Ex (fun _ => False) W wr) (fun i _ => M.length - (intOf i).toNat)
    case atStart => exact ⟨0, Nat.zero_le _, rfl, hin, hx5⟩
    case round =>
      clear hin ho5 hx5
      obtain ⟨k, hk, rfl, hor, hxr⟩ := hrel
      have hTl : ((M.take k).map inv8 ++ M.drop k).length = M.length := by simp; omega
      have hoM := HOW.out.keep hxr (fun _ _ _ _ => id)
      by_cases hlt : k < M.length
      · obtain ⟨g3, cap3, e3, hg3, hgl3⟩ := HOW.out.form (show 0 < M.length by omega)
        injection e3 with e31 e32 e33
        subst e31
        obtain ⟨g5, cap5, e5, hg5, hgl5⟩ := hor.form (show 0 < _ by rw [hTl]; omega)
        injection e5 with e51 e52 e53
        subst e51
        have hc3 := hoM.cell k hlt
        obtain ⟨old, hc5⟩ : ∃ old, wr.cell? ⟨g5, k, none⟩ = some old := ⟨_, hor.cell k (by rw [hTl]; exact hlt)⟩
        have hf5 := hor.frozen k
        have hb := (M[k]).toNat_lt
        have hio := inv8_toNat M[k]
        have hset := hor.set k (inv8 M[k]) (.int .u8 (255 - (M[k].toNat : Int))) (by rw [hio]; congr 1; omega)
        rw [inv_step M k hlt] at hset
        have HSET := Lib.hid hset
        clear hset hio e32 e33 e52 e53 hTl
        go_wp2
        go_roundw
        case rel => exact ⟨k + 1, by omega, by go_num, HSET.out, hxr.setCell (.inr hg5) _⟩
        case measure => simp [intOf]; omega
      · obtain rfl : k = M.length := by omega
        have hT : (M.take M.length).map inv8 ++ M.drop M.length = M.map inv8 := by simp
        rw [hT] at hor
        have h3 := (hr3.keep HX.out (fun _ _ _ => id))
        have hxw : Ex (fun _ => False) w wr := HXW.out.trans hxr
        go_wp2_with fail
        refine (sum2_any (fun _ => True) _ _ M l3 _ _ _ rfl hoM.rb.any ((hr3.keep hxw (fun _ _ _ => id)).any) (by omega)).mono ?_
        rintro e w' ⟨rfl, rfl⟩
        by_cases hM0 : M.length = 0
        · have hz : ((M.length : Int) == 0) = true := beq_iff_eq.mpr (by omega)
          clear hM0
          go_wp2_with fail
          go_ret
          exact ⟨rfl, hxw.alloc _⟩
        · have hz : ((M.length : Int) == 0) = false := beq_eq_false_iff_ne.mpr (by omega)
          have hs0 := HSI.out (by omega)
          have hml : (M.map inv8).length = M.length := by simp
          go_wp2_with fail
          refine (sum2_any (fun _ => True) _ _ M (M.map inv8) _ _ _ (by simp) (hoM.rb.any.alloc _) (hor.rb.any.alloc _) (by rw [hml]; omega)).mono ?_
          rintro e w' ⟨rfl, rfl⟩
          rw [hs0]
          go_wp2_with fail
          go_ret
          exact ⟨rfl, (hxw.alloc _).alloc _⟩
end Go.Proofs.Yteefinlpfgbefaa
