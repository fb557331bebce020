/-
  The walk of the law SumPseudo. By an AI agent.
-/
import Derived.Test.YteefinlpfgbefaaLaw02
import Derived.Deep.QuietTactic
import Derived.BigQuiet
namespace Go.Proofs.Yteefinlpfgbefaa
open Go.RowKit

set_option maxHeartbeats 1000000 in
theorem pseudolaw_any (s d p o n : Int) (w : World) (hs : 0 ≤ s ∧ s < 4294967296) (hd : 0 ≤ d ∧ d < 4294967296) (hp : 0 ≤ p ∧ p < 256) (ho : 0 ≤ o ∧ o < 256) (hn : 0 ≤ n ∧ n < 65536) :
    Calls Try.prog 8 #[.int .u32 s, .int .u32 d, .int .u8 p, .int .u8 o, .int .u16 n] w fun e w' => e = .returned (.bool true) ∧ Ex (fun _ => False) w w' := by
  obtain ⟨hn0, hn1⟩ := hn
  go_enter Try.func8, Try.ntmps8
  go_wp2_with fail
  refine (shown_any _).mono ?_
  rintro e w1 ⟨rfl, hx1⟩
  go_wp2_with fail
  refine (pseudo_any s d p n hs hd hp (by omega) _).mono ?_
  rintro e w2 ⟨va, rfl, hoa, hx2⟩
  go_wp2_with fail
  refine (pseudo_any d s p n hd hs hp (by omega) _).mono ?_
  rintro e w3 ⟨vb, rfl, hob, hx3⟩
  go_wp2_with fail
  refine (pseudo_any s d o n hs hd ho (by omega) _).mono ?_
  rintro e w4 ⟨vc, rfl, hoc, hx4⟩
  have hoa := (hoa.keep hx3 (fun _ _ _ _ => id)).keep hx4 (fun _ _ _ _ => id)
  have hob := hob.keep hx4 (fun _ _ _ _ => id)
  have hx := hx1.trans (hx2.trans (hx3.trans hx4))
  clear hx1 hx2 hx3 hx4
  obtain ⟨ga, ca, e, hga, hgla⟩ := hoa.form (by simp [psd, four])
  rw [show (psd s d p n).length = 12 from rfl] at e
  subst e
  obtain ⟨gb, cb, e, hgb, hglb⟩ := hob.form (by simp [psd, four])
  rw [show (psd d s p n).length = 12 from rfl] at e
  subst e
  obtain ⟨gc, cc, e, hgc, hglc⟩ := hoc.form (by simp [psd, four])
  rw [show (psd s d o n).length = 12 from rfl] at e
  subst e
  have hra := hoa.rb
  have hrb := hob.rb
  have hca : (12 : Int) ≤ (ca : Int) := by obtain ⟨_, A, c, e, h, _⟩ := hra; injection e with _ _ e; subst e; rw [psd_len] at h; omega
  have hcb : (12 : Int) ≤ (cb : Int) := by obtain ⟨_, A, c, e, h, _⟩ := hrb; injection e with _ _ e; subst e; rw [psd_len] at h; omega
  have cv : ∀ v l, RB w4 (fun _ => True) v l → ∀ n, (convert 32 9 v).run Try.prog (w4.drewN n) = .ok (.string (bs l)) (w4.drewN n) := fun v l h n =>
    (h.keep (S := fun _ => False) ((Ex.refl _ w4).drewN n) (fun _ _ _ => id)).str 32 9 5 Try.underlying32 Try.underlying5 Try.underlying9
  have k1 := cv _ _ (hra.slice 0 4 (by omega) (by simp [psd, four])).any
  have k2 := cv _ _ (hrb.slice 4 8 (by omega) (by simp [psd, four])).any
  have k3 := cv _ _ (hra.slice 4 8 (by omega) (by simp [psd, four])).any
  have k4 := cv _ _ (hrb.slice 0 4 (by omega) (by simp [psd, four])).any
  have k5 := cv _ _ (hra.slice 8 12 (by omega) (by simp [psd, four])).any
  have k6 := cv _ _ (hrb.slice 8 12 (by omega) (by simp [psd, four])).any
  simp only [Nat.zero_add, Nat.sub_zero, Nat.reduceSub] at k1 k2 k3 k4 k5 k6
  rw [show ((psd s d p n).take 4).drop 0 = four s from rfl] at k1
  rw [show ((psd d s p n).take 8).drop 4 = four s from rfl] at k2
  rw [show ((psd s d p n).take 8).drop 4 = four d from rfl] at k3
  rw [show ((psd d s p n).take 4).drop 0 = four d from rfl] at k4
  rw [show ((psd s d p n).take 12).drop 8 = [0, by8 p, by8 (n / 256), by8 n] from rfl] at k5
  rw [show ((psd d s p n).take 12).drop 8 = [0, by8 p, by8 (n / 256), by8 n] from rfl] at k6
  clear cv
  go_wp2
  go_quiet (fail)
  clear k1 k2 k3 k4 k5 k6
  go_wp2_with fail
  have HA : ∀ W, Ex (fun _ => False) w4 W → RB W (fun _ => True) (.slice (some ⟨ga, 0, none⟩) 12 ca) (psd s d p n) := fun W h => (hra.keep h (fun _ _ _ => id)).any
  have HB : ∀ W, Ex (fun _ => False) w4 W → RB W (fun _ => True) (.slice (some ⟨gb, 0, none⟩) 12 cb) (psd d s p n) := fun W h => (hrb.keep h (fun _ _ _ => id)).any
  have HC : ∀ W, Ex (fun _ => False) w4 W → RB W (fun _ => True) (.slice (some ⟨gc, 0, none⟩) 12 cc) (psd s d o n) := fun W h => (hoc.rb.keep h (fun _ _ _ => id)).any
  have HA := Lib.hid HA
  have HB := Lib.hid HB
  have HC := Lib.hid HC
  have h8 : w4.cell? ⟨ga, 8, none⟩ = some (.int .u8 0) := hoa.cell 8 (by simp [psd, four])
  have h9 : w4.cell? ⟨ga, 9, none⟩ = some (.int .u8 p) := by
    have h : w4.cell? ⟨ga, 9, none⟩ = some (.int .u8 ((by8 p).toNat : Int)) := hoa.cell 9 (by simp [psd, four])
    rw [h, by8_toNat, show p % 256 = p by omega]
  have hx4 := (Ex.refl (fun _ => False) w4).drewN nq
  refine (sum1_any _ _ (psd s d p n) _ _ _ (by simp) (HA.out _ hx4) (by simp [psd, four])).mono ?_
  rintro e w' ⟨rfl, rfl⟩
  go_wp2_with fail
  refine (sum1_any _ _ (psd d s p n) _ _ _ (by simp) (HB.out _ (hx4.alloc _)) (by simp [psd, four])).mono ?_
  rintro e w' ⟨rfl, rfl⟩
  rw [su_psd s d p n hp]
  go_wp2_with fail
  refine (sum1_any _ _ (psd s d p n) _ _ _ (by simp) (HA.out _ ((hx4.alloc _).alloc _)) (by simp [psd, four])).mono ?_
  rintro e w' ⟨rfl, rfl⟩
  go_wp2_with fail
  refine (sum1_any _ _ (psd s d o n) _ _ _ (by simp) (HC.out _ (((hx4.alloc _).alloc _).alloc _)) (by simp [psd, four])).mono ?_
  rintro e w' ⟨rfl, rfl⟩
  have hxF := (((hx4.alloc (.cells #[.slice (some ⟨ga, 0, none⟩) 12 ca] 32)).alloc (.cells #[.slice (some ⟨gb, 0, none⟩) 12 cb] 32)).alloc (.cells #[.slice (some ⟨ga, 0, none⟩) 12 ca] 32)).alloc (.cells #[.slice (some ⟨gc, 0, none⟩) 12 cc] 32)
  have h8' := hxF.cell h8 id
  have h9' := hxF.cell h9 id
  have hxW := hx.trans hxF
  have hne := su_psd_ne s d p o n hp ho
  clear h8 h9 hx hxF hx4
  generalize ((((w4.drewN nq).alloc (.cells #[.slice (some ⟨ga, 0, none⟩) 12 ca] 32)).alloc (.cells #[.slice (some ⟨gb, 0, none⟩) 12 cb] 32)).alloc (.cells #[.slice (some ⟨ga, 0, none⟩) 12 ca] 32)).alloc (.cells #[.slice (some ⟨gc, 0, none⟩) 12 cc] 32) = W at h8' h9' hxW ⊢
  by_cases hpo : p = o
  · subst hpo
    clear hne
    go_wp2_with fail
    go_ret
    exact ⟨rfl, hxW⟩
  · have hne' := hne hpo
    clear hne
    generalize su (psd s d p n) = x1 at hne' ⊢
    generalize su (psd s d o n) = x2 at hne' ⊢
    have b1 : ((x1 : Int) == (x2 : Int)) = false := beq_eq_false_iff_ne.mpr (by omega)
    have b2 : (p == o) = false := beq_eq_false_iff_ne.mpr hpo
    clear hne' hpo
    go_wp2_with fail
    go_ret
    exact ⟨rfl, hxW⟩
end Go.Proofs.Yteefinlpfgbefaa
