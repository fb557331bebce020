/-
  told and shown of law 01. By an AI agent.
-/
import Derived.Test.YtkgieciamophkaaDoorNum
import Derived.Test.YtkgieciamophkaaDoorCode
namespace Go.Proofs.YtkgieciamophkaaDoor
open Go.RowKit

theorem told1_nil (w : World) : Calls Tryd.prog 32 #[.nilIface] w fun e w' => e = .returned (.string ⟨#[]⟩) ∧ w = w' := by
  go_enter Tryd.func32, Tryd.ntmps32
  go_wp2
  go_ret
  exact ⟨rfl, rfl⟩
theorem told1_any (P : Nat → Prop) (r : List (List UInt8)) (k : Nat) (v : Value) (w : World) (hec : EC w P r v k) (hk : k ≤ 13) (hl : (etx r k).length ≤ 1000) :
    Calls Tryd.prog 32 #[v] w fun e w' => e = .returned (.string (bs (etx r k))) ∧ Ex (fun _ => False) w w' := by
  obtain ⟨ty, y, f, rfl, g1, g2, g3⟩ := etext k hk r v w hec hl
  have G3 := Lib.hid g3
  clear g3 hec
  go_enter Tryd.func32, Tryd.ntmps32
  go_wp2_with fail
  refine (G3.out w (Ex.refl _ w)).mono ?_
  rintro e w' ⟨rfl, hx⟩
  have HX := Lib.hid hx
  clear hx
  go_wp2_with fail
  go_ret
  exact ⟨rfl, HX.out⟩

theorem EC.old {w : World} {P : Nat → Prop} : ∀ {r v k}, EC w P r v k → EC w (fun j => P j ∧ j < w.heap.size) r v k
  | [], _, _, h => h
  | _ :: _, _, _, ⟨e, v', h1, h2, h3, h4, h5⟩ => ⟨e, v', h1, ⟨h2, World.block_lt_of_cell? w _ h3⟩, h3, h4, EC.old h5⟩
theorem WR.zero (w : World) (t : TypeId) (g : Nat) (hg : g = w.heap.size) : WR (w.alloc (.cells #[.slice none 0 0] t)) g none [] := by
  subst hg
  exact ⟨.slice none 0 0, by rw [World.cell?_alloc_at _ _ _ _ rfl]; rfl, by simp, OB.nil _ _, rfl, by simp⟩

set_option maxRecDepth 100000 in
set_option maxHeartbeats 4000000 in
theorem shown1_any (w : World) (hg : ET w) : Calls Tryd.prog 15 #[] w fun e w' => e = .returned (.bool true) ∧ Ex (fun _ => False) w w' := by
  have HG := Lib.hid hg
  clear hg
  go_enter Tryd.func15, Tryd.ntmps15
  go_wp2_with fail
  refine (read_any _ _ _ _ [0, 5, 7] _ (RB.made w [0, 5, 7] _ _ rfl (by simp) 3 3 rfl (Nat.le_refl _) rfl) (fun h => by cases h) (by simp)).mono ?_
  rintro e w1 ⟨p, g, rfl, hr1, hp1, hg1, hx1⟩
  have hx1 := ((Ex.refl (fun _ => False) w).alloc _).trans hx1
  have hp1 : w.heap.size ≤ p := by simp at hp1; omega
  have hg1 : w.heap.size ≤ g := by simp at hg1; omega
  have HR1 := Lib.hid hr1
  have HX1 := Lib.hid hx1
  clear hr1 hx1
  go_wp2_with fail
  have hr2 := HR1.out.keep ((Ex.refl (fun _ => False) w1).alloc (.cells #[.slice none 0 0] 38)) id (fun _ => id)
  have hx2 := HX1.out.alloc (.cells #[.slice none 0 0] 38)
  have hw2 := WR.zero w1 38 w1.heap.size rfl
  have hl2 : w1.heap.size < (w1.alloc (.cells #[.slice none 0 0] 38)).heap.size := by simp
  have hpw : p < w1.heap.size := by obtain ⟨A, c, h, _⟩ := HR1.out; exact World.block_lt_of_cell? w1 _ h
  have hsw := HX1.out.size
  have h1w : 1 < w.heap.size := World.block_lt_of_cell? w _ HG.out
  generalize w1.alloc (.cells #[.slice none 0 0] 38) = w2 at hr2 hx2 hw2 hl2 ⊢
  generalize w1.heap.size = pw at hw2 hl2 hpw hsw ⊢
  have HX2 := Lib.hid hx2
  have HW2 := Lib.hid hw2
  have HR2 := Lib.hid hr2
  clear hx2 hw2 hr2 HX1 HR1
  refine (ru16_any p g 0 [0, 5, 7] w2 HR2.out (by simp)).mono ?_
  rintro e w3 ⟨rfl, hr3, hx3⟩
  have e5 : ((nb ([0, 5, 7].take 2) : Nat) : Int) = 5 := rfl
  rw [e5]
  have hw3 := HW2.out.keep hx3 (by omega) (fun k hk => by cases hk)
  have hs3 := hx3.size
  have hx3 := HX2.out.andThen hx3 (fun i hi hj => by omega)
  have HX3 := Lib.hid hx3
  have HW3 := Lib.hid hw3
  have HR3 : Hid (RD w3 p g 2 [7]) := hr3
  clear hx3 hw3 hr3 HX2 HW2 HR2 e5
  go_wp2_with fail
  refine (ru16_few p g 2 [7] w3 HR3.out (by simp)).mono ?_
  rintro e w4 ⟨v2, rfl, he4, hx4⟩
  have hs4 := hx4.size
  have HR4 := Lib.hid (HR3.out.keep hx4 id (fun _ => id))
  have HW4 := Lib.hid (HW3.out.keep hx4 id (fun _ _ _ => id))
  have HX4 := Lib.hid (HX3.out.trans hx4)
  have HE4 := Lib.hid (EC.mono (Q := fun j => pw < j ∧ j < w4.heap.size) (fun j hj => by omega) he4.old)
  clear hx4 he4 HR3 HW3 HX3
  go_wp2_with fail
  refine (left_any p g 2 [7] w4 HR4.out).mono ?_
  rintro e w' ⟨rfl, rfl⟩
  go_wp2_with fail
  refine (rdone_any p g 2 [7] w4 HR4.out).mono ?_
  rintro e w5 ⟨hx5, hcase⟩
  obtain ⟨v3, rfl, he5⟩ : ∃ v, e = .returned v ∧ EC w5 (fun j => j = w4.heap.size) [lay1] v 3 := by
    rcases hcase with ⟨h, _⟩ | ⟨_, h⟩
    · cases h
    · exact h
  have hs5 := hx5.size
  have HW5 := Lib.hid (HW4.out.keep hx5 id (fun _ _ _ => id))
  have HE45 := Lib.hid (HE4.out.keep hx5 (fun _ _ => id))
  have HE55 := Lib.hid (EC.mono (Q := fun j => pw < j ∧ j < w5.heap.size) (fun j hj => by omega) he5.old)
  have HX5 := Lib.hid (HX4.out.trans hx5)
  clear hx5 he5 hcase HR4 HW4 HX4 HE4
  go_wp2_with fail
  refine (wu8_any pw none [] 1 w5 (by omega) (by omega) HW5.out (by simp)).mono ?_
  rintro e w6 ⟨rfl, q6, hw6, hq6, hx6⟩
  have hs6 := hx6.size
  have hne6 : ∀ j, (j = pw ∨ (none : Option Nat) = some j) → j = pw := fun j h => h.elim id (fun h => by cases h)
  have hx6' : Ex (fun j => j = pw) w5 w6 := hx6.mono (fun j _ h => hne6 j h)
  have HE46 := Lib.hid (HE45.out.keep hx6' (fun j hj e => by omega))
  have HE56 := Lib.hid (HE55.out.keep hx6' (fun j hj e => by omega))
  have HX6 := Lib.hid (HX5.out.andThen hx6' (fun i hi hj => by omega))
  have HW6 := Lib.hid hw6
  have hq6' : ∀ k, q6 = some k → w5.heap.size ≤ k := by
    rcases hq6 with rfl | ⟨k, rfl, hk⟩
    · intro k h; cases h
    · intro j h; obtain rfl := Option.some.inj h; exact hk
  have HQ6 := Lib.hid hq6'
  clear hx6 hx6' hw6 hq6 hq6' hne6 HW5 HE45 HE55 HX5
  go_wp2_with fail
  refine (wu32_any pw q6 _ 258 w6 (by omega) (by omega) HW6.out (by simp [txt])).mono ?_
  rintro e w7 ⟨rfl, q7, hw7, hq7, hx7⟩
  have hs7 := hx7.size
  have hnt : ∀ j, j < w5.heap.size → j ≠ pw → ¬ (j = pw ∨ q6 = some j) := by
    intro j h1 h2 h
    rcases h with h | h
    · exact h2 h
    · have := HQ6.out j h; omega
  have HE47 := Lib.hid (HE46.out.keep hx7 (fun j hj => hnt j (by omega) (by omega)))
  have HE57 := Lib.hid (HE56.out.keep hx7 (fun j hj => hnt j (by omega) (by omega)))
  have HX7 := Lib.hid (HX6.out.andThen hx7 (fun i hi hj => hnt i (by omega) (by omega) hj))
  have HG7 := Lib.hid (HG.out.keep HX7.out id)
  have hl7 : (([] : List UInt8) ++ txt 1 1) ++ txt 258 4 = [1, 0, 0, 1, 2] := by decide
  rw [hl7] at hw7
  have HW7 := Lib.hid hw7
  clear hx7 hw7 hq7 hnt HE46 HE56 HX6 HW6 HQ6 hl7
  go_wp2_with fail
  refine (code_any _ _ 2 v2 w7 HE47.out HG7.out).mono ?_
  rintro e w8 ⟨rfl, hx8⟩
  have HE48 := Lib.hid (HE47.out.keep hx8 (fun _ _ => id))
  have HE58 := Lib.hid (HE57.out.keep hx8 (fun _ _ => id))
  have HX8 := Lib.hid (HX7.out.trans hx8)
  have HG8 := Lib.hid (HG7.out.keep hx8 id)
  have HW8 := Lib.hid (HW7.out.keep hx8 id (fun _ _ _ => id))
  clear hx8 HE47 HE57 HX7 HG7 HW7
  go_wp2_with fail
  refine (told1_any _ _ 2 v2 w8 HE48.out (by decide) (by decide)).mono ?_
  rintro e w9 ⟨rfl, hx9⟩
  have HE59 := Lib.hid (HE58.out.keep hx9 (fun _ _ => id))
  have HX9 := Lib.hid (HX8.out.trans hx9)
  have HG9 := Lib.hid (HG8.out.keep hx9 id)
  have HW9 := Lib.hid (HW8.out.keep hx9 id (fun _ _ _ => id))
  have ht : bs (etx [lay1] 2) = ⟨#[111, 99, 116, 101, 116, 115, 58, 32, 101, 114, 114, 111, 114, 32, 50]⟩ := by decide
  rw [ht]
  clear hx9 HE48 HE58 HX8 HG8 HW8 ht
  go_wp2_with fail
  refine (code_any _ _ 3 v3 w9 HE59.out HG9.out).mono ?_
  rintro e w10 ⟨rfl, hx10⟩
  have HX10 := Lib.hid (HX9.out.trans hx10)
  have HW10 := Lib.hid (HW9.out.keep hx10 id (fun _ _ _ => id))
  clear hx10 HE59 HX9 HG9 HW9
  go_wp2_with fail
  refine (wdone_any pw q7 [1, 0, 0, 1, 2] w10 HW10.out (by simp)).mono ?_
  rintro e w11 ⟨A, c, rfl, ho, hx11⟩
  have hcv : (convert 23 9 (.slice (some A) 5 c)).run Tryd.prog w11 = .ok (.string (bs [1, 0, 0, 1, 2])) w11 := ho.rb.str (Pr := Tryd.prog) 23 9 5 Tryd.underlying23 Tryd.underlying5 Tryd.underlying9
  have hbb : bs [1, 0, 0, 1, 2] = ⟨#[1, 0, 0, 1, 2]⟩ := rfl
  rw [hbb] at hcv
  have HX11 := Lib.hid (HX10.out.trans hx11)
  clear hx11 ho HX10 HW10 hbb
  go_wp2_with fail
  go_ret
  exact ⟨rfl, HX11.out⟩
end Go.Proofs.YtkgieciamophkaaDoor
