/-
  The law EtherSizes holds: for every input the Go function returns true and leaves its arguments as they were. No further condition.
-/
import Derived.Test.YtkgieciamophkaaDoorRows
import Derived.Test.YtkgieciamophkaaDoorOpen
import Derived.Test.YtkgieciamophkaaDoorOpenFrame
import Derived.Test.YtkgieciamophkaaDoorSizes03
import Derived.ProofKit
import Derived.ShutString
import Derived.Test.YtkgieciamophkaaDoorLaidAll
import Derived.Test.YtkgieciamophkaaDoorCards
import Derived.Test.YtkgieciamophkaaDoorTie
import Derived.SevenTiedAt
namespace Go.Proofs.YtkgieciamophkaaDoor.etherSizes
open Go.ChangeShapes Go.WideShapes Go.ChangeAt Go.RowKit
open Go.ChangeMaps (open_string shut_string)

theorem own : ownKnob Tryd.prog.godebug = none := by kernel_rfl
theorem laidOut : laidOutB Tryd.prog = true := by kernel_rfl

set_option maxRecDepth 100000 in
theorem lifted (os : Os) (started : os.Started) (H : Type) (enc : TypeId × Value → H) :
    ReturnsInHanded {} Tryd.checked os 11 .any (fun w args => (Rows.etherSizesSpec.pre enc Tryd.prog Tryd.f11 [] false w args ∧ laidMetH Tryd.prog [("errors.errorType", Rows.laid_errors_errorType), ("underpass/api.All", Rows.laid_underpass_api_All)] w) ∧ sizedMet enc Tryd.prog Tryd.f11 (OpenSpec.ofChange Rows.etherSizesSpec) false w args) (Rows.etherSizesSpec.post enc Tryd.prog Tryd.f11 false true false false) := by
  refine returnsInHanded_of_change_and (C := Tryd.checked) (X := fun w _ => laidMetH Tryd.prog [("errors.errorType", Rows.laid_errors_errorType), ("underpass/api.All", Rows.laid_underpass_api_All)] w) (fun _ _ _ hh h => h.of_heap hh) own started (by kernel_rfl) Tryd.func11
    (ChangeSpec.witness_at (enc := enc) (C := Tryd.checked) (os := os) (X := fun w _ => laidMetH Tryd.prog [("errors.errorType", Rows.laid_errors_errorType), ("underpass/api.All", Rows.laid_underpass_api_All)] w) false (laidWorld2 os) #[.agg #[.int .u8 0, .int .u8 0, .int .u8 0, .int .u8 0, .int .u8 0, .int .u8 0, .int .u8 0, .int .u8 0, .int .u8 0, .int .u8 0, .int .u8 0, .int .u8 0, .int .i64 0, .int .u16 0, .slice none 0 0], .int .i64 0] 8 rfl (by kernel_rfl) (by kernel_rfl) (by kernel_rfl) (by kernel_rfl) (by kernel_rfl) (laidWorld2_met os _)) ?_
  intro W base args ds gs before hval0 hW hcnd _ hL _
  obtain ⟨hg, hal⟩ := etal_of_laid hL
  have hval : ∀ (j : Nat) t v, Tryd.f11.params[j]? = some t → args[j]? = some v → Value.okWide Tryd.prog W .any base t v := hval0
  have hW' := hW
  obtain ⟨p, q, hA0, hV, rfl, hfz, hnd⟩ := hW
  have hA : DataW.TrodAll enc Tryd.prog W 0 (fun _ => true) true Tryd.f11.params.toList args.toList ds p := hA0
  rw [Tryd.params11] at hA hval
  obtain ⟨v0, vs0, d0, ds0, p0, q0, hargs, rfl, rfl, h0, r0⟩ := trodAll_cons hA
  obtain ⟨v1, vs1, d1, ds1, p1, q1, rfl, rfl, rfl, h1, r1⟩ := trodAll_cons r0
  obtain ⟨rfl, rfl, rfl⟩ := trodAll_nil r1
  obtain rfl : args = #[v0, v1] := by cases args; simp_all
  obtain ⟨rfl, rfl⟩ := trodVars_none hV
  have k0 := h0
  have lt0 : ∀ x ∈ p0, x.block < W.heap.size := by obtain ⟨m, hm⟩ := k0; exact DataW.trod_lt m _ _ _ hm
  obtain ⟨f0, A0, c0, ok0, rfl, w0, z0⟩ := fr_open (hval 0 76 v0 rfl rfl) h0
  obtain ⟨a1, rfl, rfl, rfl, w1⟩ := open_int Tryd.underlying3 (hval 1 3 v1 rfl rfl) h1
  have b1 := w1
  simp only [Lit.wf, IntKind.min, IntKind.max, IntKind.signed, IntKind.bits] at b1
  simp at b1
  clear hA0 hval0 hcnd hfz hnd
  refine (sizes_any f0 A0 c0 a1 W ok0 hg hal).mono fun e W' ⟨he, hx⟩ => ?_
  have bel : Below W.heap.size W W' := hx.below W.heap.size (Nat.le_refl _) (fun _ _ => id)
  subst he
  exact ⟨_, rfl, _, _, _, [], _, [], hW', trodAll_mk1 (shut_bool Tryd.underlying4 _), (trodAll_cons_mk (Below.trod laidOut (by kernel_rfl) (of_decide_eq_true (by kernel_rfl)) k0 bel lt0) (trodAll_cons_mk (shut_int Tryd.underlying3 w1) trodAll_mk0)), rfl, bel.frame _, fun h => by cases h⟩

theorem over : Rows.etherSizesRow.holds Tryd.pinned (OpenSpec.ofChange Rows.etherSizesSpec) :=
  OpenClaim.holds_of_wide 11 Tryd.f11 rfl rfl rfl rfl rfl rfl rfl ⟨rfl, rfl, rfl, rfl, rfl⟩ rfl rfl rfl rfl rfl (by kernel_rfl) Tryd.func11 (by kernel_rfl)
    (of_decide_eq_true (by kernel_rfl)) (by unfold Func.isWrapper; first | (rw [if_pos (by decide +kernel)]; kernel_rfl) | (rw [if_neg (by decide +kernel)]; exact ⟨rfl, rfl⟩))
    (fun os started H enc _ => lifted os started H enc)

theorem card : Rows.EtherSizesCardSaid :=
  Claim7.holds_tied_plain_at .later [] [.handle, .data] true (true, Rows.etherSizesCard.stood.harness.2) true
    over (fun _ h => by cases h) (by kernel_rfl) (fun _ h => by cases h) etherSizes_row_tie rfl ⟨rfl, rfl⟩ (by kernel_rfl) rfl
    (fun f fn hf hfn => by
      obtain rfl : f = 11 := Option.some.inj ((show Tryd.prog.funcNamed "underpass/underpasslaw03.EtherSizes" = some 11 by kernel_rfl).symm.trans hf) |>.symm
      obtain rfl : fn = Tryd.f11 := (Option.some.inj (Tryd.func11.symm.trans hfn)).symm
      exact ⟨by kernel_rfl, fun j t ht => by
        rw [Tryd.params11] at ht
        rcases j with _ | j
        · obtain rfl : t = 76 := by simpa using ht.symm
          exact (show Tryd.prog.wantsStandIn 76 = false by kernel_rfl)
        rcases j with _ | j
        · obtain rfl : t = 3 := by simpa using ht.symm
          exact (show Tryd.prog.wantsStandIn 3 = false by kernel_rfl)
        · simp at ht⟩)
    (by kernel_rfl)

end Go.Proofs.YtkgieciamophkaaDoor.etherSizes
namespace Go.Proofs.YtkgieciamophkaaDoor
theorem EtherSizes_holds : Rows.EtherSizesCardSaid := etherSizes.card
#print axioms EtherSizes_holds
end Go.Proofs.YtkgieciamophkaaDoor
