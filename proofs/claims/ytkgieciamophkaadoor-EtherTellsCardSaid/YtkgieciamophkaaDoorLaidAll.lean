/-
  What the rows' conditions on errors.errorType and api.All give; a world that meets them. By an AI agent. (Turned from the worked example ToyasProofs.)
-/
import Derived.Test.YtkgieciamophkaaDoorLaid
import Derived.OpenShut
namespace Go.Proofs.YtkgieciamophkaaDoor
open Go.ChangeShapes Go.WideShapes Go.RowKit

/-- api.All's cells -/
def AL (w : World) : Prop := ∀ k, k < 6 → w.cell? ⟨0, k, none⟩ = some (.int .u8 255)
theorem AL.keep {w w' : World} {S : Nat → Prop} (h : AL w) (hx : Ex S w w') (hs : ¬ S 0) : AL w' := fun k hk => hx.cell (h k hk) hs
theorem laid_al : Tryd.prog.globalNamed "underpass/api.All" = some 0 := by kernel_rfl
theorem laid_al_t : (Tryd.prog.globals[0]?).map (·.type) = some 74 := by kernel_rfl
theorem mac_cells : Tryd.prog.cellsOf 5 = 1 := by kernel_rfl

theorem etal_of_laid {W : World} (h : laidMetH Tryd.prog [("errors.errorType", Rows.laid_errors_errorType), ("underpass/api.All", Rows.laid_underpass_api_All)] W) : ET W ∧ AL W := by
  have h' : laidMet Tryd.prog [("underpass/api.All", Rows.laid_underpass_api_All)] W ∧ handlesMet Tryd.prog [("errors.errorType", Rows.laid_errors_errorType)] W := h
  refine ⟨et_of_laid (show laidMet Tryd.prog [] W ∧ handlesMet Tryd.prog [("errors.errorType", Rows.laid_errors_errorType)] W from ⟨laidMet_nil _ _, h'.2⟩), ?_⟩
  obtain ⟨ps, ⟨g, t, cs, fuel, p, q, e1, e2, e3, e4, _, _⟩, _⟩ := h'.1
  obtain rfl := Option.some.inj (laid_al.symm.trans e1)
  obtain rfl := Option.some.inj (laid_al_t.symm.trans e2)
  obtain ⟨xs, m, _, hx, hlen, hxl, hel⟩ := DataW.trod_array Tryd.underlying74 e4
  intro k hk
  rw [World.var?_cell laid_al e3 k]
  have h1 := hel k hk
  rw [mac_cells, Nat.mul_one] at h1
  have hxd : Rows.laid_underpass_api_All = DataW.agg (xs.map (·.1)) := by injection hx
  have hxs : xs.map (·.1) = List.replicate 6 (.lit (.int .u8 255)) := by
    have : Rows.laid_underpass_api_All = DataW.agg (H := Unit) (List.replicate 6 (.lit (.int .u8 255))) := rfl
    rw [this] at hxd
    injection hxd with hxd
    exact hxd.symm
  have hkx : k < xs.length := by omega
  rw [List.getElem?_eq_getElem hkx] at h1
  obtain ⟨n, hv, hx1, _⟩ := DataW.trod_int Tryd.underlying5 h1
  have hk1 : (xs.map (·.1))[k]? = some (.lit (.int .u8 255)) := by rw [hxs, List.getElem?_replicate, if_pos hk]
  rw [List.getElem?_map, List.getElem?_eq_getElem hkx] at hk1
  simp only [Option.map_some, Option.some.injEq] at hk1
  rw [hx1] at hk1
  injection hk1 with hk1
  injection hk1 with _ hk1
  have hkc : k < cs.toList.length := by
    have : ((cs.toList.drop k).take 1).length = 1 := by rw [hv]; rfl
    simp at this ⊢
    omega
  rw [List.drop_eq_getElem_cons hkc] at hv
  simp at hv
  subst hk1
  rw [← hv]
  simp at hkc
  exact Array.getElem?_eq_getElem hkc

/-- a world that meets the conditions: the settled one, the variables' cells laid -/
noncomputable def laidWorld2 (os : Os) : World :=
  let w0 := World.holding Tryd.prog os ⟨#[], #[], []⟩
  { w0 with heap := (w0.heap.modify 1 fun
      | .cells _ t frozen => .cells #[.iface 124 (.agg #[.pointer (some ⟨5, 28, none⟩)])] t frozen
      | o => o).modify 0 fun
      | .cells _ t frozen => .cells #[.int .u8 255, .int .u8 255, .int .u8 255, .int .u8 255, .int .u8 255, .int .u8 255] t frozen
      | o => o }
theorem laidWorld2_met (os : Os) (args : Array Value) : laidMetH Tryd.prog [("errors.errorType", Rows.laid_errors_errorType), ("underpass/api.All", Rows.laid_underpass_api_All)] ((laidWorld2 os).forCall (fun _ _ => 0) ⟨#[], args, []⟩).memory :=
  laidMetH_of_parts (laidMet_of_run' 8 (by kernel_rfl) (by kernel_rfl)) (by kernel_rfl)
end Go.Proofs.YtkgieciamophkaaDoor
