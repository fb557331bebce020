/-
  Two results, the first of which is a struct in a cell. By an AI agent.
-/
import Derived.Test.YtkgieciamophkaaDoorRow
namespace Go.Proofs.YtkgieciamophkaaDoor
open Go.RowKit

theorem results_cell_row2 {P : Program} {fn : Func} {p u : Tmp} {ty : TypeId} (h : fn.results = #[.cell p ty, .tmp u]) (tmps : Array Value) (w : World) (g : Nat) (t : TypeId) (cs : Array Value) (fr : Nat × Nat) (d : TypeDesc) (v : Value)
    (hp : tmps.getD p undef = .pointer (some ⟨g, 0, none⟩)) (hv : tmps.getD u undef = v) (hg : w.heap[g]? = some (.cells cs t fr))
    (hu : P.underlying ty = some d) (hd : (match d with | .struct _ | .array _ _ => true | _ => false) = true) (hi : (P.info? ty).map (·.size) = some cs.size) :
    (results fn tmps).run P w = .ok (.tuple #[.agg cs, v]) w := by
  rw [results_cell_tmp h, hp, hv]
  simp [asAddr, run_loadVar_row w g t ty cs fr d hg hu hd hi, Result.andThen]
theorem EC.keepB {w w' : World} {b B : Nat} {r : List (List UInt8)} {v : Value} {k : Nat} (hx : Ex (fun j => j = b) w w') (h : b < B) (he : EC w (fun j => B ≤ j) r v k) : EC w' (fun j => B ≤ j) r v k :=
  EC.keep hx (fun j hj e => by have hj : B ≤ j := hj; have e : j = b := e; omega) he
theorem OB.keepB {w w' : World} {b B : Nat} {v : Value} {l : List UInt8} (h : OB w B v l) (hx : Ex (fun j => j = b) w w') (hb : b < B) : OB w' B v l :=
  h.keep hx (fun k _ _ hl e => by have e : k = b := e; omega)
theorem EC.up {w : World} {B B' : Nat} {r : List (List UInt8)} {v : Value} {k : Nat} (he : EC w (fun j => B ≤ j) r v k) (h : B' ≤ B) : EC w (fun j => B' ≤ j) r v k :=
  EC.mono (fun j hj => by have hj : B ≤ j := hj; omega) he
theorem EC.upO {w : World} {B C B' : Nat} {r : List (List UInt8)} {v : Value} {k : Nat} (he : EC w (fun j => j = B ∨ j = C) r v k) (h : B' ≤ B) (h' : B' ≤ C) : EC w (fun j => B' ≤ j) r v k :=
  EC.mono (fun j hj => by rcases hj with hj | hj <;> omega) he
end Go.Proofs.YtkgieciamophkaaDoor
