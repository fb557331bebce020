/-
  errors.As at a *Errno, and api.Code: the walks. By an AI agent. (Turned from the worked example ToyasAs.)
-/
import Derived.Test.YtkgieciamophkaaDoorAs
import Derived.Deep.LoopGhost
namespace Go.Proofs.YtkgieciamophkaaDoor
open Go.RowKit Go.Extern.Stop Go.Stop Go.Extern

theorem EC.shape {w : World} {P : Nat → Prop} {r : List (List UInt8)} {v : Value} {k : Nat} (h : EC w P r v k) : ∃ ty y, v = .iface ty y := by
  cases r with
  | nil => exact ⟨_, _, h⟩
  | cons s r => obtain ⟨e, v', h1, _⟩ := h; exact ⟨_, _, h1⟩

set_option maxRecDepth 100000 in
set_option maxHeartbeats 4000000 in
theorem errorsas_any (P : Nat → Prop) (r : List (List UInt8)) (k : Nat) (v : Value) (a : Addr) (t : Addr) (old : Value) (w : World) (hec : EC w P r v k) (ha : w.cell? a = some (.pointer (some t))) (ht : w.cell? t = some old) (hf : w.frozen? t = false) :
    Calls Tryd.prog 57 #[v, .iface 99 (.pointer (some t)), .agg #[.pointer (some ⟨5, 99, none⟩), .pointer (some a), .int .u64 150], .iface 124 (.agg #[.pointer (some ⟨5, 58, none⟩)])] w
      fun e w' => e = .returned (.bool true) ∧ Ex (fun j => j = t.block) w w' ∧ w'.cell? t = some (.int .i64 (k : Int)) := by
  have x58 := @run_callFunc_extern Tryd.prog 58 _ ReflectliteType.typeOf Tryd.func58 (by kernel_rfl) (by kernel_rfl) (by kernel_rfl) (by kernel_rfl)
  have x99 := @run_callFunc_extern Tryd.prog 99 _ (ReflectliteType.relation "AssignableTo" ReflectliteType.assignableTo) Tryd.func99 (by kernel_rfl) (by kernel_rfl) (by kernel_rfl) (by kernel_rfl)
  have x59 := @run_callFunc_extern Tryd.prog 59 _ (ReflectliteValue.method (ReflectliteValue.valueError "reflectlite.Value.Elem" 0) ReflectliteValue.elem) Tryd.func59 (by kernel_rfl) (by kernel_rfl) (by kernel_rfl) (by kernel_rfl)
  have x54 := @run_callFunc_extern Tryd.prog 54 _ (fun args => ReflectliteValue.unpack (args.getD 0 (.tuple #[]))) Tryd.func54 (by kernel_rfl) (by kernel_rfl) (by kernel_rfl) (by kernel_rfl)
  have x60 := @run_callFunc_extern Tryd.prog 60 _ ReflectliteValue.set Tryd.func60 (by kernel_rfl) (by kernel_rfl) (by kernel_rfl) (by kernel_rfl)
  have tE := as_typeOfE
  have tW := as_typeOfW
  have mA := as_methodAssignableTo
  have aE := as_assignableE
  have aW := as_assignableW
  have vE := as_valueOfE
  have mU := as_methUnwrap
  have nA := fun (v : Value) (w : World) => run_typeAssert_lacksB (P := Tryd.prog) Tryd.underlying129 (z := .nilIface) (t := 120) (by kernel_rfl) (by kernel_rfl) v 28 w
  have nU := fun (v : Value) (w : World) => run_typeAssert_hasB (P := Tryd.prog) Tryd.underlying132 (t := 120) (by kernel_rfl) v 28 w
  have hlt := World.block_lt_of_cell? w t ht
  have hal := World.block_lt_of_cell? w a ha
  obtain ⟨w1, hw1⟩ : ∃ w1, w.alloc (.cells #[.pointer (some ⟨5, 99, none⟩), .pointer (some a), .int .u64 150] 110) = w1 := ⟨_, rfl⟩
  have hx1 : Ex (fun _ => False) w w1 := hw1 ▸ (Ex.refl _ w).alloc _
  have hs1 : w1.heap.size = w.heap.size + 1 := by rw [← hw1]; simp
  have ha1 := hx1.cell ha id
  have ht1 := hx1.cell ht id
  have hf1 : w1.frozen? t = false := (hx1.frozen hlt id).trans hf
  have he1 := hec.keep hx1 (fun _ _ => id)
  have b0 : w1.cell? ⟨w.heap.size, 0, none⟩ = some (.pointer (some ⟨5, 99, none⟩)) := by rw [← hw1, World.cell?_alloc_at _ _ _ _ rfl]; rfl
  have b1 : w1.cell? ⟨w.heap.size, 1, none⟩ = some (.pointer (some a)) := by rw [← hw1, World.cell?_alloc_at _ _ _ _ rfl]; rfl
  have b2 : w1.cell? ⟨w.heap.size, 2, none⟩ = some (.int .u64 150) := by rw [← hw1, World.cell?_alloc_at _ _ _ _ rfl]; rfl
  have eV := as_elemV a t w1 ha1
  have sV := as_setE t ⟨w1.heap.size, 0, none⟩ (k : Int) old (w1.alloc (.cells #[.int .i64 (k : Int)] 58)) (by rw [World.cell?_alloc_at _ _ _ _ rfl]; rfl) (((Ex.refl (fun _ => False) w1).alloc _).cell ht1 id) ((((Ex.refl (fun _ => False) w1).alloc _).frozen (by omega) id).trans hf1)
  have HX1 := Lib.hid hx1
  have HE1 := Lib.hid he1
  have HT1 := Lib.hid ht1
  have HL := Lib.hid hlt
  clear hx1 he1 ht1 hec ha ht hf ha1 hf1 hs1 hlt hal
  go_enter Tryd.func57, Tryd.ntmps57
  go_wp2_with fail
  clear hw1
  go_loopg [0] r.length (fun g v wr => w1 = wr ∧ ∃ r', Hid (r'.length = g) ∧ Hid (EC w1 P r' v k))
  case atStart => exact ⟨rfl, r, rfl, HE1⟩
  case round =>
    obtain ⟨rfl, r', hg, he⟩ := hrel
    cases r' with
    | nil =>
      have he' : _ = _ := he.out
      obtain rfl := he'
      clear he hg
      go_wp2
      go_ret
      refine ⟨rfl, (((HX1.out.mono (T := fun j => j = t.block) (fun _ _ h => h.elim)).alloc (.cells #[.int .i64 (k : Int)] 58)).setCell (p := t) (.inl rfl) (.int .i64 (k : Int))), ?_⟩
      apply World.cell?_setCell_same (u := old)
      exact ((Ex.refl (fun _ => False) w1).alloc _).cell HT1.out id
    | cons s r'' =>
      obtain ⟨e, v', h1, h2, h3, h4, h5⟩ := he.out
      obtain rfl := h1
      obtain ⟨ty, y, rfl⟩ := h5.shape
      have H5 := Lib.hid h5
      clear h5 h3 he
      go_wp2_with fail
      refine (unwrap_any e _ _ h4).mono ?_
      rintro e2 w2 ⟨rfl, rfl⟩
      go_wp2_with fail
      go_roundg r''.length
      case measure => have := hg.out; simp at this; omega
      case rel => exact ⟨rfl, r'', rfl, H5.out⟩

/-- what the row's condition on errors.errorType gives -/
def ET (w : World) : Prop := w.cell? ⟨1, 0, none⟩ = some (.iface 124 (.agg #[.pointer (some ⟨5, 28, none⟩)]))
theorem ET.keep {w w' : World} {S : Nat → Prop} (h : ET w) (hx : Ex S w w') (hs : ¬ S 1) : ET w' := hx.cell h hs

set_option maxRecDepth 100000 in
set_option maxHeartbeats 4000000 in
theorem as_any (P : Nat → Prop) (r : List (List UInt8)) (k : Nat) (v : Value) (t : Addr) (old : Value) (w : World) (hec : EC w P r v k) (hg : ET w) (ht : w.cell? t = some old) (hf : w.frozen? t = false) :
    Calls Tryd.prog 48 #[v, .iface 99 (.pointer (some t))] w
      fun e w' => e = .returned (.bool true) ∧ Ex (fun j => j = t.block) w w' ∧ w'.cell? t = some (.int .i64 (k : Int)) := by
  have x54 := @run_callFunc_extern Tryd.prog 54 _ (fun args => ReflectliteValue.unpack (args.getD 0 (.tuple #[]))) Tryd.func54 (by kernel_rfl) (by kernel_rfl) (by kernel_rfl) (by kernel_rfl)
  have x55 := @run_callFunc_extern Tryd.prog 55 _ (ReflectliteValue.methodAny (ReflectliteValue.valueError "reflectlite.Value.Type" 0) (fun t _ _ _ => ReflectliteType.toType t)) Tryd.func55 (by kernel_rfl) (by kernel_rfl) (by kernel_rfl) (by kernel_rfl)
  have x56 := @run_callFunc_extern Tryd.prog 56 _ (ReflectliteValue.method (ReflectliteValue.valueError "reflectlite.Value.IsNil" 0) ReflectliteValue.isNil) Tryd.func56 (by kernel_rfl) (by kernel_rfl) (by kernel_rfl) (by kernel_rfl)
  have x75 := @run_callFunc_extern Tryd.prog 75 _ (ReflectliteType.abiMethod fun t => do pure (.int .u8 (← Rtype.kind t))) Tryd.func75 (by kernel_rfl) (by kernel_rfl) (by kernel_rfl) (by kernel_rfl)
  have x101 := @run_callFunc_extern Tryd.prog 101 _ (ReflectliteType.method ReflectliteType.elem) Tryd.func101 (by kernel_rfl) (by kernel_rfl) (by kernel_rfl) (by kernel_rfl)
  have x102 := @run_callFunc_extern Tryd.prog 102 _ (ReflectliteType.relation "Implements" ReflectliteType.implements_) Tryd.func102 (by kernel_rfl) (by kernel_rfl) (by kernel_rfl) (by kernel_rfl)
  have f54 := as_valueOfP
  have f55 := as_typeP
  have mK := as_methodKind
  have mE := as_methodElem
  have mI := as_methodImplements
  have kP := as_kindP
  have kE := as_kindE
  have eP := as_elemP
  have iE := as_implementsE
  obtain ⟨W, hW⟩ : ∃ W, (w.alloc (.cells #[.pointer (some t)] 99)).alloc (.cells #[.pointer (some ⟨5, 99, none⟩), .pointer (some ⟨w.heap.size, 0, none⟩), .int .u64 150] 110) = W := ⟨_, rfl⟩
  have hx : Ex (fun _ => False) w W := hW ▸ ((Ex.refl _ w).alloc _).alloc _
  have hlt := World.block_lt_of_cell? w t ht
  have b0 : W.cell? ⟨w.heap.size + 1, 0, none⟩ = some (.pointer (some ⟨5, 99, none⟩)) := by rw [← hW, World.cell?_alloc_at _ _ _ _ (by simp)]; rfl
  have b1 : W.cell? ⟨w.heap.size + 1, 1, none⟩ = some (.pointer (some ⟨w.heap.size, 0, none⟩)) := by rw [← hW, World.cell?_alloc_at _ _ _ _ (by simp)]; rfl
  have b2 : W.cell? ⟨w.heap.size + 1, 2, none⟩ = some (.int .u64 150) := by rw [← hW, World.cell?_alloc_at _ _ _ _ (by simp)]; rfl
  have a0 : W.cell? ⟨w.heap.size, 0, none⟩ = some (.pointer (some t)) := by rw [← hW, World.cell?_alloc_lt _ _ _ (by simp), World.cell?_alloc_at _ _ _ _ rfl]; rfl
  have gW : W.cell? ⟨1, 0, none⟩ = some (.iface 124 (.agg #[.pointer (some ⟨5, 28, none⟩)])) := hx.cell hg id
  have n8 := as_isNilP ⟨w.heap.size, 0, none⟩ t W a0
  have HEC := Lib.hid (hec.keep hx (fun _ _ => id))
  have HT := Lib.hid (hx.cell ht id)
  have HF : Hid (W.frozen? t = false) := (hx.frozen hlt id).trans hf
  have HX := Lib.hid hx
  have HA := Lib.hid a0
  obtain ⟨ty, y, rfl⟩ := hec.shape
  clear hec ht hf hx hlt hg
  go_enter Tryd.func48, Tryd.ntmps48
  go_wp2_with fail
  refine (errorsas_any P r k _ ⟨w.heap.size, 0, none⟩ t old W HEC.out HA.out HT.out HF.out).mono ?_
  rintro e w' ⟨rfl, h1, h2⟩
  have H1 := Lib.hid h1
  have H2 := Lib.hid h2
  clear h1 h2
  go_wp2_with fail
  go_ret
  exact ⟨rfl, (HX.out.mono (fun _ _ h => h.elim)).trans H1.out, H2.out⟩

theorem code_nil (w : World) : Calls Tryd.prog 29 #[.nilIface] w fun e w' => e = .returned (.int .i64 0) ∧ w = w' := by
  go_enter Tryd.func29, Tryd.ntmps29
  go_wp2
  go_ret
  exact ⟨rfl, rfl⟩
/-- api.Code of an error of layers -/
theorem code_any (P : Nat → Prop) (r : List (List UInt8)) (k : Nat) (v : Value) (w : World) (hec : EC w P r v k) (hg : ET w) :
    Calls Tryd.prog 29 #[v] w fun e w' => e = .returned (.int .i64 (k : Int)) ∧ Ex (fun _ => False) w w' := by
  have HEC := Lib.hid (hec.keep ((Ex.refl (fun _ => False) w).alloc (.cells #[.int .i64 0] 58)) (fun _ _ => id))
  have HG := Lib.hid (hg.keep ((Ex.refl (fun _ => False) w).alloc (.cells #[.int .i64 0] 58)) id)
  obtain ⟨ty, y, rfl⟩ := hec.shape
  clear hec hg
  go_enter Tryd.func29, Tryd.ntmps29
  go_wp2_with fail
  refine (as_any P r k _ ⟨w.heap.size, 0, none⟩ (.int .i64 0) _ HEC.out HG.out (by rw [World.cell?_alloc_at _ _ _ _ rfl]; rfl) (by simp)).mono ?_
  rintro e w' ⟨rfl, h1, h2⟩
  have H1 := Lib.hid h1
  clear h1
  go_wp2_with fail
  go_ret
  exact ⟨rfl, ((Ex.refl (fun _ => False) w).alloc (.cells #[.int .i64 0] 58)).andThen H1.out (fun i hi h => by subst h; omega)⟩
end Go.Proofs.YtkgieciamophkaaDoor
