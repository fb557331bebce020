/-
  The contracts of udp: taken, Parse. By an AI agent.
-/
import Derived.Test.YtfcfpkhcpijkfaaDoorDgP
namespace Go.Proofs.YtfcfpkhcpijkfaaDoor
open Go.RowKit

theorem taken_results (tmps : Array Value) (bp bq : Nat) (w : World) (cs : Array Value) (v : Value) (hp : tmps.getD 2 undef = .pointer (some ⟨bp, 0, none⟩)) (hq : tmps.getD 3 undef = .pointer (some ⟨bq, 0, none⟩)) (h1 : w.heap[bp]? = some (.cells cs 25)) (h2 : w.heap[bq]? = some (.cells #[v] 29)) (hs : cs.size = 4 := by rfl) :
    (results Tryd.f34 tmps).run Tryd.prog w = .ok (.tuple #[.agg cs, v]) w := by
  have hp' : tmps[2]?.getD undef = .pointer (some ⟨bp, 0, none⟩) := by simpa using hp
  have hq' : tmps[3]?.getD undef = .pointer (some ⟨bq, 0, none⟩) := by simpa using hq
  have hr := run_loadVar_row w bp 25 25 cs (0, 0) _ h1 Tryd.underlying25 rfl (by rw [hs]; exact dg_size)
  have hc : w.cell? ⟨bq, 0, none⟩ = some v := row_cell h2 rfl
  have hv : (loadVar 29 ⟨bq, 0, none⟩).run Tryd.prog w = .ok v w := by
    simp [loadVar, isAgg, underlying, Tryd.underlying29, hc, Result.andThen]
  simp [results, Tryd.results34, hp', hq', asAddr, hr, hv, Sem.run_bind, Result.andThen]
set_option maxRecDepth 100000 in
set_option maxHeartbeats 2000000 in
theorem taken1_idle (p q : Value) (w : World) :
    CallsD Tryd.prog 58 #[p, q] .returning w fun e u' w' => e = .returned (.tuple #[]) ∧ u' = .returning ∧ w' = w := by
  refine callsD_of_wpS Tryd.func58 rfl fun c₀ cs hu => ?_
  apply wpS_seq
  apply wpS_region
  simp [wpOpsS, go_sem, recoverD, hu, Tryd.ntmps58, Exit.thenS]
  refine wpS_of_wp ?_
  show Code.wp _ _ _ { tmps := #[p, q, .nilIface, undef, undef, .nilIface, undef, undef, undef, undef, undef, undef, undef, undef, undef, undef, undef, undef, undef], defers := [] } w
  go_wp2_with fail
  cases c₀
  simp_all [bodyPostS, results, Tryd.results58]
set_option maxRecDepth 100000 in
set_option maxHeartbeats 4000000 in
theorem taken1_pan (bp bq : Nat) (ty : TypeId) (y : Value) (w : World) (hp : w.heap[bp]? = some (.cells #[.int .u16 0, .int .u16 0, .bool false, .slice none 0 0] 25)) (hq : w.heap[bq]? = some (.cells #[.nilIface] 29)) (hne : bp ≠ bq) :
    CallsD Tryd.prog 58 #[.pointer (some ⟨bp, 0, none⟩), .pointer (some ⟨bq, 0, none⟩)] (.panicking (wpan (.iface ty y))) w fun e u' w' => e = .returned (.tuple #[]) ∧ u' = .panicking [{ v := .iface 104 (.agg #[(.iface ty y)]), recovered := true }] ∧
      w'.heap[bp]? = some (.cells #[.int .u16 0, .int .u16 0, .bool false, .slice none 0 0] 25) ∧ w'.heap[bq]? = some (.cells #[(.iface ty y)] 29) ∧ Ex (fun j => j = bp ∨ j = bq) w w' := by
  have hta : ∀ w, (Instr.typeAssert (.iface 104 (.agg #[(.iface ty y)])) 20 104 true).run Tryd.prog w = .ok (.tuple #[.agg #[(.iface ty y)], .bool true]) w := fun w => by kernel_rfl
  have HP := Lib.hid hp
  have HQ := Lib.hid hq
  clear hp hq
  refine callsD_of_wpS Tryd.func58 rfl fun c₀ cs hu => ?_
  unfold wpan at hu
  apply wpS_seq
  apply wpS_region
  simp [wpOpsS, go_sem, recoverD, hu, Tryd.ntmps58, Exit.thenS]
  refine wpS_of_wp ?_
  show Code.wp _ _ _ { tmps := #[.pointer (some ⟨bp, 0, none⟩), .pointer (some ⟨bq, 0, none⟩), .iface 104 (.agg #[(.iface ty y)]), undef, undef, .iface 104 (.agg #[(.iface ty y)]), undef, undef, undef, undef, undef, undef, undef, undef, undef, undef, undef, undef, undef], defers := [] } w
  go_upto_region 3 with fail
  clear hta
  have B_bp := HP
  have B_bq := HQ
  clear HP HQ
  have hbp := row_lt B_bp.out
  have hbq := row_lt B_bq.out
  have hx : Ex (fun _ => False) w (w.alloc (.cells #[(.iface ty y)] 104)) := (Ex.refl _ w).alloc _
  have hb : (w.alloc (.cells #[(.iface ty y)] 104)).heap[w.heap.size]? = some (.cells #[(.iface ty y)] 104) := heap_alloc_new w _
  obtain ⟨bw, hbw⟩ : ∃ bw, bw = w.heap.size := ⟨_, rfl⟩
  have hb_bw : w.heap.size ≤ bw := by omega
  rw [← hbw] at hb
  try simp only [← hbw]
  generalize w.alloc (.cells #[(.iface ty y)] 104) = w1 at hx hb ⊢
  clear hbw
  have HX_w1 := Lib.hid hx
  clear hx
  have B_bw := Lib.hid hb
  clear hb
  have HX01 := HX_w1
  replace B_bp := Lib.hid ((HX_w1.out.block bp (row_lt B_bp.out) id).trans B_bp.out)
  replace B_bq := Lib.hid ((HX_w1.out.block bq (row_lt B_bq.out) id).trans B_bq.out)
  have cbw0 := row_cell (k := 0) (v := (.iface ty y)) B_bw.out rfl
  have cbp0 := row_cell (k := 0) (v := .int .u16 0) B_bp.out rfl
  have cbp1 := row_cell (k := 1) (v := .int .u16 0) B_bp.out rfl
  have cbp2 := row_cell (k := 2) (v := .bool false) B_bp.out rfl
  have cbp3 := row_cell (k := 3) (v := .slice none 0 0) B_bp.out rfl
  have cbq0 := row_cell (k := 0) (v := .nilIface) B_bq.out rfl
  have fbp0 := row_frozen B_bp.out 0
  have fbp1 := row_frozen B_bp.out 1
  have fbp2 := row_frozen B_bp.out 2
  have fbp3 := row_frozen B_bp.out 3
  have fbq0 := row_frozen B_bq.out 0
  have ne_bp_bq := hne
  go_upto_region 5 with fail
  go_region
  have r0 : (w1.setCell ⟨bp, 0, none⟩ (.int .u16 0)).heap[bp]? = some (.cells #[.int .u16 0, .int .u16 0, .bool false, .slice none 0 0] 25) := row_set B_bp.out 0 (.int .u16 0)
  have r1 : ((w1.setCell ⟨bp, 0, none⟩ (.int .u16 0)).setCell ⟨bp, 1, none⟩ (.int .u16 0)).heap[bp]? = some (.cells #[.int .u16 0, .int .u16 0, .bool false, .slice none 0 0] 25) := row_set r0 1 (.int .u16 0)
  clear r0
  have r2 : (((w1.setCell ⟨bp, 0, none⟩ (.int .u16 0)).setCell ⟨bp, 1, none⟩ (.int .u16 0)).setCell ⟨bp, 2, none⟩ (.bool false)).heap[bp]? = some (.cells #[.int .u16 0, .int .u16 0, .bool false, .slice none 0 0] 25) := row_set r1 2 (.bool false)
  clear r1
  have r3 : ((((w1.setCell ⟨bp, 0, none⟩ (.int .u16 0)).setCell ⟨bp, 1, none⟩ (.int .u16 0)).setCell ⟨bp, 2, none⟩ (.bool false)).setCell ⟨bp, 3, none⟩ (.slice none 0 0)).heap[bp]? = some (.cells #[.int .u16 0, .int .u16 0, .bool false, .slice none 0 0] 25) := row_set r2 3 (.slice none 0 0)
  clear r2
  have hx : Ex (fun j => j = bp) w1 ((((w1.setCell ⟨bp, 0, none⟩ (.int .u16 0)).setCell ⟨bp, 1, none⟩ (.int .u16 0)).setCell ⟨bp, 2, none⟩ (.bool false)).setCell ⟨bp, 3, none⟩ (.slice none 0 0)) := (((((Ex.refl (fun j => j = bp) w1).setCell (p := ⟨bp, 0, none⟩) (.inl rfl) (.int .u16 0)).setCell (p := ⟨bp, 1, none⟩) (.inl rfl) (.int .u16 0)).setCell (p := ⟨bp, 2, none⟩) (.inl rfl) (.bool false)).setCell (p := ⟨bp, 3, none⟩) (.inl rfl) (.slice none 0 0))
  generalize ((((w1.setCell ⟨bp, 0, none⟩ (.int .u16 0)).setCell ⟨bp, 1, none⟩ (.int .u16 0)).setCell ⟨bp, 2, none⟩ (.bool false)).setCell ⟨bp, 3, none⟩ (.slice none 0 0)) = w2 at r3 hx ⊢
  replace B_bp := Lib.hid r3
  clear r3
  have HX_w2 := Lib.hid hx
  clear hx
  clear cbw0 cbp0 cbp1 cbp2 cbp3 cbq0 fbp0 fbp1 fbp2 fbp3 fbq0
  replace B_bq := Lib.hid ((HX_w2.out.block bq (row_lt B_bq.out) ne_bp_bq.symm).trans B_bq.out)
  have r0 : (w2.setCell ⟨bq, 0, none⟩ ((.iface ty y))).heap[bq]? = some (.cells #[(.iface ty y)] 29) := row_set B_bq.out 0 ((.iface ty y))
  have hx : Ex (fun j => j = bq) w2 (w2.setCell ⟨bq, 0, none⟩ ((.iface ty y))) := ((Ex.refl (fun j => j = bq) w2).setCell (p := ⟨bq, 0, none⟩) (.inl rfl) ((.iface ty y)))
  generalize (w2.setCell ⟨bq, 0, none⟩ ((.iface ty y))) = w3 at r0 hx ⊢
  replace B_bq := Lib.hid r0
  clear r0
  have HX_w3 := Lib.hid hx
  clear hx
  replace B_bp := Lib.hid ((HX_w3.out.block bp (row_lt B_bp.out) ne_bp_bq).trans B_bp.out)
  have hx : Ex (fun j => j = bp ∨ j = bq) w w3 := ((HX_w1.out.mono (fun _ _ h => h.elim)).trans (HX_w2.out.mono (fun _ _ h => .inl h))).trans (HX_w3.out.mono (fun _ _ h => .inr h))
  refine ⟨rfl, _, rfl, _, results_none rfl _ _ _, rfl, rfl, B_bp.out, B_bq.out, hx.drew⟩
set_option maxRecDepth 100000 in
set_option maxHeartbeats 4000000 in
theorem taken_ret (pb ps pt : Nat) (w : World) (n0 n1 : Int) (pl : Bool) (m : Nat) (bl : List UInt8) (h : ∀ w1, Ex (fun _ => False) w w1 → Calls Tryd.prog 35 #[.pointer (some ⟨pb, 0, none⟩), .pointer (some ⟨ps, 0, none⟩), .pointer (some ⟨pt, 0, none⟩)] w1 fun e w' => ∃ A', e = .returned (.agg #[.int .u16 n0, .int .u16 n1, .bool pl, .slice A' m m]) ∧ RB w' (fun j => w1.heap.size ≤ j) (.slice A' m m) bl ∧ Ex (fun _ => False) w1 w') :
    Calls Tryd.prog 34 #[.func (.func 35) #[] #[.pointer (some ⟨pb, 0, none⟩), .pointer (some ⟨ps, 0, none⟩), .pointer (some ⟨pt, 0, none⟩)]] w fun e w' => ∃ A', e = .returned (.tuple #[.agg #[.int .u16 n0, .int .u16 n1, .bool pl, .slice A' m m], .nilIface]) ∧ RB w' (fun j => w.heap.size ≤ j) (.slice A' m m) bl ∧ Ex (fun _ => False) w w' := by
  have hmf : ∀ (fn : Fn) (first cap : Array Value) (w : World), (Instr.makeFunc fn first cap).run Tryd.prog w = .ok (.func fn first cap) w := fun _ _ _ _ => rfl
  have H := Lib.hid h
  clear h
  go_enter_defers Tryd.func34, Tryd.ntmps34
  go_upto_region 1 with fail
  have hx : Ex (fun _ => False) w (w.alloc (.cells #[.int .u16 0, .int .u16 0, .bool false, .slice none 0 0] 25)) := (Ex.refl _ w).alloc _
  have hb : (w.alloc (.cells #[.int .u16 0, .int .u16 0, .bool false, .slice none 0 0] 25)).heap[w.heap.size]? = some (.cells #[.int .u16 0, .int .u16 0, .bool false, .slice none 0 0] 25) := heap_alloc_new w _
  have hs1 : (w.alloc (.cells #[.int .u16 0, .int .u16 0, .bool false, .slice none 0 0] 25)).heap.size = w.heap.size + 1 := by simp
  obtain ⟨bp, hbp⟩ : ∃ bp, bp = w.heap.size := ⟨_, rfl⟩
  have hb_bp : w.heap.size ≤ bp := by omega
  rw [← hbp] at hb hs1 
  try simp only [← hbp]
  generalize w.alloc (.cells #[.int .u16 0, .int .u16 0, .bool false, .slice none 0 0] 25) = w1 at hx hb  hs1 ⊢
  try simp only [← hs1]
  clear hs1
  clear hbp
  have HX_w1 := Lib.hid hx
  clear hx
  have B_bp := Lib.hid hb
  clear hb
  have hx : Ex (fun _ => False) w1 (w1.alloc (.cells #[.nilIface] 29)) := (Ex.refl _ w1).alloc _
  have hb : (w1.alloc (.cells #[.nilIface] 29)).heap[w1.heap.size]? = some (.cells #[.nilIface] 29) := heap_alloc_new w1 _
  obtain ⟨bq, hbq⟩ : ∃ bq, bq = w1.heap.size := ⟨_, rfl⟩
  have hb_bq : w1.heap.size ≤ bq := by omega
  rw [← hbq] at hb
  try simp only [← hbq]
  generalize w1.alloc (.cells #[.nilIface] 29) = w2 at hx hb ⊢
  clear hbq
  have HX_w2 := Lib.hid hx
  clear hx
  have B_bq := Lib.hid hb
  clear hb
  have hpq := row_lt B_bp.out
  have ne_bp_bq : bp ≠ bq := by omega
  go_wp2_with fail
  refine (H.out w2 (HX_w1.out.trans HX_w2.out)).mono ?_
  rintro e w3 ⟨A', rfl, hb, hx⟩
  have hbq2 := row_lt B_bq.out
  have hz2 := (HX_w1.out.trans HX_w2.out).size
  clear H
  have HX_w3 := Lib.hid hx
  clear hx
  have HB := Lib.hid hb
  clear hb
  replace B_bp := Lib.hid (((HX_w2.out.trans HX_w3.out).block bp (row_lt B_bp.out) id).trans B_bp.out)
  replace B_bq := Lib.hid ((HX_w3.out.block bq (row_lt B_bq.out) id).trans B_bq.out)
  have cbp0 := row_cell (k := 0) (v := .int .u16 0) B_bp.out rfl
  have cbp1 := row_cell (k := 1) (v := .int .u16 0) B_bp.out rfl
  have cbp2 := row_cell (k := 2) (v := .bool false) B_bp.out rfl
  have cbp3 := row_cell (k := 3) (v := .slice none 0 0) B_bp.out rfl
  have fbp0 := row_frozen B_bp.out 0
  have fbp1 := row_frozen B_bp.out 1
  have fbp2 := row_frozen B_bp.out 2
  have fbp3 := row_frozen B_bp.out 3
  have cbq0 := row_cell (k := 0) (v := .nilIface) B_bq.out rfl
  have fbq0 := row_frozen B_bq.out 0
  go_wp2_with fail
  have r0 : (w3.setCell ⟨bp, 0, none⟩ (.int .u16 n0)).heap[bp]? = some (.cells #[.int .u16 n0, .int .u16 0, .bool false, .slice none 0 0] 25) := row_set B_bp.out 0 (.int .u16 n0)
  have r1 : ((w3.setCell ⟨bp, 0, none⟩ (.int .u16 n0)).setCell ⟨bp, 1, none⟩ (.int .u16 n1)).heap[bp]? = some (.cells #[.int .u16 n0, .int .u16 n1, .bool false, .slice none 0 0] 25) := row_set r0 1 (.int .u16 n1)
  clear r0
  have r2 : (((w3.setCell ⟨bp, 0, none⟩ (.int .u16 n0)).setCell ⟨bp, 1, none⟩ (.int .u16 n1)).setCell ⟨bp, 2, none⟩ (.bool pl)).heap[bp]? = some (.cells #[.int .u16 n0, .int .u16 n1, .bool pl, .slice none 0 0] 25) := row_set r1 2 (.bool pl)
  clear r1
  have r3 : ((((w3.setCell ⟨bp, 0, none⟩ (.int .u16 n0)).setCell ⟨bp, 1, none⟩ (.int .u16 n1)).setCell ⟨bp, 2, none⟩ (.bool pl)).setCell ⟨bp, 3, none⟩ (.slice A' m m)).heap[bp]? = some (.cells #[.int .u16 n0, .int .u16 n1, .bool pl, .slice A' m m] 25) := row_set r2 3 (.slice A' m m)
  clear r2
  have hx : Ex (fun j => j = bp) w3 ((((w3.setCell ⟨bp, 0, none⟩ (.int .u16 n0)).setCell ⟨bp, 1, none⟩ (.int .u16 n1)).setCell ⟨bp, 2, none⟩ (.bool pl)).setCell ⟨bp, 3, none⟩ (.slice A' m m)) := (((((Ex.refl (fun j => j = bp) w3).setCell (p := ⟨bp, 0, none⟩) (.inl rfl) (.int .u16 n0)).setCell (p := ⟨bp, 1, none⟩) (.inl rfl) (.int .u16 n1)).setCell (p := ⟨bp, 2, none⟩) (.inl rfl) (.bool pl)).setCell (p := ⟨bp, 3, none⟩) (.inl rfl) (.slice A' m m))
  generalize ((((w3.setCell ⟨bp, 0, none⟩ (.int .u16 n0)).setCell ⟨bp, 1, none⟩ (.int .u16 n1)).setCell ⟨bp, 2, none⟩ (.bool pl)).setCell ⟨bp, 3, none⟩ (.slice A' m m)) = w4 at r3 hx ⊢
  replace B_bp := Lib.hid r3
  clear r3
  have HX_w4 := Lib.hid hx
  clear hx
  clear cbp0 cbp1 cbp2 cbp3 fbp0 fbp1 fbp2 fbp3 cbq0 fbq0
  replace B_bq := Lib.hid ((HX_w4.out.block bq (row_lt B_bq.out) ne_bp_bq.symm).trans B_bq.out)
  have r0 : (w4.setCell ⟨bq, 0, none⟩ (.nilIface)).heap[bq]? = some (.cells #[.nilIface] 29) := row_set B_bq.out 0 (.nilIface)
  have hx : Ex (fun j => j = bq) w4 (w4.setCell ⟨bq, 0, none⟩ (.nilIface)) := ((Ex.refl (fun j => j = bq) w4).setCell (p := ⟨bq, 0, none⟩) (.inl rfl) (.nilIface))
  generalize (w4.setCell ⟨bq, 0, none⟩ (.nilIface)) = w5 at r0 hx ⊢
  replace B_bq := Lib.hid r0
  clear r0
  have HX_w5 := Lib.hid hx
  clear hx
  replace B_bp := Lib.hid ((HX_w5.out.block bp (row_lt B_bp.out) ne_bp_bq).trans B_bp.out)
  have hrb : RB w5 (fun j => w.heap.size ≤ j) (.slice A' m m) bl := ((HB.out.keep HX_w4.out (fun k _ hk e => by omega)).keep HX_w5.out (fun k _ hk e => by omega)).mono (fun k _ hk => by omega)
  have HRB := Lib.hid hrb
  clear hrb HB
  refine leaves_cons (f := 58) (args := #[.pointer (some ⟨bp, 0, none⟩), .pointer (some ⟨bq, 0, none⟩)]) (by simp) (by simp [go_sem]) ?_
  refine (taken1_idle _ _ _).mono ?_
  rintro e u' w6 ⟨rfl, rfl, rfl⟩
  exact ⟨_, taken_results _ bp bq _ _ _ rfl rfl B_bp.out B_bq.out, A', rfl, HRB.out, ((((HX_w1.out.trans HX_w2.out).trans HX_w3.out).andThen HX_w4.out (fun i hi e => by have := hb_bp; omega)).andThen HX_w5.out (fun i hi e => by have := HX_w1.out.size; have := hb_bq; omega))⟩
set_option maxRecDepth 100000 in
set_option maxHeartbeats 4000000 in
theorem taken_pan (pb ps pt : Nat) (w : World) (r : List (List UInt8)) (k : Nat) (h : ∀ w1, Ex (fun _ => False) w w1 → Calls Tryd.prog 35 #[.pointer (some ⟨pb, 0, none⟩), .pointer (some ⟨ps, 0, none⟩), .pointer (some ⟨pt, 0, none⟩)] w1 fun e w' => ∃ v, e = .panicked (wpan v) ∧ EC w' (fun j => w1.heap.size ≤ j) r v k ∧ Ex (fun _ => False) w1 w') :
    Calls Tryd.prog 34 #[.func (.func 35) #[] #[.pointer (some ⟨pb, 0, none⟩), .pointer (some ⟨ps, 0, none⟩), .pointer (some ⟨pt, 0, none⟩)]] w fun e w' => ∃ v, e = .returned (.tuple #[.agg #[.int .u16 0, .int .u16 0, .bool false, .slice none 0 0], v]) ∧ EC w' (fun j => w.heap.size ≤ j) r v k ∧ Ex (fun _ => False) w w' := by
  have hmf : ∀ (fn : Fn) (first cap : Array Value) (w : World), (Instr.makeFunc fn first cap).run Tryd.prog w = .ok (.func fn first cap) w := fun _ _ _ _ => rfl
  have H := Lib.hid h
  clear h
  go_enter_defers Tryd.func34, Tryd.ntmps34
  go_upto_region 1 with fail
  have hx : Ex (fun _ => False) w (w.alloc (.cells #[.int .u16 0, .int .u16 0, .bool false, .slice none 0 0] 25)) := (Ex.refl _ w).alloc _
  have hb : (w.alloc (.cells #[.int .u16 0, .int .u16 0, .bool false, .slice none 0 0] 25)).heap[w.heap.size]? = some (.cells #[.int .u16 0, .int .u16 0, .bool false, .slice none 0 0] 25) := heap_alloc_new w _
  have hs1 : (w.alloc (.cells #[.int .u16 0, .int .u16 0, .bool false, .slice none 0 0] 25)).heap.size = w.heap.size + 1 := by simp
  obtain ⟨bp, hbp⟩ : ∃ bp, bp = w.heap.size := ⟨_, rfl⟩
  have hb_bp : w.heap.size ≤ bp := by omega
  rw [← hbp] at hb hs1 
  try simp only [← hbp]
  generalize w.alloc (.cells #[.int .u16 0, .int .u16 0, .bool false, .slice none 0 0] 25) = w1 at hx hb  hs1 ⊢
  try simp only [← hs1]
  clear hs1
  clear hbp
  have HX_w1 := Lib.hid hx
  clear hx
  have B_bp := Lib.hid hb
  clear hb
  have hx : Ex (fun _ => False) w1 (w1.alloc (.cells #[.nilIface] 29)) := (Ex.refl _ w1).alloc _
  have hb : (w1.alloc (.cells #[.nilIface] 29)).heap[w1.heap.size]? = some (.cells #[.nilIface] 29) := heap_alloc_new w1 _
  obtain ⟨bq, hbq⟩ : ∃ bq, bq = w1.heap.size := ⟨_, rfl⟩
  have hb_bq : w1.heap.size ≤ bq := by omega
  rw [← hbq] at hb
  try simp only [← hbq]
  generalize w1.alloc (.cells #[.nilIface] 29) = w2 at hx hb ⊢
  clear hbq
  have HX_w2 := Lib.hid hx
  clear hx
  have B_bq := Lib.hid hb
  clear hb
  have hpq := row_lt B_bp.out
  have ne_bp_bq : bp ≠ bq := by omega
  go_wp2_with fail
  refine (H.out w2 (HX_w1.out.trans HX_w2.out)).mono ?_
  rintro e w3 ⟨v, rfl, he, hx⟩
  obtain ⟨ty, y, rfl⟩ := he.shape
  have hbq2 := row_lt B_bq.out
  have hz2 := (HX_w1.out.trans HX_w2.out).size
  clear H
  have HX_w3 := Lib.hid hx
  clear hx
  have HE := Lib.hid he
  clear he
  replace B_bp := Lib.hid (((HX_w2.out.trans HX_w3.out).block bp (row_lt B_bp.out) id).trans B_bp.out)
  replace B_bq := Lib.hid ((HX_w3.out.block bq (row_lt B_bq.out) id).trans B_bq.out)
  go_wp2_with fail
  refine leaves_cons (f := 58) (args := #[.pointer (some ⟨bp, 0, none⟩), .pointer (some ⟨bq, 0, none⟩)]) (by simp) (by simp [go_sem]) ?_
  refine (taken1_pan bp bq ty y _ B_bp.out B_bq.out ne_bp_bq).mono ?_
  rintro e u' w6 ⟨rfl, rfl, hp6, hq6, hx6⟩
  have he6 : EC w6 (fun j => w.heap.size ≤ j) r (.iface ty y) k := EC.mono (fun j hj => by omega) (EC.keep hx6 (fun j hj e => by rcases e with e | e <;> omega) HE.out)
  exact ⟨_, taken_results _ bp bq w6 _ _ rfl rfl hp6 hq6, _, rfl, he6, ((HX_w1.out.trans HX_w2.out).trans HX_w3.out).andThen hx6 (fun i hi e => by rcases e with e | e <;> omega)⟩
set_option maxRecDepth 100000 in
theorem clo_no (P : Nat → Prop) (A : Option Addr) (n c : Nat) (l : List UInt8) (s t : Int) (pb ps pt : Nat) (w : World) (hB : w.cell? ⟨pb, 0, none⟩ = some (.slice A n c)) (hS : w.cell? ⟨ps, 0, none⟩ = some (.int .u32 s)) (hT : w.cell? ⟨pt, 0, none⟩ = some (.int .u32 t)) (hr : RB w P (.slice A n c) l) (hA : A = none → c = 0) (hl : l.length ≤ 1000000000) (hs : 0 ≤ s ∧ s < 4294967296) (ht : 0 ≤ t ∧ t < 4294967296) (r : List (List UInt8)) (k : Nat) (h : uerr l s t = some (r, k)) :
    Calls Tryd.prog 35 #[.pointer (some ⟨pb, 0, none⟩), .pointer (some ⟨ps, 0, none⟩), .pointer (some ⟨pt, 0, none⟩)] w fun e w' => ∃ v, e = .panicked (wpan v) ∧ EC w' (fun j => w.heap.size ≤ j) r v k ∧ Ex (fun _ => False) w w' := by
  unfold uerr at h
  split at h
  case isTrue h8 =>
    injection h with h; injection h with h1 h2; subst h1 h2; exact pclo_short P pb ps pt A n c l s t w hB hS hT hr hA hl h8
  case isFalse h8 =>
    split at h
    case isTrue hz =>
      injection h with h; injection h with h1 h2; subst h1 h2; exact pclo_form P pb ps pt A n c l s t w hB hS hT hr hA hl (by omega) hz
    case isFalse hz =>
      split at h
      case isTrue hx =>
        injection h with h; injection h with h1 h2; subst h1 h2; exact pclo_cut P pb ps pt A n c l s t w hB hS hT hr hA hl (by omega) (by omega) hx
      case isFalse hx =>
        split at h
        case isTrue hq =>
          injection h with h; injection h with h1 h2; subst h1 h2; exact pclo_sum P pb ps pt A n c l s t w hB hS hT hr hA hl (by omega) (by omega) (by omega) hq.1 hs ht hq.2
        case isFalse hq =>
          cases h
set_option maxRecDepth 100000 in
set_option maxHeartbeats 4000000 in
theorem uparse_no (P : Nat → Prop) (A : Option Addr) (n c : Nat) (l : List UInt8) (s t : Int) (w : World) (hr : RB w P (.slice A n c) l) (hA : A = none → c = 0) (hl : l.length ≤ 1000000000) (hs : 0 ≤ s ∧ s < 4294967296) (ht : 0 ≤ t ∧ t < 4294967296) (r : List (List UInt8)) (k : Nat) (h : uerr l s t = some (r, k)) :
    Calls Tryd.prog 16 #[.slice A n c, .int .u32 s, .int .u32 t] w fun e w' => ∃ v, e = .returned (.tuple #[dgv zdg (.slice none 0 0), v]) ∧ EC w' (fun j => w.heap.size ≤ j) r v k ∧ Ex (fun _ => False) w w' := by
  have hmf : ∀ (fn : Fn) (first cap : Array Value) (w : World), (Instr.makeFunc fn first cap).run Tryd.prog w = .ok (.func fn first cap) w := fun _ _ _ _ => rfl
  have HR := Lib.hid hr
  have HC := Lib.hid (fun (pb ps pt : Nat) (w : World) hB hS hT hr => clo_no P A n c l s t pb ps pt w hB hS hT hr hA hl hs ht r k h)
  clear hr h hA hl hs ht
  go_enter Tryd.func16, Tryd.ntmps16
  go_upto_region 1 with fail
  have hx : Ex (fun _ => False) w (w.alloc (.cells #[.slice A n c] 22)) := (Ex.refl _ w).alloc _
  have hb : (w.alloc (.cells #[.slice A n c] 22)).heap[w.heap.size]? = some (.cells #[.slice A n c] 22) := heap_alloc_new w _
  have hs1 : (w.alloc (.cells #[.slice A n c] 22)).heap.size = w.heap.size + 1 := by simp
  obtain ⟨xb0, hxb0⟩ : ∃ xb0, xb0 = w.heap.size := ⟨_, rfl⟩
  have hb_xb0 : w.heap.size ≤ xb0 := by omega
  rw [← hxb0] at hb hs1 
  try simp only [← hxb0]
  generalize w.alloc (.cells #[.slice A n c] 22) = w1 at hx hb  hs1 ⊢
  try simp only [← hs1]
  clear hs1
  clear hxb0
  have HX_w1 := Lib.hid hx
  clear hx
  have B_xb0 := Lib.hid hb
  clear hb
  have hx : Ex (fun _ => False) w1 (w1.alloc (.cells #[.int .u32 s] 32)) := (Ex.refl _ w1).alloc _
  have hb : (w1.alloc (.cells #[.int .u32 s] 32)).heap[w1.heap.size]? = some (.cells #[.int .u32 s] 32) := heap_alloc_new w1 _
  have hs1 : (w1.alloc (.cells #[.int .u32 s] 32)).heap.size = w1.heap.size + 1 := by simp
  obtain ⟨xs0, hxs0⟩ : ∃ xs0, xs0 = w1.heap.size := ⟨_, rfl⟩
  have hb_xs0 : w1.heap.size ≤ xs0 := by omega
  rw [← hxs0] at hb hs1 
  try simp only [← hxs0]
  generalize w1.alloc (.cells #[.int .u32 s] 32) = w2 at hx hb  hs1 ⊢
  try simp only [← hs1]
  clear hs1
  clear hxs0
  have HX_w2 := Lib.hid hx
  clear hx
  have B_xs0 := Lib.hid hb
  clear hb
  have hx : Ex (fun _ => False) w2 (w2.alloc (.cells #[.int .u32 t] 32)) := (Ex.refl _ w2).alloc _
  have hb : (w2.alloc (.cells #[.int .u32 t] 32)).heap[w2.heap.size]? = some (.cells #[.int .u32 t] 32) := heap_alloc_new w2 _
  have hs1 : (w2.alloc (.cells #[.int .u32 t] 32)).heap.size = w2.heap.size + 1 := by simp
  obtain ⟨xt0, hxt0⟩ : ∃ xt0, xt0 = w2.heap.size := ⟨_, rfl⟩
  have hb_xt0 : w2.heap.size ≤ xt0 := by omega
  rw [← hxt0] at hb hs1 
  try simp only [← hxt0]
  generalize w2.alloc (.cells #[.int .u32 t] 32) = w3 at hx hb  hs1 ⊢
  try simp only [← hs1]
  clear hs1
  clear hxt0
  have HX_w3 := Lib.hid hx
  clear hx
  have B_xt0 := Lib.hid hb
  clear hb
  have hx : Ex (fun _ => False) w3 (w3.alloc (.cells #[.int .u16 0, .int .u16 0, .bool false, .slice none 0 0] 25)) := (Ex.refl _ w3).alloc _
  have hb : (w3.alloc (.cells #[.int .u16 0, .int .u16 0, .bool false, .slice none 0 0] 25)).heap[w3.heap.size]? = some (.cells #[.int .u16 0, .int .u16 0, .bool false, .slice none 0 0] 25) := heap_alloc_new w3 _
  obtain ⟨rb, hrb⟩ : ∃ rb, rb = w3.heap.size := ⟨_, rfl⟩
  have hb_rb : w3.heap.size ≤ rb := by omega
  rw [← hrb] at hb
  try simp only [← hrb]
  generalize w3.alloc (.cells #[.int .u16 0, .int .u16 0, .bool false, .slice none 0 0] 25) = w4 at hx hb ⊢
  clear hrb
  have HX_w4 := Lib.hid hx
  clear hx
  have B_rb := Lib.hid hb
  clear hb
  go_wp2_with fail
  refine (taken_pan xb0 xs0 xt0 w4 r k (fun w1 hx1 => HC.out xb0 xs0 xt0 w1 (hx1.cell (row_cell ((((HX_w2.out.trans HX_w3.out).trans HX_w4.out).block xb0 (row_lt B_xb0.out) id).trans B_xb0.out) rfl) id) (hx1.cell (row_cell (((HX_w3.out.trans HX_w4.out).block xs0 (row_lt B_xs0.out) id).trans B_xs0.out) rfl) id) (hx1.cell (row_cell ((HX_w4.out.block xt0 (row_lt B_xt0.out) id).trans B_xt0.out) rfl) id) ((RB.keep HR.out (((HX_w1.out.trans HX_w2.out).trans HX_w3.out).trans HX_w4.out) (fun _ _ _ => id)).keep hx1 (fun _ _ _ => id)))).mono ?_
  rintro e w5 ⟨v5, rfl, he, hx⟩
  have hrb4 := row_lt B_rb.out
  have hz04 := (((HX_w1.out.trans HX_w2.out).trans HX_w3.out).trans HX_w4.out).size
  clear HC
  have HX_w5 := Lib.hid hx
  clear hx
  have HE := Lib.hid he
  clear he
  replace B_rb := Lib.hid ((HX_w5.out.block rb (row_lt B_rb.out) id).trans B_rb.out)
  obtain ⟨t5, y5, rfl⟩ := HE.out.shape
  have crb0 := row_cell (k := 0) (v := .int .u16 0) B_rb.out rfl
  have crb1 := row_cell (k := 1) (v := .int .u16 0) B_rb.out rfl
  have crb2 := row_cell (k := 2) (v := .bool false) B_rb.out rfl
  have crb3 := row_cell (k := 3) (v := .slice none 0 0) B_rb.out rfl
  have frb0 := row_frozen B_rb.out 0
  have frb1 := row_frozen B_rb.out 1
  have frb2 := row_frozen B_rb.out 2
  have frb3 := row_frozen B_rb.out 3
  go_wp2_with fail
  (try simp only [Exit.inBlock, Exit.then])
  have r0 : (w5.setCell ⟨rb, 0, none⟩ (.int .u16 0)).heap[rb]? = some (.cells #[.int .u16 0, .int .u16 0, .bool false, .slice none 0 0] 25) := row_set B_rb.out 0 (.int .u16 0)
  have r1 : ((w5.setCell ⟨rb, 0, none⟩ (.int .u16 0)).setCell ⟨rb, 1, none⟩ (.int .u16 0)).heap[rb]? = some (.cells #[.int .u16 0, .int .u16 0, .bool false, .slice none 0 0] 25) := row_set r0 1 (.int .u16 0)
  clear r0
  have r2 : (((w5.setCell ⟨rb, 0, none⟩ (.int .u16 0)).setCell ⟨rb, 1, none⟩ (.int .u16 0)).setCell ⟨rb, 2, none⟩ (.bool false)).heap[rb]? = some (.cells #[.int .u16 0, .int .u16 0, .bool false, .slice none 0 0] 25) := row_set r1 2 (.bool false)
  clear r1
  have r3 : ((((w5.setCell ⟨rb, 0, none⟩ (.int .u16 0)).setCell ⟨rb, 1, none⟩ (.int .u16 0)).setCell ⟨rb, 2, none⟩ (.bool false)).setCell ⟨rb, 3, none⟩ (.slice none 0 0)).heap[rb]? = some (.cells #[.int .u16 0, .int .u16 0, .bool false, .slice none 0 0] 25) := row_set r2 3 (.slice none 0 0)
  clear r2
  have hx : Ex (fun j => j = rb) w5 ((((w5.setCell ⟨rb, 0, none⟩ (.int .u16 0)).setCell ⟨rb, 1, none⟩ (.int .u16 0)).setCell ⟨rb, 2, none⟩ (.bool false)).setCell ⟨rb, 3, none⟩ (.slice none 0 0)) := (((((Ex.refl (fun j => j = rb) w5).setCell (p := ⟨rb, 0, none⟩) (.inl rfl) (.int .u16 0)).setCell (p := ⟨rb, 1, none⟩) (.inl rfl) (.int .u16 0)).setCell (p := ⟨rb, 2, none⟩) (.inl rfl) (.bool false)).setCell (p := ⟨rb, 3, none⟩) (.inl rfl) (.slice none 0 0))
  clear crb0 crb1 crb2 crb3 frb0 frb1 frb2 frb3
  generalize ((((w5.setCell ⟨rb, 0, none⟩ (.int .u16 0)).setCell ⟨rb, 1, none⟩ (.int .u16 0)).setCell ⟨rb, 2, none⟩ (.bool false)).setCell ⟨rb, 3, none⟩ (.slice none 0 0)) = wz at r3 hx ⊢
  replace B_rb := Lib.hid r3
  clear r3
  have HX_wz := Lib.hid hx
  clear hx
  refine bodyPost_ret (v := .tuple #[.agg #[.int .u16 0, .int .u16 0, .bool false, .slice none 0 0], .iface t5 y5]) ?_ rfl ⟨_, rfl, EC.up (EC.keepB HX_wz.out (by omega) HE.out) (by omega), (((((HX_w1.out.trans HX_w2.out).trans HX_w3.out).trans HX_w4.out).trans HX_w5.out).andThen HX_wz.out (fun i hi e => by have := ((HX_w1.out.trans HX_w2.out).trans HX_w3.out).size; have := hb_rb; omega))⟩
  exact results_cell_row2 (p := 6) (u := 7) rfl _ _ rb 25 #[.int .u16 0, .int .u16 0, .bool false, .slice none 0 0] (0, 0) _ _ rfl rfl B_rb.out Tryd.underlying25 rfl dg_size
set_option maxRecDepth 100000 in
theorem clo_yes (P : Nat → Prop) (A : Option Addr) (n c : Nat) (l : List UInt8) (s t : Int) (pb ps pt : Nat) (w : World) (hB : w.cell? ⟨pb, 0, none⟩ = some (.slice A n c)) (hS : w.cell? ⟨ps, 0, none⟩ = some (.int .u32 s)) (hT : w.cell? ⟨pt, 0, none⟩ = some (.int .u32 t)) (hr : RB w P (.slice A n c) l) (hA : A = none → c = 0) (hl : l.length ≤ 1000000000) (hs : 0 ≤ s ∧ s < 4294967296) (ht : 0 ≤ t ∧ t < 4294967296) (h : uerr l s t = none) :
    Calls Tryd.prog 35 #[.pointer (some ⟨pb, 0, none⟩), .pointer (some ⟨ps, 0, none⟩), .pointer (some ⟨pt, 0, none⟩)] w fun e w' => ∃ A', e = .returned (dgv (pd l) (.slice A' (pd l).b.length (pd l).b.length)) ∧ RB w' (fun j => w.heap.size ≤ j) (.slice A' (pd l).b.length (pd l).b.length) (pd l).b ∧ Ex (fun _ => False) w w' := by
  unfold uerr at h
  split at h
  case isTrue h8 =>
    cases h
  case isFalse h8 =>
    split at h
    case isTrue hz =>
      cases h
    case isFalse hz =>
      split at h
      case isTrue hx =>
        cases h
      case isFalse hx =>
        split at h
        case isTrue hq =>
          cases h
        case isFalse hq =>
          by_cases hpl : dsm l = 0
          · exact pclo_plain P pb ps pt A n c l s t w hB hS hT hr hA hl (by omega) (by omega) (by omega) hpl
          · exact pclo_yes P pb ps pt A n c l s t w hB hS hT hr hA hl (by omega) (by omega) (by omega) hpl hs ht (Decidable.byContradiction fun h' => hq ⟨hpl, h'⟩)
set_option maxRecDepth 100000 in
set_option maxHeartbeats 4000000 in
theorem uparse_yes (P : Nat → Prop) (A : Option Addr) (n c : Nat) (l : List UInt8) (s t : Int) (w : World) (hr : RB w P (.slice A n c) l) (hA : A = none → c = 0) (hl : l.length ≤ 1000000000) (hs : 0 ≤ s ∧ s < 4294967296) (ht : 0 ≤ t ∧ t < 4294967296) (h : uerr l s t = none) :
    Calls Tryd.prog 16 #[.slice A n c, .int .u32 s, .int .u32 t] w fun e w' => ∃ A', e = .returned (.tuple #[dgv (pd l) (.slice A' (pd l).b.length (pd l).b.length), .nilIface]) ∧ RB w' (fun j => w.heap.size ≤ j) (.slice A' (pd l).b.length (pd l).b.length) (pd l).b ∧ Ex (fun _ => False) w w' := by
  have hmf : ∀ (fn : Fn) (first cap : Array Value) (w : World), (Instr.makeFunc fn first cap).run Tryd.prog w = .ok (.func fn first cap) w := fun _ _ _ _ => rfl
  have HR := Lib.hid hr
  have HC := Lib.hid (fun (pb ps pt : Nat) (w : World) hB hS hT hr => clo_yes P A n c l s t pb ps pt w hB hS hT hr hA hl hs ht h)
  clear hr h hA hl hs ht
  go_enter Tryd.func16, Tryd.ntmps16
  go_upto_region 1 with fail
  have hx : Ex (fun _ => False) w (w.alloc (.cells #[.slice A n c] 22)) := (Ex.refl _ w).alloc _
  have hb : (w.alloc (.cells #[.slice A n c] 22)).heap[w.heap.size]? = some (.cells #[.slice A n c] 22) := heap_alloc_new w _
  have hs1 : (w.alloc (.cells #[.slice A n c] 22)).heap.size = w.heap.size + 1 := by simp
  obtain ⟨xb0, hxb0⟩ : ∃ xb0, xb0 = w.heap.size := ⟨_, rfl⟩
  have hb_xb0 : w.heap.size ≤ xb0 := by omega
  rw [← hxb0] at hb hs1 
  try simp only [← hxb0]
  generalize w.alloc (.cells #[.slice A n c] 22) = w1 at hx hb  hs1 ⊢
  try simp only [← hs1]
  clear hs1
  clear hxb0
  have HX_w1 := Lib.hid hx
  clear hx
  have B_xb0 := Lib.hid hb
  clear hb
  have hx : Ex (fun _ => False) w1 (w1.alloc (.cells #[.int .u32 s] 32)) := (Ex.refl _ w1).alloc _
  have hb : (w1.alloc (.cells #[.int .u32 s] 32)).heap[w1.heap.size]? = some (.cells #[.int .u32 s] 32) := heap_alloc_new w1 _
  have hs1 : (w1.alloc (.cells #[.int .u32 s] 32)).heap.size = w1.heap.size + 1 := by simp
  obtain ⟨xs0, hxs0⟩ : ∃ xs0, xs0 = w1.heap.size := ⟨_, rfl⟩
  have hb_xs0 : w1.heap.size ≤ xs0 := by omega
  rw [← hxs0] at hb hs1 
  try simp only [← hxs0]
  generalize w1.alloc (.cells #[.int .u32 s] 32) = w2 at hx hb  hs1 ⊢
  try simp only [← hs1]
  clear hs1
  clear hxs0
  have HX_w2 := Lib.hid hx
  clear hx
  have B_xs0 := Lib.hid hb
  clear hb
  have hx : Ex (fun _ => False) w2 (w2.alloc (.cells #[.int .u32 t] 32)) := (Ex.refl _ w2).alloc _
  have hb : (w2.alloc (.cells #[.int .u32 t] 32)).heap[w2.heap.size]? = some (.cells #[.int .u32 t] 32) := heap_alloc_new w2 _
  have hs1 : (w2.alloc (.cells #[.int .u32 t] 32)).heap.size = w2.heap.size + 1 := by simp
  obtain ⟨xt0, hxt0⟩ : ∃ xt0, xt0 = w2.heap.size := ⟨_, rfl⟩
  have hb_xt0 : w2.heap.size ≤ xt0 := by omega
  rw [← hxt0] at hb hs1 
  try simp only [← hxt0]
  generalize w2.alloc (.cells #[.int .u32 t] 32) = w3 at hx hb  hs1 ⊢
  try simp only [← hs1]
  clear hs1
  clear hxt0
  have HX_w3 := Lib.hid hx
  clear hx
  have B_xt0 := Lib.hid hb
  clear hb
  have hx : Ex (fun _ => False) w3 (w3.alloc (.cells #[.int .u16 0, .int .u16 0, .bool false, .slice none 0 0] 25)) := (Ex.refl _ w3).alloc _
  have hb : (w3.alloc (.cells #[.int .u16 0, .int .u16 0, .bool false, .slice none 0 0] 25)).heap[w3.heap.size]? = some (.cells #[.int .u16 0, .int .u16 0, .bool false, .slice none 0 0] 25) := heap_alloc_new w3 _
  obtain ⟨rb, hrb⟩ : ∃ rb, rb = w3.heap.size := ⟨_, rfl⟩
  have hb_rb : w3.heap.size ≤ rb := by omega
  rw [← hrb] at hb
  try simp only [← hrb]
  generalize w3.alloc (.cells #[.int .u16 0, .int .u16 0, .bool false, .slice none 0 0] 25) = w4 at hx hb ⊢
  clear hrb
  have HX_w4 := Lib.hid hx
  clear hx
  have B_rb := Lib.hid hb
  clear hb
  go_wp2_with fail
  refine (taken_ret xb0 xs0 xt0 w4 (pd l).src (pd l).dst (pd l).pl (pd l).b.length (pd l).b (fun w1 hx1 => HC.out xb0 xs0 xt0 w1 (hx1.cell (row_cell ((((HX_w2.out.trans HX_w3.out).trans HX_w4.out).block xb0 (row_lt B_xb0.out) id).trans B_xb0.out) rfl) id) (hx1.cell (row_cell (((HX_w3.out.trans HX_w4.out).block xs0 (row_lt B_xs0.out) id).trans B_xs0.out) rfl) id) (hx1.cell (row_cell ((HX_w4.out.block xt0 (row_lt B_xt0.out) id).trans B_xt0.out) rfl) id) ((RB.keep HR.out (((HX_w1.out.trans HX_w2.out).trans HX_w3.out).trans HX_w4.out) (fun _ _ _ => id)).keep hx1 (fun _ _ _ => id)))).mono ?_
  rintro e w5 ⟨A5, rfl, hb, hx⟩
  have hrb4 := row_lt B_rb.out
  have hz04 := (((HX_w1.out.trans HX_w2.out).trans HX_w3.out).trans HX_w4.out).size
  clear HC
  have HX_w5 := Lib.hid hx
  clear hx
  have HB := Lib.hid hb
  clear hb
  replace B_rb := Lib.hid ((HX_w5.out.block rb (row_lt B_rb.out) id).trans B_rb.out)
  have crb0 := row_cell (k := 0) (v := .int .u16 0) B_rb.out rfl
  have crb1 := row_cell (k := 1) (v := .int .u16 0) B_rb.out rfl
  have crb2 := row_cell (k := 2) (v := .bool false) B_rb.out rfl
  have crb3 := row_cell (k := 3) (v := .slice none 0 0) B_rb.out rfl
  have frb0 := row_frozen B_rb.out 0
  have frb1 := row_frozen B_rb.out 1
  have frb2 := row_frozen B_rb.out 2
  have frb3 := row_frozen B_rb.out 3
  go_wp2_with fail
  (try simp only [Exit.inBlock, Exit.then])
  have r0 : (w5.setCell ⟨rb, 0, none⟩ (.int .u16 (pd l).src)).heap[rb]? = some (.cells #[.int .u16 (pd l).src, .int .u16 0, .bool false, .slice none 0 0] 25) := row_set B_rb.out 0 (.int .u16 (pd l).src)
  have r1 : ((w5.setCell ⟨rb, 0, none⟩ (.int .u16 (pd l).src)).setCell ⟨rb, 1, none⟩ (.int .u16 (pd l).dst)).heap[rb]? = some (.cells #[.int .u16 (pd l).src, .int .u16 (pd l).dst, .bool false, .slice none 0 0] 25) := row_set r0 1 (.int .u16 (pd l).dst)
  clear r0
  have r2 : (((w5.setCell ⟨rb, 0, none⟩ (.int .u16 (pd l).src)).setCell ⟨rb, 1, none⟩ (.int .u16 (pd l).dst)).setCell ⟨rb, 2, none⟩ (.bool (pd l).pl)).heap[rb]? = some (.cells #[.int .u16 (pd l).src, .int .u16 (pd l).dst, .bool (pd l).pl, .slice none 0 0] 25) := row_set r1 2 (.bool (pd l).pl)
  clear r1
  have r3 : ((((w5.setCell ⟨rb, 0, none⟩ (.int .u16 (pd l).src)).setCell ⟨rb, 1, none⟩ (.int .u16 (pd l).dst)).setCell ⟨rb, 2, none⟩ (.bool (pd l).pl)).setCell ⟨rb, 3, none⟩ (.slice A5 (pd l).b.length (pd l).b.length)).heap[rb]? = some (.cells #[.int .u16 (pd l).src, .int .u16 (pd l).dst, .bool (pd l).pl, .slice A5 (pd l).b.length (pd l).b.length] 25) := row_set r2 3 (.slice A5 (pd l).b.length (pd l).b.length)
  clear r2
  have hx : Ex (fun j => j = rb) w5 ((((w5.setCell ⟨rb, 0, none⟩ (.int .u16 (pd l).src)).setCell ⟨rb, 1, none⟩ (.int .u16 (pd l).dst)).setCell ⟨rb, 2, none⟩ (.bool (pd l).pl)).setCell ⟨rb, 3, none⟩ (.slice A5 (pd l).b.length (pd l).b.length)) := (((((Ex.refl (fun j => j = rb) w5).setCell (p := ⟨rb, 0, none⟩) (.inl rfl) (.int .u16 (pd l).src)).setCell (p := ⟨rb, 1, none⟩) (.inl rfl) (.int .u16 (pd l).dst)).setCell (p := ⟨rb, 2, none⟩) (.inl rfl) (.bool (pd l).pl)).setCell (p := ⟨rb, 3, none⟩) (.inl rfl) (.slice A5 (pd l).b.length (pd l).b.length))
  clear crb0 crb1 crb2 crb3 frb0 frb1 frb2 frb3
  generalize ((((w5.setCell ⟨rb, 0, none⟩ (.int .u16 (pd l).src)).setCell ⟨rb, 1, none⟩ (.int .u16 (pd l).dst)).setCell ⟨rb, 2, none⟩ (.bool (pd l).pl)).setCell ⟨rb, 3, none⟩ (.slice A5 (pd l).b.length (pd l).b.length)) = wz at r3 hx ⊢
  replace B_rb := Lib.hid r3
  clear r3
  have HX_wz := Lib.hid hx
  clear hx
  refine bodyPost_ret (v := .tuple #[.agg #[.int .u16 (pd l).src, .int .u16 (pd l).dst, .bool (pd l).pl, .slice A5 (pd l).b.length (pd l).b.length], .nilIface]) ?_ rfl ⟨A5, rfl, ((HB.out.keep HX_wz.out (fun k _ hk e => by omega)).mono (fun k _ hk => by omega)), (((((HX_w1.out.trans HX_w2.out).trans HX_w3.out).trans HX_w4.out).trans HX_w5.out).andThen HX_wz.out (fun i hi e => by have := ((HX_w1.out.trans HX_w2.out).trans HX_w3.out).size; have := hb_rb; omega))⟩
  exact results_cell_row2 (p := 6) (u := 7) rfl _ _ rb 25 #[.int .u16 (pd l).src, .int .u16 (pd l).dst, .bool (pd l).pl, .slice A5 (pd l).b.length (pd l).b.length] (0, 0) _ _ rfl rfl B_rb.out Tryd.underlying25 rfl dg_size
end Go.Proofs.YtfcfpkhcpijkfaaDoor
