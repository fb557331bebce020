/-
  The walk of IcmpBack. By an AI agent.
-/
import Derived.Test.YtbmjkcocnmfpaaaDoorShown07
import Derived.Test.YtbmjkcocnmfpaaaDoorStr
import Derived.Test.YtbmjkcocnmfpaaaDoorCode
namespace Go.Proofs.YtbmjkcocnmfpaaaDoor
open Go.RowKit

theorem ms_cut (b : List UInt8) : ∃ l1 : List UInt8, (if 2000 < (b.length : Int) then (2000 : Int) else (b.length : Int)) = (l1.length : Int) ∧ l1.length ≤ b.length ∧ l1.length ≤ 2000 ∧ l1 = b.take 2000 := by
  refine ⟨b.take 2000, ?_, by simp; omega, by simp; omega, rfl⟩
  rw [List.length_take]; split <;> omega
set_option maxRecDepth 100000 in
set_option maxHeartbeats 16000000 in
theorem back07_any (m : Ms) (A : Option Addr) (c : Nat) (at' : Int) (y : UInt8) (cut : Int) (w : World) (ok : m.ok) (hm : RB w (fun _ => True) (.slice A m.b.length c) m.b) (hg : ET w) :
    Calls Tryd.prog 3 #[msv m (.slice A m.b.length c), .int .i64 at', .int .u8 (y.toNat : Int), .int .i64 cut] w fun e w' => e = .returned (.bool true) ∧ Ex (fun _ => False) w w' := by
  obtain ⟨xty, xco, xrest, xb⟩ := m
  simp only at hm
  have hmc : xb.length ≤ c := by obtain ⟨_, _, _, e, h, _⟩ := hm; injection e with _ _ e3; rw [e3]; exact h
  obtain ⟨xl, hk, hk1, hk2, hxl⟩ := ms_cut xb
  have hki : (xl.length : Int) ≤ (xb.length : Int) := by omega
  have hkc : xl.length ≤ c := by omega
  have hm1 := hm.take 2000
  rw [← hxl] at hm1
  have okx : (⟨xty, xco, xrest, xl⟩ : Ms).ok := ok
  have HM := Lib.hid hm1
  have HG := Lib.hid hg
  have OKX := Lib.hid okx
  have a1 := and_i64 cut
  have a2 := and_i64 at'
  obtain ⟨n1, hn1⟩ : ∃ n : Nat, cut % 65536 = (n : Int) := ⟨(cut % 65536).toNat, by omega⟩
  obtain ⟨n2, hn2⟩ : ∃ n : Nat, at' % 65536 = (n : Int) := ⟨(at' % 65536).toNat, by omega⟩
  rw [hn1] at a1
  rw [hn2] at a2
  have A1 := Lib.hid a1
  have A2 := Lib.hid a2
  clear hm hm1 ok okx hxl hmc hg a1 a2 hn1 hn2
  show Calls Tryd.prog 3 #[.agg #[.int .u8 xty, .int .u8 xco, .int .u32 xrest, .slice A xb.length c], .int .i64 at', .int .u8 (y.toNat : Int), .int .i64 cut] w _
  go_enter Tryd.func3, Tryd.ntmps3
  go_upto_region 1 with fail
  have hx : Ex (fun _ => False) w (w.alloc (.cells #[.int .u8 xty, .int .u8 xco, .int .u32 xrest, .slice A xb.length c] 25)) := (Ex.refl _ w).alloc _
  have hb : (w.alloc (.cells #[.int .u8 xty, .int .u8 xco, .int .u32 xrest, .slice A xb.length c] 25)).heap[w.heap.size]? = some (.cells #[.int .u8 xty, .int .u8 xco, .int .u32 xrest, .slice A xb.length c] 25) := heap_alloc_new w _
  obtain ⟨bp, hbp⟩ : ∃ bp, bp = w.heap.size := ⟨_, rfl⟩
  have hb_bp : w.heap.size ≤ bp := by omega
  rw [← hbp] at hb
  try simp only [← hbp]
  generalize w.alloc (.cells #[.int .u8 xty, .int .u8 xco, .int .u32 xrest, .slice A xb.length c] 25) = w1 at hx hb ⊢
  clear hbp
  have HX_w1 := Lib.hid hx
  clear hx
  have B_bp := Lib.hid hb
  clear hb
  go_wp2_with fail
  refine (shown7_any w1).mono ?_
  rintro e w2 ⟨rfl, hx⟩
  have HX_w2 := Lib.hid hx
  clear hx
  have cbp3 := row_cell (k := 3) (v := .slice A xb.length c) ((HX_w2.out.block bp (row_lt B_bp.out) id).trans B_bp.out) rfl
  have fbp3 := row_frozen ((HX_w2.out.block bp (row_lt B_bp.out) id).trans B_bp.out) 3
  go_upto_region 3 with fail
  replace B_bp := Lib.hid ((HX_w2.out.block bp (row_lt B_bp.out) id).trans B_bp.out)
  have hb : (w2.setCell ⟨bp, 3, none⟩ (.slice A xl.length c)).heap[bp]? = some (.cells #[.int .u8 xty, .int .u8 xco, .int .u32 xrest, .slice A xl.length c] 25) := (row_set B_bp.out 3 (.slice A xl.length c))
  have hx : Ex (fun j => j = bp) w2 (w2.setCell ⟨bp, 3, none⟩ (.slice A xl.length c)) := ((Ex.refl (fun j => j = bp) w2).setCell (p := ⟨bp, 3, none⟩) (.inl rfl) (.slice A xl.length c))
  clear cbp3 fbp3 hk hki hkc hk1
  generalize (w2.setCell ⟨bp, 3, none⟩ (.slice A xl.length c)) = w3 at hx hb ⊢
  clear B_bp
  have HX_w3 := Lib.hid hx
  clear hx
  have B_bp := Lib.hid hb
  clear hb
  have cbp0 := row_cell (k := 0) (v := .int .u8 xty) B_bp.out rfl
  have cbp1 := row_cell (k := 1) (v := .int .u8 xco) B_bp.out rfl
  have cbp2 := row_cell (k := 2) (v := .int .u32 xrest) B_bp.out rfl
  have cbp3 := row_cell (k := 3) (v := .slice A xl.length c) B_bp.out rfl
  go_wp2_with fail
  refine (mBytes_any _ (⟨xty, xco, xrest, xl⟩ : Ms) A c w3 OKX.out (RB.keep HM.out ((HX_w1.out.trans HX_w2.out).andThen HX_w3.out (fun i hi e => by have := hb_bp; omega)) (fun _ _ _ => id)) (by show xl.length ≤ _; omega)).mono ?_
  rintro e w4 ⟨A4, c4, rfl, ho, hx⟩
  obtain ⟨g4, rfl, hb_g4, hg4⟩ := ho.plain
  have hml := mb_len (⟨xty, xco, xrest, xl⟩ : Ms)
  have hsu := mb_su (⟨xty, xco, xrest, xl⟩ : Ms)
  have hpm := pm_mb OKX.out
  obtain ⟨m, hmm⟩ : ∃ m, m = mb (⟨xty, xco, xrest, xl⟩ : Ms) := ⟨_, rfl⟩
  rw [← hmm] at ho hml hsu hpm
  have hsp : ∀ (k : Nat) (hk : k < m.length) (y : UInt8), y ≠ 0 → merr (m.set k (m[k] ^^^ y)) = some ([lay7], 4) := by
    subst hmm; exact fun k hk y hy => mb_spoilt (⟨xty, xco, xrest, xl⟩ : Ms) k hk y hy
  have hsame : ∀ (k : Nat) (hk : k < m.length), m.set k (m[k] ^^^ 0) = m := by
    subst hmm; exact fun k hk => mb_same (⟨xty, xco, xrest, xl⟩ : Ms) k hk
  obtain ⟨N, hN⟩ : ∃ N, N = 8 + xl.length := ⟨_, rfl⟩
  have ho' : OB w4 w3.heap.size (.slice (some ⟨g4, 0, none⟩) (8 + xl.length) c4) m := ho
  have hmN : m.length = N := by rw [hml, hN]
  rw [← hN] at ho' ⊢
  have hNi : (8 : Int) + (xl.length : Int) = (N : Int) := by omega
  have hNw : IntKind.i64.wrap (N : Int) = (N : Int) := by rw [IntKind.wrap_i64]; omega
  have hN8 : 8 ≤ N := by omega
  have hNm : N ≤ 2008 := by omega
  have HMN := Lib.hid hmN
  have HSU := Lib.hid hsu
  have HPM := Lib.hid hpm
  have HSP := Lib.hid hsp
  have HSM := Lib.hid hsame
  clear ho hml hsu hpm hsp hsame hmm hN hmN cbp0 cbp1 cbp2 cbp3
  have HX_w4 := Lib.hid hx
  clear hx
  have HO4 := Lib.hid ho'
  clear ho'
  have hlbp := row_lt B_bp.out
  have ne_bp_g4 : bp ≠ g4 := by omega
  have hrb := HO4.out.rb
  go_wp2_with fail
  refine (mparse_yes _ (some ⟨g4, 0, none⟩) N c4 m w4 hrb (fun h => by cases h) (by rw [HMN.out]; omega) (by rw [HMN.out]; omega) HSU.out).mono ?_
  rintro e w5 ⟨A5, g5, rfl, hb_g5, hb5, hx⟩
  rw [HPM.out] at hb5 ⊢
  have hb5' : RB w5 (fun j => j = g5) (.slice A5 xl.length xl.length) xl := hb5
  have hv : msv (⟨xty, xco, xrest, xl⟩ : Ms) (.slice A5 (⟨xty, xco, xrest, xl⟩ : Ms).b.length (⟨xty, xco, xrest, xl⟩ : Ms).b.length) = .agg #[.int .u8 xty, .int .u8 xco, .int .u32 xrest, .slice A5 xl.length xl.length] := rfl
  rw [hv]
  clear hv hb5 hrb
  have HX_w5 := Lib.hid hx
  clear hx
  have HB5 := Lib.hid hb5'
  clear hb5'
  go_upto_region 5 with fail
  have hx : Ex (fun _ => False) w5 (w5.alloc (.cells #[.int .u8 xty, .int .u8 xco, .int .u32 xrest, .slice A5 xl.length xl.length] 25)) := (Ex.refl _ w5).alloc _
  have hb : (w5.alloc (.cells #[.int .u8 xty, .int .u8 xco, .int .u32 xrest, .slice A5 xl.length xl.length] 25)).heap[w5.heap.size]? = some (.cells #[.int .u8 xty, .int .u8 xco, .int .u32 xrest, .slice A5 xl.length xl.length] 25) := heap_alloc_new w5 _
  obtain ⟨qb, hqb⟩ : ∃ qb, qb = w5.heap.size := ⟨_, rfl⟩
  have hb_qb : w5.heap.size ≤ qb := by omega
  rw [← hqb] at hb
  try simp only [← hqb]
  generalize w5.alloc (.cells #[.int .u8 xty, .int .u8 xco, .int .u32 xrest, .slice A5 xl.length xl.length] 25) = w6 at hx hb ⊢
  clear hqb
  have HX_w6 := Lib.hid hx
  clear hx
  have B_qb := Lib.hid hb
  clear hb
  replace HB5 := Lib.hid (RB.keep HB5.out HX_w6.out (fun _ _ _ => id))
  replace HM := Lib.hid (RB.keep HM.out (((((HX_w1.out.trans HX_w2.out).andThen HX_w3.out (fun i hi e => by have := hb_bp; omega)).trans HX_w4.out).trans HX_w5.out).trans HX_w6.out) (fun _ _ _ => id))
  replace B_bp := Lib.hid ((((HX_w4.out.trans HX_w5.out).trans HX_w6.out).block bp (row_lt B_bp.out) id).trans B_bp.out)
  have cqb0 := row_cell (k := 0) (v := .int .u8 xty) B_qb.out rfl
  have cqb1 := row_cell (k := 1) (v := .int .u8 xco) B_qb.out rfl
  have cqb2 := row_cell (k := 2) (v := .int .u32 xrest) B_qb.out rfl
  have cqb3 := row_cell (k := 3) (v := .slice A5 xl.length xl.length) B_qb.out rfl
  have cbp0 := row_cell (k := 0) (v := .int .u8 xty) B_bp.out rfl
  have cbp1 := row_cell (k := 1) (v := .int .u8 xco) B_bp.out rfl
  have cbp2 := row_cell (k := 2) (v := .int .u32 xrest) B_bp.out rfl
  have cbp3 := row_cell (k := 3) (v := .slice A xl.length c) B_bp.out rfl
  have z1 : ∀ w, (binOp .neq 33 (rmv (⟨xty, xco, xrest, xl⟩ : Ms)) (rmv (⟨xty, xco, xrest, xl⟩ : Ms))).run Tryd.prog w = .ok (.bool false) w := fun w => by rw [rmv_neq, Ms.eqB_self]; rfl
  have z2 : ∀ w, (eqGuard .neq 33 (.tmp 37) (.tmp 39) (rmv (⟨xty, xco, xrest, xl⟩ : Ms)) (rmv (⟨xty, xco, xrest, xl⟩ : Ms))).run Tryd.prog w = .ok () w := fun w => rmv_guard .neq (.tmp 37) (.tmp 39) _ _ w
  have Z1 := Lib.hid z1
  have Z2 := Lib.hid z2
  have hS0 : Ex (fun _ => False) w6 w6.drew := (Ex.refl _ w6).drew
  clear z1 z2
  refine wp_region_held_drew (S := fun W => Ex (fun _ => False) w6 W) (by kernel_rfl) hS0 (fun _ => ?_)
  refine wpAnyH_take (i := 0) (oi := { dst := some 33, op := Go.Op.move (Go.Operand.tmp 12), type := 29, pos := "law.go:71", after := #[], guard := none }) (v := ?v1) rfl (by kernel_rfl) (by kernel_rfl) (by kernel_rfl) (fun _ _ _ h => h) (Or.inl ⟨by rfl, ?hy1⟩) (by assumption) ?rest1
  case hy1 => (intro w hSw; (try dsimp only at hSw); have ecqb0 := hSw.cell cqb0 id; have ecqb1 := hSw.cell cqb1 id; have ecqb2 := hSw.cell cqb2 id; have ecqb3 := hSw.cell cqb3 id; have ecbp0 := hSw.cell cbp0 id; have ecbp1 := hSw.cell cbp1 id; have ecbp2 := hSw.cell cbp2 id; have ecbp3 := hSw.cell cbp3 id; have z1 := Z1.out; have z2 := Z2.out; go_simp <;> with_reducible rfl)
  try simp only [Act.put, List.setIfInBounds_toArray, List.set_cons_zero, List.set_cons_succ]
  refine wpAnyH_take (i := 1) (oi := { dst := some 34, op := Go.Op.binOp Go.BinOp.neq 29 (Go.Operand.tmp 33) (Go.Operand.const Go.Value.nilIface) 29, type := 4, pos := "law.go:71", after := #[{ on := 0, ground := Go.Ground.data }], guard := none }) (v := ?v2) rfl (by kernel_rfl) (by kernel_rfl) (by kernel_rfl) (fun _ _ _ h => h) (Or.inl ⟨by rfl, ?hy2⟩) (by assumption) ?rest2
  case hy2 => (intro w hSw; (try dsimp only at hSw); have ecqb0 := hSw.cell cqb0 id; have ecqb1 := hSw.cell cqb1 id; have ecqb2 := hSw.cell cqb2 id; have ecqb3 := hSw.cell cqb3 id; have ecbp0 := hSw.cell cbp0 id; have ecbp1 := hSw.cell cbp1 id; have ecbp2 := hSw.cell cbp2 id; have ecbp3 := hSw.cell cbp3 id; have z1 := Z1.out; have z2 := Z2.out; go_simp <;> with_reducible rfl)
  try simp only [Act.put, List.setIfInBounds_toArray, List.set_cons_zero, List.set_cons_succ]
  refine wpAnyH_take (i := 2) (oi := { dst := some 35, op := Go.Op.move (Go.Operand.tmp 34), type := 4, pos := "law.go:71", after := #[{ on := 1, ground := Go.Ground.data }], guard := none }) (v := ?v3) rfl (by kernel_rfl) (by kernel_rfl) (by kernel_rfl) (fun _ _ _ h => h) (Or.inl ⟨by rfl, ?hy3⟩) (by assumption) ?rest3
  case hy3 => (intro w hSw; (try dsimp only at hSw); have ecqb0 := hSw.cell cqb0 id; have ecqb1 := hSw.cell cqb1 id; have ecqb2 := hSw.cell cqb2 id; have ecqb3 := hSw.cell cqb3 id; have ecbp0 := hSw.cell cbp0 id; have ecbp1 := hSw.cell cbp1 id; have ecbp2 := hSw.cell cbp2 id; have ecbp3 := hSw.cell cbp3 id; have z1 := Z1.out; have z2 := Z2.out; go_simp <;> with_reducible rfl)
  try simp only [Act.put, List.setIfInBounds_toArray, List.set_cons_zero, List.set_cons_succ]
  refine wpAnyH_take (i := 3) (oi := { dst := some 36, op := Go.Op.load 25 (Go.Operand.tmp 11), type := 25, pos := "law.go:71", after := #[{ on := 2, ground := Go.Ground.guard }], guard := some (2, false) }) (v := ?v4) rfl (by kernel_rfl) (by kernel_rfl) (by kernel_rfl) (fun _ _ _ h => h) (Or.inl ⟨by rfl, ?hy4⟩) (by assumption) ?rest4
  case hy4 => (intro w hSw; (try dsimp only at hSw); have ecqb0 := hSw.cell cqb0 id; have ecqb1 := hSw.cell cqb1 id; have ecqb2 := hSw.cell cqb2 id; have ecqb3 := hSw.cell cqb3 id; have ecbp0 := hSw.cell cbp0 id; have ecbp1 := hSw.cell cbp1 id; have ecbp2 := hSw.cell cbp2 id; have ecbp3 := hSw.cell cbp3 id; have z1 := Z1.out; have z2 := Z2.out; go_simp <;> with_reducible rfl)
  try simp only [Act.put, List.setIfInBounds_toArray, List.set_cons_zero, List.set_cons_succ]
  refine wpAnyH_take (i := 5) (oi := { dst := some 38, op := Go.Op.load 25 (Go.Operand.tmp 4), type := 25, pos := "law.go:71", after := #[{ on := 2, ground := Go.Ground.guard }], guard := some (2, false) }) (v := ?v5) rfl (by kernel_rfl) (by kernel_rfl) (by kernel_rfl) (fun _ _ _ h => h) (Or.inl ⟨by rfl, ?hy5⟩) (by assumption) ?rest5
  case hy5 => (intro w hSw; (try dsimp only at hSw); have ecqb0 := hSw.cell cqb0 id; have ecqb1 := hSw.cell cqb1 id; have ecqb2 := hSw.cell cqb2 id; have ecqb3 := hSw.cell cqb3 id; have ecbp0 := hSw.cell cbp0 id; have ecbp1 := hSw.cell cbp1 id; have ecbp2 := hSw.cell cbp2 id; have ecbp3 := hSw.cell cbp3 id; have z1 := Z1.out; have z2 := Z2.out; go_simp <;> with_reducible rfl)
  try simp only [Act.put, List.setIfInBounds_toArray, List.set_cons_zero, List.set_cons_succ]
  refine wpAnyH_ready (rs := [4]) (by kernel_rfl) (by simp) ?_
  refine AllReadyH.cons (o := { dst := some 37, op := Go.Op.call { callee := Go.Callee.value (Go.Operand.func 8), args := #[Go.Operand.tmp 36], argTypes := #[25] }, type := 33, pos := "law.go:71", after := #[{ on := 3, ground := Go.Ground.data }, { on := 2, ground := Go.Ground.chain }, { on := 2, ground := Go.Ground.guard }], guard := some (2, false) }) rfl (fun K hK => ?_) AllReadyH.nil
  go_simp
  refine (of7_any _ (⟨xty, xco, xrest, xl⟩ : Ms) A5 xl.length _ OKX.out (HB5.out.keep hS0 (fun _ _ _ => id))).mono ?_
  rintro e w7 ⟨rfl, hx⟩
  have hS1 := hS0.trans hx
  clear hx
  refine hK.out _ _ hS1 (fun _ => ?_)
  refine wpAnyH_ready (rs := [6]) (by kernel_rfl) (by simp) ?_
  refine AllReadyH.cons (o := { dst := some 39, op := Go.Op.call { callee := Go.Callee.value (Go.Operand.func 8), args := #[Go.Operand.tmp 38], argTypes := #[25] }, type := 33, pos := "law.go:71", after := #[{ on := 5, ground := Go.Ground.data }, { on := 4, ground := Go.Ground.chain }, { on := 2, ground := Go.Ground.guard }], guard := some (2, false) }) rfl (fun K hK => ?_) AllReadyH.nil
  go_simp
  refine (of7_any _ (⟨xty, xco, xrest, xl⟩ : Ms) A c _ OKX.out (HM.out.keep hS1 (fun _ _ _ => id))).mono ?_
  rintro e w8 ⟨rfl, hx⟩
  have hS2 := hS1.trans hx
  clear hx
  refine hK.out _ _ hS2 (fun _ => ?_)
  refine wpAnyH_take (i := 7) (oi := { dst := some 40, op := Go.Op.binOp Go.BinOp.neq 33 (Go.Operand.tmp 37) (Go.Operand.tmp 39) 33, type := 4, pos := "law.go:71", after := #[{ on := 4, ground := Go.Ground.data }, { on := 6, ground := Go.Ground.data }, { on := 2, ground := Go.Ground.guard }], guard := some (2, false) }) (v := ?v6) rfl (by kernel_rfl) (by kernel_rfl) (by kernel_rfl) (fun _ _ _ h => h) (Or.inl ⟨by rfl, ?hy6⟩) (by assumption) ?rest6
  case hy6 => (intro w hSw; (try dsimp only at hSw); have ecqb0 := hSw.cell cqb0 id; have ecqb1 := hSw.cell cqb1 id; have ecqb2 := hSw.cell cqb2 id; have ecqb3 := hSw.cell cqb3 id; have ecbp0 := hSw.cell cbp0 id; have ecbp1 := hSw.cell cbp1 id; have ecbp2 := hSw.cell cbp2 id; have ecbp3 := hSw.cell cbp3 id; have z1 := Z1.out; have z2 := Z2.out; go_simp <;> with_reducible rfl)
  try simp only [Act.put, List.setIfInBounds_toArray, List.set_cons_zero, List.set_cons_succ]
  refine wpAnyH_take (i := 8) (oi := { dst := some 41, op := Go.Op.pick (Go.Operand.tmp 35) (Go.Operand.const (Go.Value.bool true)) (Go.Operand.tmp 40), type := 4, pos := "law.go:71", after := #[{ on := 2, ground := Go.Ground.data }, { on := 7, ground := Go.Ground.data }], guard := none }) (v := ?v7) rfl (by kernel_rfl) (by kernel_rfl) (by kernel_rfl) (fun _ _ _ h => h) (Or.inl ⟨by rfl, ?hy7⟩) (by assumption) ?rest7
  case hy7 => (intro w hSw; (try dsimp only at hSw); have ecqb0 := hSw.cell cqb0 id; have ecqb1 := hSw.cell cqb1 id; have ecqb2 := hSw.cell cqb2 id; have ecqb3 := hSw.cell cqb3 id; have ecbp0 := hSw.cell cbp0 id; have ecbp1 := hSw.cell cbp1 id; have ecbp2 := hSw.cell cbp2 id; have ecbp3 := hSw.cell cbp3 id; have z1 := Z1.out; have z2 := Z2.out; go_simp <;> with_reducible rfl)
  try simp only [Act.put, List.setIfInBounds_toArray, List.set_cons_zero, List.set_cons_succ]
  refine wpAnyH_take (i := 9) (oi := { dst := some 42, op := Go.Op.move (Go.Operand.tmp 41), type := 4, pos := "law.go:71", after := #[{ on := 8, ground := Go.Ground.data }, { on := 6, ground := Go.Ground.chain }], guard := none }) (v := ?v8) rfl (by kernel_rfl) (by kernel_rfl) (by kernel_rfl) (fun _ _ _ h => h) (Or.inl ⟨by rfl, ?hy8⟩) (by assumption) ?rest8
  case hy8 => (intro w hSw; (try dsimp only at hSw); have ecqb0 := hSw.cell cqb0 id; have ecqb1 := hSw.cell cqb1 id; have ecqb2 := hSw.cell cqb2 id; have ecqb3 := hSw.cell cqb3 id; have ecbp0 := hSw.cell cbp0 id; have ecbp1 := hSw.cell cbp1 id; have ecbp2 := hSw.cell cbp2 id; have ecbp3 := hSw.cell cbp3 id; have z1 := Z1.out; have z2 := Z2.out; go_simp <;> with_reducible rfl)
  try simp only [Act.put, List.setIfInBounds_toArray, List.set_cons_zero, List.set_cons_succ]
  refine wpAnyH_take (i := 10) (oi := { dst := some 43, op := Go.Op.move (Go.Operand.tmp 10), type := 23, pos := "law.go:71", after := #[{ on := 9, ground := Go.Ground.guard }], guard := some (9, false) }) (v := ?v9) rfl (by kernel_rfl) (by kernel_rfl) (by kernel_rfl) (fun _ _ _ h => h) (Or.inl ⟨by rfl, ?hy9⟩) (by assumption) ?rest9
  case hy9 => (intro w hSw; (try dsimp only at hSw); have ecqb0 := hSw.cell cqb0 id; have ecqb1 := hSw.cell cqb1 id; have ecqb2 := hSw.cell cqb2 id; have ecqb3 := hSw.cell cqb3 id; have ecbp0 := hSw.cell cbp0 id; have ecbp1 := hSw.cell cbp1 id; have ecbp2 := hSw.cell cbp2 id; have ecbp3 := hSw.cell cbp3 id; have z1 := Z1.out; have z2 := Z2.out; go_simp <;> with_reducible rfl)
  try simp only [Act.put, List.setIfInBounds_toArray, List.set_cons_zero, List.set_cons_succ]
  refine wpAnyH_take (i := 11) (oi := { dst := some 44, op := Go.Op.call { callee := Go.Callee.builtin Go.Builtin.len, args := #[Go.Operand.tmp 43], argTypes := #[23] }, type := 3, pos := "law.go:71", after := #[{ on := 10, ground := Go.Ground.data }, { on := 9, ground := Go.Ground.guard }], guard := some (9, false) }) (v := ?v10) rfl (by kernel_rfl) (by kernel_rfl) (by kernel_rfl) (fun _ _ _ h => h) (Or.inl ⟨by rfl, ?hy10⟩) (by assumption) ?rest10
  case hy10 => (intro w hSw; (try dsimp only at hSw); have ecqb0 := hSw.cell cqb0 id; have ecqb1 := hSw.cell cqb1 id; have ecqb2 := hSw.cell cqb2 id; have ecqb3 := hSw.cell cqb3 id; have ecbp0 := hSw.cell cbp0 id; have ecbp1 := hSw.cell cbp1 id; have ecbp2 := hSw.cell cbp2 id; have ecbp3 := hSw.cell cbp3 id; have z1 := Z1.out; have z2 := Z2.out; go_simp <;> with_reducible rfl)
  try simp only [Act.put, List.setIfInBounds_toArray, List.set_cons_zero, List.set_cons_succ]
  refine wpAnyH_take (i := 12) (oi := { dst := some 45, op := Go.Op.fieldAddr 25 (Go.Operand.tmp 4) 3, type := 0, pos := "law.go:71", after := #[{ on := 9, ground := Go.Ground.guard }], guard := some (9, false) }) (v := ?v11) rfl (by kernel_rfl) (by kernel_rfl) (by kernel_rfl) (fun _ _ _ h => h) (Or.inl ⟨by rfl, ?hy11⟩) (by assumption) ?rest11
  case hy11 => (intro w hSw; (try dsimp only at hSw); have ecqb0 := hSw.cell cqb0 id; have ecqb1 := hSw.cell cqb1 id; have ecqb2 := hSw.cell cqb2 id; have ecqb3 := hSw.cell cqb3 id; have ecbp0 := hSw.cell cbp0 id; have ecbp1 := hSw.cell cbp1 id; have ecbp2 := hSw.cell cbp2 id; have ecbp3 := hSw.cell cbp3 id; have z1 := Z1.out; have z2 := Z2.out; go_simp <;> with_reducible rfl)
  try simp only [Act.put, List.setIfInBounds_toArray, List.set_cons_zero, List.set_cons_succ]
  refine wpAnyH_take (i := 13) (oi := { dst := some 46, op := Go.Op.load 23 (Go.Operand.tmp 45), type := 23, pos := "law.go:71", after := #[{ on := 12, ground := Go.Ground.data }, { on := 9, ground := Go.Ground.guard }], guard := some (9, false) }) (v := ?v12) rfl (by kernel_rfl) (by kernel_rfl) (by kernel_rfl) (fun _ _ _ h => h) (Or.inl ⟨by rfl, ?hy12⟩) (by assumption) ?rest12
  case hy12 => (intro w hSw; (try dsimp only at hSw); have ecqb0 := hSw.cell cqb0 id; have ecqb1 := hSw.cell cqb1 id; have ecqb2 := hSw.cell cqb2 id; have ecqb3 := hSw.cell cqb3 id; have ecbp0 := hSw.cell cbp0 id; have ecbp1 := hSw.cell cbp1 id; have ecbp2 := hSw.cell cbp2 id; have ecbp3 := hSw.cell cbp3 id; have z1 := Z1.out; have z2 := Z2.out; go_simp <;> with_reducible rfl)
  try simp only [Act.put, List.setIfInBounds_toArray, List.set_cons_zero, List.set_cons_succ]
  refine wpAnyH_take (i := 14) (oi := { dst := some 47, op := Go.Op.call { callee := Go.Callee.builtin Go.Builtin.len, args := #[Go.Operand.tmp 46], argTypes := #[23] }, type := 3, pos := "law.go:71", after := #[{ on := 13, ground := Go.Ground.data }, { on := 9, ground := Go.Ground.guard }], guard := some (9, false) }) (v := ?v13) rfl (by kernel_rfl) (by kernel_rfl) (by kernel_rfl) (fun _ _ _ h => h) (Or.inl ⟨by rfl, ?hy13⟩) (by assumption) ?rest13
  case hy13 => (intro w hSw; (try dsimp only at hSw); have ecqb0 := hSw.cell cqb0 id; have ecqb1 := hSw.cell cqb1 id; have ecqb2 := hSw.cell cqb2 id; have ecqb3 := hSw.cell cqb3 id; have ecbp0 := hSw.cell cbp0 id; have ecbp1 := hSw.cell cbp1 id; have ecbp2 := hSw.cell cbp2 id; have ecbp3 := hSw.cell cbp3 id; have z1 := Z1.out; have z2 := Z2.out; go_simp <;> with_reducible rfl)
  try simp only [Act.put, List.setIfInBounds_toArray, List.set_cons_zero, List.set_cons_succ]
  refine wpAnyH_take (i := 15) (oi := { dst := some 48, op := Go.Op.binOp Go.BinOp.add 3 (Go.Operand.const (Go.Value.int Go.IntKind.i64 8)) (Go.Operand.tmp 47) 3, type := 3, pos := "law.go:71", after := #[{ on := 14, ground := Go.Ground.data }, { on := 9, ground := Go.Ground.guard }], guard := some (9, false) }) (v := ?v14) rfl (by kernel_rfl) (by kernel_rfl) (by kernel_rfl) (fun _ _ _ h => h) (Or.inl ⟨by rfl, ?hy14⟩) (by assumption) ?rest14
  case hy14 => (intro w hSw; (try dsimp only at hSw); have ecqb0 := hSw.cell cqb0 id; have ecqb1 := hSw.cell cqb1 id; have ecqb2 := hSw.cell cqb2 id; have ecqb3 := hSw.cell cqb3 id; have ecbp0 := hSw.cell cbp0 id; have ecbp1 := hSw.cell cbp1 id; have ecbp2 := hSw.cell cbp2 id; have ecbp3 := hSw.cell cbp3 id; have z1 := Z1.out; have z2 := Z2.out; go_simp <;> with_reducible rfl)
  try simp only [Act.put, List.setIfInBounds_toArray, List.set_cons_zero, List.set_cons_succ]
  refine wpAnyH_take (i := 16) (oi := { dst := some 49, op := Go.Op.binOp Go.BinOp.neq 3 (Go.Operand.tmp 44) (Go.Operand.tmp 48) 3, type := 4, pos := "law.go:71", after := #[{ on := 11, ground := Go.Ground.data }, { on := 15, ground := Go.Ground.data }, { on := 9, ground := Go.Ground.guard }], guard := some (9, false) }) (v := ?v15) rfl (by kernel_rfl) (by kernel_rfl) (by kernel_rfl) (fun _ _ _ h => h) (Or.inl ⟨by rfl, ?hy15⟩) (by assumption) ?rest15
  case hy15 => (intro w hSw; (try dsimp only at hSw); have ecqb0 := hSw.cell cqb0 id; have ecqb1 := hSw.cell cqb1 id; have ecqb2 := hSw.cell cqb2 id; have ecqb3 := hSw.cell cqb3 id; have ecbp0 := hSw.cell cbp0 id; have ecbp1 := hSw.cell cbp1 id; have ecbp2 := hSw.cell cbp2 id; have ecbp3 := hSw.cell cbp3 id; have z1 := Z1.out; have z2 := Z2.out; go_simp <;> with_reducible rfl)
  try simp only [Act.put, List.setIfInBounds_toArray, List.set_cons_zero, List.set_cons_succ]
  refine wpAnyH_take (i := 17) (oi := { dst := some 50, op := Go.Op.pick (Go.Operand.tmp 42) (Go.Operand.const (Go.Value.bool true)) (Go.Operand.tmp 49), type := 4, pos := "law.go:71", after := #[{ on := 9, ground := Go.Ground.data }, { on := 16, ground := Go.Ground.data }], guard := none }) (v := ?v16) rfl (by kernel_rfl) (by kernel_rfl) (by kernel_rfl) (fun _ _ _ h => h) (Or.inl ⟨by rfl, ?hy16⟩) (by assumption) ?rest16
  case hy16 => (intro w hSw; (try dsimp only at hSw); have ecqb0 := hSw.cell cqb0 id; have ecqb1 := hSw.cell cqb1 id; have ecqb2 := hSw.cell cqb2 id; have ecqb3 := hSw.cell cqb3 id; have ecbp0 := hSw.cell cbp0 id; have ecbp1 := hSw.cell cbp1 id; have ecbp2 := hSw.cell cbp2 id; have ecbp3 := hSw.cell cbp3 id; have z1 := Z1.out; have z2 := Z2.out; go_simp <;> with_reducible rfl)
  try simp only [Act.put, List.setIfInBounds_toArray, List.set_cons_zero, List.set_cons_succ]
  refine wpAnyH_done (by kernel_rfl) ?_ _
  have hx := hS2
  clear hS0 hS1 hS2 hNi hNw cqb0 cqb1 cqb2 cqb3 cbp0 cbp1 cbp2 cbp3
  have HX_w8 := Lib.hid hx
  clear hx
  replace HO4 := Lib.hid (OB.keep HO4.out ((HX_w5.out.trans HX_w6.out).trans HX_w8.out) (fun _ _ _ _ => id))
  have hcp : N ≤ c4 := by obtain ⟨_, _, _, e, h, _⟩ := HO4.out.rb; injection e with _ _ e3; rw [e3, ← HMN.out]; exact h
  obtain ⟨k, hk⟩ : ∃ k, k = n1 % 8 := ⟨_, rfl⟩
  have hk8 : k < 8 := by omega
  have hki : (n1 : Int) % 8 = (k : Int) := by omega
  have hkt : (n1 : Int).tmod 8 = (k : Int) := by rw [Int.tmod_eq_emod_of_nonneg (by omega)]; exact hki
  have hkc : k ≤ c4 := by omega
  have hkm' : (k : Int) ≤ (N : Int) := by omega
  have a1 := A1.out
  have hkl : (m.take k).length = k := by rw [List.length_take, HMN.out]; omega
  have hrb := HO4.out.rb.take k
  rw [hkl] at hrb
  have HRB := Lib.hid hrb
  have HKL := Lib.hid hkl
  clear hrb hkl hk
  go_wp2_with fail
  refine (mparse_short _ (some ⟨g4, 0, none⟩) k c4 (m.take k) w8 HRB.out (fun h => by cases h) (by rw [HKL.out]; omega) (by rw [HKL.out]; omega)).mono ?_
  rintro e w9 ⟨v9, rfl, he, hx⟩
  obtain ⟨t9, y9, rfl⟩ := he.shape
  clear hki hkt a1 hkc hkm'
  have hv : msv zms (.slice none 0 0) = .agg #[.int .u8 0, .int .u8 0, .int .u32 0, .slice none 0 0] := rfl
  rw [hv]
  clear hv
  have HX_w9 := Lib.hid hx
  clear hx
  have HE9 := Lib.hid he
  clear he
  go_upto_region 8 with fail
  have hx : Ex (fun _ => False) w9 (w9.alloc (.cells #[.int .u8 0, .int .u8 0, .int .u32 0, .slice none 0 0] 25)) := (Ex.refl _ w9).alloc _
  have hb : (w9.alloc (.cells #[.int .u8 0, .int .u8 0, .int .u32 0, .slice none 0 0] 25)).heap[w9.heap.size]? = some (.cells #[.int .u8 0, .int .u8 0, .int .u32 0, .slice none 0 0] 25) := heap_alloc_new w9 _
  obtain ⟨zb, hzb⟩ : ∃ zb, zb = w9.heap.size := ⟨_, rfl⟩
  have hb_zb : w9.heap.size ≤ zb := by omega
  rw [← hzb] at hb
  try simp only [← hzb]
  generalize w9.alloc (.cells #[.int .u8 0, .int .u8 0, .int .u32 0, .slice none 0 0] 25) = wA at hx hb ⊢
  clear hzb
  have HX_wA := Lib.hid hx
  clear hx
  have B_zb := Lib.hid hb
  clear hb
  replace HO4 := Lib.hid (OB.keep HO4.out (HX_w9.out.trans HX_wA.out) (fun _ _ _ _ => id))
  obtain ⟨j, hj⟩ : ∃ j, j = n2 % N := ⟨_, rfl⟩
  have hjN : j < N := by rw [hj]; exact Nat.mod_lt _ (by omega)
  have hji : (n2 : Int) % (N : Int) = (j : Int) := by rw [hj]; omega
  have hjt : (n2 : Int).tmod (N : Int) = (j : Int) := by rw [Int.tmod_eq_emod_of_nonneg (by omega)]; exact hji
  have hmz : ((N : Int) == 0) = false := by rw [beq_eq_false_iff_ne]; omega
  have hjm : j < m.length := by rw [HMN.out]; exact hjN
  have hjm' : (j : Int) < (N : Int) := by omega
  have a2 := A2.out
  have cj := HO4.out.cell j hjm
  have fj := HO4.out.frozen j
  have xj := xor_u8 m[j] y
  obtain ⟨X, hX⟩ : ∃ X, X = m[j] ^^^ y := ⟨_, rfl⟩
  rw [← hX] at xj
  have ho := HO4.out.set j X (.int .u8 (X.toNat : Int)) rfl
  have HOB := Lib.hid ho
  have hsp : y ≠ 0 → merr (m.set j X) = some ([lay7], 4) := fun hy => by rw [hX]; exact HSP.out j hjm y hy
  have hsame : y = 0 → m.set j X = m := fun hy => by rw [hX, hy]; exact HSM.out j hjm
  have HSP2 := Lib.hid hsp
  have HSM2 := Lib.hid hsame
  have hms : (m.set j X).length = N := by rw [List.length_set, HMN.out]
  have HMS := Lib.hid hms
  clear hX ho hj hsp hsame hms
  go_upto_region 10 with fail
  clear a2 cj fj xj hji hjt hjm' hmz
  have hx : Ex (fun i => i = g4) wA (wA.setCell ⟨g4, j, none⟩ (.int .u8 (X.toNat : Int))) := (Ex.refl (fun i => i = g4) wA).setCell (p := ⟨g4, j, none⟩) (.inl rfl) _
  generalize wA.setCell ⟨g4, j, none⟩ (.int .u8 (X.toNat : Int)) = wB at hx HOB ⊢
  obtain ⟨m2, hm2⟩ : ∃ m2, m2 = m.set j X := ⟨_, rfl⟩
  rw [← hm2] at HOB HMS HSP2 HSM2
  clear hm2
  have HX_wB := Lib.hid hx
  clear hx
  have hz48 := ((HX_w5.out.trans HX_w6.out).trans HX_w8.out).size
  have HOB2 : Hid (OB wB w3.heap.size (.slice (some ⟨g4, 0, none⟩) N c4) m2) := HOB
  have hrb := HOB2.out.rb
  by_cases hy : y = 0
  ·
    have hm2 := HSM2.out hy
    have hyb : ((y.toNat : Int) == 0) = true := by rw [hy]; rfl
    have hyn : ((y.toNat : Int) != 0) = false := by rw [hy]; rfl
    subst hm2
    clear hy HSM2 HSP2
    go_wp2_with fail
    refine (mparse_yes _ (some ⟨g4, 0, none⟩) N c4 m2 wB hrb (fun h => by cases h) (by rw [HMN.out]; omega) (by rw [HMN.out]; omega) HSU.out).mono ?_
    rintro e wC ⟨AC, gC, rfl, _, hbC, hx⟩
    rw [HPM.out]
    have hv : msv (⟨xty, xco, xrest, xl⟩ : Ms) (.slice AC (⟨xty, xco, xrest, xl⟩ : Ms).b.length (⟨xty, xco, xrest, xl⟩ : Ms).b.length) = .agg #[.int .u8 xty, .int .u8 xco, .int .u32 xrest, .slice AC xl.length xl.length] := rfl
    rw [hv]
    clear hv hbC hrb
    have HX_wC := Lib.hid hx
    clear hx
    go_upto_region 11 with fail
    have hx : Ex (fun _ => False) wC (wC.alloc (.cells #[.int .u8 xty, .int .u8 xco, .int .u32 xrest, .slice AC xl.length xl.length] 25)) := (Ex.refl _ wC).alloc _
    have hb : (wC.alloc (.cells #[.int .u8 xty, .int .u8 xco, .int .u32 xrest, .slice AC xl.length xl.length] 25)).heap[wC.heap.size]? = some (.cells #[.int .u8 xty, .int .u8 xco, .int .u32 xrest, .slice AC xl.length xl.length] 25) := heap_alloc_new wC _
    obtain ⟨rb_, hrb_⟩ : ∃ rb_, rb_ = wC.heap.size := ⟨_, rfl⟩
    have hb_rb_ : wC.heap.size ≤ rb_ := by omega
    rw [← hrb_] at hb
    try simp only [← hrb_]
    generalize wC.alloc (.cells #[.int .u8 xty, .int .u8 xco, .int .u32 xrest, .slice AC xl.length xl.length] 25) = wD at hx hb ⊢
    clear hrb_
    have HX_wD := Lib.hid hx
    clear hx
    have B_rb_ := Lib.hid hb
    clear hb
    go_wp2_with fail
    refine (code_any _ [lay7, lay1] 2 _ wD (EC.keep (HX_wC.out.trans HX_wD.out) (fun _ _ => id) (EC.keepB HX_wB.out (by omega) (EC.keep HX_wA.out (fun _ _ => id) HE9.out))) (HG.out.keep (((((((((((HX_w1.out.trans HX_w2.out).andThen HX_w3.out (fun i hi e => by have := hb_bp; omega)).trans HX_w4.out).trans HX_w5.out).trans HX_w6.out).trans HX_w8.out).trans HX_w9.out).trans HX_wA.out).andThen HX_wB.out (fun i hi e => by have := ((HX_w1.out.trans HX_w2.out).andThen HX_w3.out (fun i hi e => by have := hb_bp; omega)).size; have := hb_g4; omega)).trans HX_wC.out).trans HX_wD.out) id)).mono ?_
    rintro e wE ⟨rfl, hx⟩
    have HX_wE := Lib.hid hx
    clear hx
    go_wp2_with fail
    go_ret
    exact ⟨rfl, ((((((((((((HX_w1.out.trans HX_w2.out).andThen HX_w3.out (fun i hi e => by have := hb_bp; omega)).trans HX_w4.out).trans HX_w5.out).trans HX_w6.out).trans HX_w8.out).trans HX_w9.out).trans HX_wA.out).andThen HX_wB.out (fun i hi e => by have := ((HX_w1.out.trans HX_w2.out).andThen HX_w3.out (fun i hi e => by have := hb_bp; omega)).size; have := hb_g4; omega)).trans HX_wC.out).trans HX_wD.out).trans HX_wE.out)⟩
  ·
    have hme := HSP2.out hy
    have hsu2 : su m2 ≠ 0 := by
      intro h
      unfold merr at hme
      rw [if_neg (by rw [HMS.out]; omega), if_neg (by rw [h]; decide)] at hme
      cases hme
    have HS2 := Lib.hid hsu2
    have hyb : ((y.toNat : Int) == 0) = false := by
      rw [beq_eq_false_iff_ne]; intro h; exact hy (UInt8.toNat_inj.1 (by show y.toNat = 0; omega))
    have hyn : ((y.toNat : Int) != 0) = true := by
      rw [bne_iff_ne]; intro h; exact hy (UInt8.toNat_inj.1 (by show y.toNat = 0; omega))
    clear hy HSM2 HSP2 hme hsu2
    go_wp2_with fail
    refine (mparse_sum _ (some ⟨g4, 0, none⟩) N c4 m2 wB hrb (fun h => by cases h) (by rw [HMS.out]; omega) (by rw [HMS.out]; omega) HS2.out).mono ?_
    rintro e wC ⟨vC, rfl, he, hx⟩
    obtain ⟨tC, yC, rfl⟩ := he.shape
    have hv : msv zms (.slice none 0 0) = .agg #[.int .u8 0, .int .u8 0, .int .u32 0, .slice none 0 0] := rfl
    rw [hv]
    clear hv hrb
    have HX_wC := Lib.hid hx
    clear hx
    have HEC := Lib.hid he
    clear he
    go_upto_region 11 with fail
    have hx : Ex (fun _ => False) wC (wC.alloc (.cells #[.int .u8 0, .int .u8 0, .int .u32 0, .slice none 0 0] 25)) := (Ex.refl _ wC).alloc _
    have hb : (wC.alloc (.cells #[.int .u8 0, .int .u8 0, .int .u32 0, .slice none 0 0] 25)).heap[wC.heap.size]? = some (.cells #[.int .u8 0, .int .u8 0, .int .u32 0, .slice none 0 0] 25) := heap_alloc_new wC _
    obtain ⟨rb_, hrb_⟩ : ∃ rb_, rb_ = wC.heap.size := ⟨_, rfl⟩
    have hb_rb_ : wC.heap.size ≤ rb_ := by omega
    rw [← hrb_] at hb
    try simp only [← hrb_]
    generalize wC.alloc (.cells #[.int .u8 0, .int .u8 0, .int .u32 0, .slice none 0 0] 25) = wD at hx hb ⊢
    clear hrb_
    have HX_wD := Lib.hid hx
    clear hx
    have B_rb_ := Lib.hid hb
    clear hb
    go_wp2_with fail
    refine (code_any _ [lay7, lay1] 2 _ wD (EC.keep (HX_wC.out.trans HX_wD.out) (fun _ _ => id) (EC.keepB HX_wB.out (by omega) (EC.keep HX_wA.out (fun _ _ => id) HE9.out))) (HG.out.keep (((((((((((HX_w1.out.trans HX_w2.out).andThen HX_w3.out (fun i hi e => by have := hb_bp; omega)).trans HX_w4.out).trans HX_w5.out).trans HX_w6.out).trans HX_w8.out).trans HX_w9.out).trans HX_wA.out).andThen HX_wB.out (fun i hi e => by have := ((HX_w1.out.trans HX_w2.out).andThen HX_w3.out (fun i hi e => by have := hb_bp; omega)).size; have := hb_g4; omega)).trans HX_wC.out).trans HX_wD.out) id)).mono ?_
    rintro e wE ⟨rfl, hx⟩
    have HX_wE := Lib.hid hx
    clear hx
    go_wp2_with fail
    refine (code_any _ [lay7] 4 _ wE (EC.keep (HX_wD.out.trans HX_wE.out) (fun _ _ => id) HEC.out) (HG.out.keep ((((((((((((HX_w1.out.trans HX_w2.out).andThen HX_w3.out (fun i hi e => by have := hb_bp; omega)).trans HX_w4.out).trans HX_w5.out).trans HX_w6.out).trans HX_w8.out).trans HX_w9.out).trans HX_wA.out).andThen HX_wB.out (fun i hi e => by have := ((HX_w1.out.trans HX_w2.out).andThen HX_w3.out (fun i hi e => by have := hb_bp; omega)).size; have := hb_g4; omega)).trans HX_wC.out).trans HX_wD.out).trans HX_wE.out) id)).mono ?_
    rintro e wF ⟨rfl, hx⟩
    have HX_wF := Lib.hid hx
    clear hx
    go_wp2_with fail
    go_ret
    exact ⟨rfl, (((((((((((((HX_w1.out.trans HX_w2.out).andThen HX_w3.out (fun i hi e => by have := hb_bp; omega)).trans HX_w4.out).trans HX_w5.out).trans HX_w6.out).trans HX_w8.out).trans HX_w9.out).trans HX_wA.out).andThen HX_wB.out (fun i hi e => by have := ((HX_w1.out.trans HX_w2.out).andThen HX_w3.out (fun i hi e => by have := hb_bp; omega)).size; have := hb_g4; omega)).trans HX_wC.out).trans HX_wD.out).trans HX_wE.out).trans HX_wF.out)⟩
end Go.Proofs.YtbmjkcocnmfpaaaDoor
