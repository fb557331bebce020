/-
  The walk of OctetsNumbers. By an AI agent.
-/
import Derived.Test.YtkgieciamophkaaDoorLem01
namespace Go.Proofs.YtkgieciamophkaaDoor
open Go.RowKit

set_option linter.unusedSimpArgs false in
set_option maxRecDepth 100000 in
set_option maxHeartbeats 4000000 in
theorem numbers_any (a b c d : UInt8) (w : World) (hg : ET w) : Calls Tryd.prog 3 #[.int .u8 (a.toNat : Int), .int .u8 (b.toNat : Int), .int .u8 (c.toNat : Int), .int .u8 (d.toNat : Int)] w fun e w' => e = .returned (.bool true) ∧ Ex (fun _ => False) w w' := by
  have HG := Lib.hid hg
  clear hg
  go_enter Tryd.func3, Tryd.ntmps3
  go_wp2_with fail
  refine (shown1_any w HG.out).mono ?_
  rintro e w1 ⟨rfl, hx1⟩
  have HX1 := Lib.hid hx1
  clear hx1
  go_wp2_with fail
  have hb1 := RB.made w1 [a, b, c, d] #[.int .u8 (a.toNat : Int), .int .u8 (b.toNat : Int), .int .u8 (c.toNat : Int), .int .u8 (d.toNat : Int)] 5 rfl (by simp) 4 4 rfl (Nat.le_refl _) rfl
  have HB1 := Lib.hid hb1.old
  have HX1a := Lib.hid (HX1.out.alloc (.cells #[.int .u8 (a.toNat : Int), .int .u8 (b.toNat : Int), .int .u8 (c.toNat : Int), .int .u8 (d.toNat : Int)] 5))
  clear hb1 HX1
  generalize w1.alloc (.cells #[.int .u8 (a.toNat : Int), .int .u8 (b.toNat : Int), .int .u8 (c.toNat : Int), .int .u8 (d.toNat : Int)] 5) = w2 at HB1 HX1a ⊢
  have hs2 := HX1a.out.size
  generalize w1.heap.size = g0 at HB1 ⊢
  refine (read_any _ _ 4 4 [a, b, c, d] w2 HB1.out (fun h => by cases h) (by simp)).mono ?_
  rintro e w3 ⟨p1, g1, rfl, hr1, hp1, hg1, hx3⟩
  have HB3 := Lib.hid (HB1.out.keep hx3 (fun _ _ _ => id))
  have hs3 := hx3.size
  have HX3 := Lib.hid (HX1a.out.trans hx3)
  have hl1 := hr1.lt
  have hm1 := hr1.ltg (by simp)
  have HR1 := Lib.hid hr1
  clear hx3 hr1 HB1 HX1a
  go_wp2_with fail
  refine (read_any _ _ 4 4 [a, b, c, d] w3 HB3.out (fun h => by cases h) (by simp)).mono ?_
  rintro e w4 ⟨p2, g2, rfl, hr2, hp2, hg2, hx4⟩
  have HB4 := Lib.hid (HB3.out.keep hx4 (fun _ _ _ => id))
  have hs4 := hx4.size
  have HX4 := Lib.hid (HX3.out.trans hx4)
  have HR14 := Lib.hid (HR1.out.keep hx4 id (fun _ => id))
  have hl2 := hr2.lt
  have hm2 := hr2.ltg (by simp)
  have HR2 := Lib.hid hr2
  clear hx4 hr2 HB3 HX3 HR1
  go_wp2_with fail
  refine (read_any _ _ 4 4 [a, b, c, d] w4 HB4.out (fun h => by cases h) (by simp)).mono ?_
  rintro e w5 ⟨p3, g3, rfl, hr3, hp3, hg3, hx5⟩
  have hs5 := hx5.size
  have HX5 := Lib.hid (HX4.out.trans hx5)
  have HR15 := Lib.hid (HR14.out.keep hx5 id (fun _ => id))
  have HR25 := Lib.hid (HR2.out.keep hx5 id (fun _ => id))
  have hl3 := hr3.lt
  have hm3 := hr3.ltg (by simp)
  have HR3 := Lib.hid hr3
  clear hx5 hr3 HB4 HX4 HR14 HR2
  have hw0 : w.heap.size ≤ p1 ∧ w.heap.size ≤ p2 ∧ w.heap.size ≤ p3 ∧ w.heap.size ≤ w5.heap.size := by
    omega
  go_wp2_with fail
  refine (ru32_any p1 g1 0 [a, b, c, d] w5 HR15.out (by simp)).mono ?_
  rintro e w6 ⟨rfl, hr6, hx6⟩
  have hs6 := hx6.size
  have HR26 := Lib.hid (HR25.out.keep hx6 (by omega) (fun _ => by omega))
  have HR36 := Lib.hid (HR3.out.keep hx6 (by omega) (fun _ => by omega))
  have HX6 := Lib.hid (HX5.out.andThen hx6 (fun i hi hj => by omega))
  clear hr6 hx6 HR15 HR25 HR3 HX5
  go_wp2_with fail
  refine (ru16_any p2 g2 0 [a, b, c, d] w6 HR26.out (by simp)).mono ?_
  rintro e w7 ⟨rfl, hr7, hx7⟩
  have hs7 := hx7.size
  have HR27 : Hid (RD w7 p2 g2 (0 + 2) [c, d]) := hr7
  have HR37 := Lib.hid (HR36.out.keep hx7 (by omega) (fun _ => by omega))
  have HX7 := Lib.hid (HX6.out.andThen hx7 (fun i hi hj => by omega))
  clear hr7 hx7 HR26 HR36 HX6
  go_wp2_with fail
  refine (ru16_any p2 g2 (0 + 2) [c, d] w7 HR27.out (by simp)).mono ?_
  rintro e w8 ⟨rfl, hr8, hx8⟩
  have hs8 := hx8.size
  have HR38 := Lib.hid (HR37.out.keep hx8 (by omega) (fun _ => by omega))
  have HX8 := Lib.hid (HX7.out.andThen hx8 (fun i hi hj => by omega))
  clear hr8 hx8 HR27 HR37 HX7
  go_wp2_with fail
  refine (ru8_any p3 g3 0 [a, b, c, d] w8 HR38.out (by simp)).mono ?_
  rintro e w9 ⟨rfl, hr9, hx9⟩
  have hs9 := hx9.size
  have HR39 : Hid (RD w9 p3 g3 (0 + 1) [b, c, d]) := hr9
  have HX9 := Lib.hid (HX8.out.andThen hx9 (fun i hi hj => by omega))
  clear hr9 hx9 HR38 HX8
  go_wp2_with fail
  refine (ru8_any p3 g3 (0 + 1) [b, c, d] w9 HR39.out (by simp)).mono ?_
  rintro e w10 ⟨rfl, hr10, hx10⟩
  have hs10 := hx10.size
  have HX10 := Lib.hid (HX9.out.andThen hx10 (fun i hi hj => by omega))
  clear hr10 hx10 HR39 HX9
  have HA : Hid (txt ((nb [a, b, c, d] : Nat) : Int) 4 = [a, b, c, d] ∧ txt ((nb [a, b] : Nat) : Int) 2 = [a, b] ∧ txt ((nb [c, d] : Nat) : Int) 2 = [c, d] ∧ txt ((nb [a] : Nat) : Int) 1 = [a] ∧ txt ((nb [b] : Nat) : Int) 1 = [b]) := ⟨txt4_nb a b c d, txt2_nb a b, txt2_nb c d, txt1_nb a, txt1_nb b⟩
  have ha := a.toNat_lt
  have hb := b.toNat_lt
  have hc := c.toNat_lt
  have hd := d.toNat_lt
  simp only [List.take_succ_cons, List.take_zero]
  rw [show nb [a] = a.toNat by simp [nb], show nb [b] = b.toNat by simp [nb]] at HA ⊢
  obtain ⟨n4, hn4, hv4⟩ : ∃ n : Nat, nb [a, b, c, d] = n ∧ n = ((a.toNat * 256 + b.toNat) * 256 + c.toNat) * 256 + d.toNat := ⟨_, rfl, by simp [nb]⟩
  obtain ⟨n2, hn2, hv2⟩ : ∃ n : Nat, nb [a, b] = n ∧ n = a.toNat * 256 + b.toNat := ⟨_, rfl, by simp [nb]⟩
  obtain ⟨m2, hm2', hv2'⟩ : ∃ n : Nat, nb [c, d] = n ∧ n = c.toNat * 256 + d.toNat := ⟨_, rfl, by simp [nb]⟩
  rw [hn4, hn2, hm2'] at HA ⊢
  clear hn4 hn2 hm2'
  have hb4 : n4 < 4294967296 := by omega
  have hb2 : n2 < 65536 := by omega
  have hb2' : m2 < 65536 := by omega
  have HV := Lib.hid (And.intro hv4 (And.intro hv2 hv2'))
  clear hv4 hv2 hv2'
  go_wp2_with fail
  have hw11 := WR.zero w10 38 w10.heap.size rfl
  have hx11 := HX10.out.alloc (.cells #[.slice none 0 0] 38)
  have hs11 : w10.heap.size < (w10.alloc (.cells #[.slice none 0 0] 38)).heap.size := by simp
  generalize w10.alloc (.cells #[.slice none 0 0] 38) = w11 at hw11 hx11 hs11 ⊢
  obtain ⟨pw, hpw⟩ : ∃ pw, pw = w10.heap.size := ⟨_, rfl⟩
  rw [← hpw] at hw11 hs11 ⊢
  have hwp : w.heap.size ≤ pw := by omega
  clear hpw
  have HW11 := Lib.hid hw11
  have HX11 := Lib.hid hx11
  clear hw11 hx11 HX10
  refine (wu32_any pw none [] n4 w11 (by omega) (by omega) HW11.out (by simp)).mono ?_
  rintro e w12 ⟨rfl, hp⟩
  rw [HA.out.1] at hp
  obtain ⟨q12, hw12, hq12, hx12⟩ := writer_step (B := w11.heap.size) (fun k hk => by cases hk) (Nat.le_refl _) hp
  have hs12 := hx12.size
  have HW12 := Lib.hid hw12
  have HQ12 := Lib.hid hq12
  have HX12 := Lib.hid (HX11.out.andThen hx12 (fun i hi hj => by omega))
  clear hp hw12 hq12 hx12 HW11 HX11
  go_wp2_with fail
  refine (wu16_any pw q12 _ n2 w12 (by omega) (by omega) HW12.out (by simp)).mono ?_
  rintro e w13 ⟨rfl, hp⟩
  rw [HA.out.2.1] at hp
  obtain ⟨q13, hw13, hq13, hx13⟩ := writer_step (B := w11.heap.size) HQ12.out hs12 hp
  have hs13 := hx13.size
  have HW13 := Lib.hid hw13
  have HQ13 := Lib.hid hq13
  have HX13 := Lib.hid (HX12.out.andThen hx13 (fun i hi hj => by omega))
  clear hp hw13 hq13 hx13 HW12 HX12 HQ12
  go_wp2_with fail
  refine (wu16_any pw q13 _ m2 w13 (by omega) (by omega) HW13.out (by simp)).mono ?_
  rintro e w14 ⟨rfl, hp⟩
  rw [HA.out.2.2.1] at hp
  obtain ⟨q14, hw14, hq14, hx14⟩ := writer_step (B := w11.heap.size) HQ13.out (by omega) hp
  have hs14 := hx14.size
  have HW14 := Lib.hid hw14
  have HQ14 := Lib.hid hq14
  have HX14 := Lib.hid (HX13.out.andThen hx14 (fun i hi hj => by omega))
  clear hp hw14 hq14 hx14 HW13 HX13 HQ13
  go_wp2_with fail
  refine (wu8_any pw q14 _ (a.toNat : Int) w14 (by omega) (by omega) HW14.out (by simp)).mono ?_
  rintro e w15 ⟨rfl, hp⟩
  rw [HA.out.2.2.2.1] at hp
  obtain ⟨q15, hw15, hq15, hx15⟩ := writer_step (B := w11.heap.size) HQ14.out (by omega) hp
  have hs15 := hx15.size
  have HW15 := Lib.hid hw15
  have HQ15 := Lib.hid hq15
  have HX15 := Lib.hid (HX14.out.andThen hx15 (fun i hi hj => by omega))
  clear hp hw15 hq15 hx15 HW14 HX14 HQ14
  go_wp2_with fail
  refine (wu8_any pw q15 _ (b.toNat : Int) w15 (by omega) (by omega) HW15.out (by simp)).mono ?_
  rintro e w16 ⟨rfl, hp⟩
  rw [HA.out.2.2.2.2] at hp
  obtain ⟨q16, hw16, hq16, hx16⟩ := writer_step (B := w11.heap.size) HQ15.out (by omega) hp
  have hs16 := hx16.size
  have HW16 : Hid (WR w16 pw q16 [a, b, c, d, a, b, c, d, a, b]) := hw16
  have HX16 := Lib.hid (HX15.out.andThen hx16 (fun i hi hj => by omega))
  clear hp hw16 hq16 hx16 HW15 HX15 HQ15
  obtain ⟨hv4, hv2, hv2'⟩ := HV.out
  have e1 : ((n4 : Int) == (n2 : Int) * 65536 + (m2 : Int)) = true := by simp; omega
  have e2 : ((n2 : Int) == (a.toNat : Int) * 256 + (b.toNat : Int)) = true := by simp; omega
  have e3 : ((m2 : Int) == (c.toNat : Int) * 256 + (d.toNat : Int)) = true := by simp; omega
  have s1 : IntKind.u32.wrap ((n2 : Int) * 65536) = (n2 : Int) * 65536 := by rw [IntKind.wrap_u32]; omega
  have s2 : IntKind.u32.wrap ((n2 : Int) * 65536 + (m2 : Int)) = (n2 : Int) * 65536 + (m2 : Int) := by rw [IntKind.wrap_u32]; omega
  have s3 : IntKind.u32.wrap (n2 : Int) = (n2 : Int) := by rw [IntKind.wrap_u32]; omega
  have s4 : IntKind.u32.wrap (m2 : Int) = (m2 : Int) := by rw [IntKind.wrap_u32]; omega
  have q1 := IntWalk.u16_in (a.toNat : Int) (by omega)
  have q2 := IntWalk.u16_in ((a.toNat : Int) * 256) (by omega)
  have q3 := IntWalk.u16_in (b.toNat : Int) (by omega)
  have q4 := IntWalk.u16_in ((a.toNat : Int) * 256 + (b.toNat : Int)) (by omega)
  have q5 := IntWalk.u16_in (c.toNat : Int) (by omega)
  have q6 := IntWalk.u16_in ((c.toNat : Int) * 256) (by omega)
  have q7 := IntWalk.u16_in (d.toNat : Int) (by omega)
  have q8 := IntWalk.u16_in ((c.toNat : Int) * 256 + (d.toNat : Int)) (by omega)
  clear hv4 hv2 hv2'
  go_wp2_with fail
  refine wp_region_held_drew (S := fun W => Ex (fun _ => False) w16 W) (by kernel_rfl) ((Ex.refl _ w16).drew) (fun _ => ?_)
  refine wpAnyH_take (i := 0) (oi := { dst := some 85, op := Go.Op.move (Go.Operand.tmp 9), type := 4, pos := "more.go:49", after := #[], guard := none }) (v := ?v0) rfl (by kernel_rfl) (by kernel_rfl) (by kernel_rfl) (fun _ _ _ h => h) (Or.inl ⟨by rfl, ?hy0⟩) (by assumption) ?rest0
  case hy0 => (intro w hSw; (try dsimp only at hSw); go_simp <;> with_reducible rfl)
  try simp only [Act.put, List.setIfInBounds_toArray, List.set_cons_zero, List.set_cons_succ]
  refine wpAnyH_take (i := 1) (oi := { dst := some 86, op := Go.Op.move (Go.Operand.tmp 85), type := 4, pos := "more.go:49", after := #[{ on := 0, ground := Go.Ground.data }], guard := none }) (v := ?v1) rfl (by kernel_rfl) (by kernel_rfl) (by kernel_rfl) (fun _ _ _ h => h) (Or.inl ⟨by rfl, ?hy1⟩) (by assumption) ?rest1
  case hy1 => (intro w hSw; (try dsimp only at hSw); go_simp <;> with_reducible rfl)
  try simp only [Act.put, List.setIfInBounds_toArray, List.set_cons_zero, List.set_cons_succ]
  refine wpAnyH_take (i := 2) (oi := { dst := some 87, op := Go.Op.move (Go.Operand.tmp 15), type := 28, pos := "more.go:49", after := #[{ on := 1, ground := Go.Ground.guard }], guard := some (1, true) }) (v := ?v2) rfl (by kernel_rfl) (by kernel_rfl) (by kernel_rfl) (fun _ _ _ h => h) (Or.inl ⟨by rfl, ?hy2⟩) (by assumption) ?rest2
  case hy2 => (intro w hSw; (try dsimp only at hSw); go_simp <;> with_reducible rfl)
  try simp only [Act.put, List.setIfInBounds_toArray, List.set_cons_zero, List.set_cons_succ]
  refine wpAnyH_take (i := 3) (oi := { dst := some 88, op := Go.Op.binOp Go.BinOp.eql 28 (Go.Operand.tmp 87) (Go.Operand.const Go.Value.nilIface) 28, type := 4, pos := "more.go:49", after := #[{ on := 2, ground := Go.Ground.data }, { on := 1, ground := Go.Ground.guard }], guard := some (1, true) }) (v := ?v3) rfl (by kernel_rfl) (by kernel_rfl) (by kernel_rfl) (fun _ _ _ h => h) (Or.inl ⟨by rfl, ?hy3⟩) (by assumption) ?rest3
  case hy3 => (intro w hSw; (try dsimp only at hSw); go_simp <;> with_reducible rfl)
  try simp only [Act.put, List.setIfInBounds_toArray, List.set_cons_zero, List.set_cons_succ]
  refine wpAnyH_take (i := 4) (oi := { dst := some 89, op := Go.Op.pick (Go.Operand.tmp 86) (Go.Operand.tmp 88) (Go.Operand.const (Go.Value.bool false)), type := 4, pos := "more.go:49", after := #[{ on := 1, ground := Go.Ground.data }, { on := 3, ground := Go.Ground.data }], guard := none }) (v := ?v4) rfl (by kernel_rfl) (by kernel_rfl) (by kernel_rfl) (fun _ _ _ h => h) (Or.inl ⟨by rfl, ?hy4⟩) (by assumption) ?rest4
  case hy4 => (intro w hSw; (try dsimp only at hSw); go_simp <;> with_reducible rfl)
  try simp only [Act.put, List.setIfInBounds_toArray, List.set_cons_zero, List.set_cons_succ]
  refine wpAnyH_take (i := 5) (oi := { dst := some 90, op := Go.Op.move (Go.Operand.tmp 89), type := 4, pos := "more.go:49", after := #[{ on := 4, ground := Go.Ground.data }, { on := 1, ground := Go.Ground.chain }], guard := none }) (v := ?v5) rfl (by kernel_rfl) (by kernel_rfl) (by kernel_rfl) (fun _ _ _ h => h) (Or.inl ⟨by rfl, ?hy5⟩) (by assumption) ?rest5
  case hy5 => (intro w hSw; (try dsimp only at hSw); go_simp <;> with_reducible rfl)
  try simp only [Act.put, List.setIfInBounds_toArray, List.set_cons_zero, List.set_cons_succ]
  refine wpAnyH_take (i := 6) (oi := { dst := some 91, op := Go.Op.move (Go.Operand.tmp 17), type := 28, pos := "more.go:49", after := #[{ on := 5, ground := Go.Ground.guard }], guard := some (5, true) }) (v := ?v6) rfl (by kernel_rfl) (by kernel_rfl) (by kernel_rfl) (fun _ _ _ h => h) (Or.inl ⟨by rfl, ?hy6⟩) (by assumption) ?rest6
  case hy6 => (intro w hSw; (try dsimp only at hSw); go_simp <;> with_reducible rfl)
  try simp only [Act.put, List.setIfInBounds_toArray, List.set_cons_zero, List.set_cons_succ]
  refine wpAnyH_take (i := 7) (oi := { dst := some 92, op := Go.Op.binOp Go.BinOp.eql 28 (Go.Operand.tmp 91) (Go.Operand.const Go.Value.nilIface) 28, type := 4, pos := "more.go:49", after := #[{ on := 6, ground := Go.Ground.data }, { on := 5, ground := Go.Ground.guard }], guard := some (5, true) }) (v := ?v7) rfl (by kernel_rfl) (by kernel_rfl) (by kernel_rfl) (fun _ _ _ h => h) (Or.inl ⟨by rfl, ?hy7⟩) (by assumption) ?rest7
  case hy7 => (intro w hSw; (try dsimp only at hSw); go_simp <;> with_reducible rfl)
  try simp only [Act.put, List.setIfInBounds_toArray, List.set_cons_zero, List.set_cons_succ]
  refine wpAnyH_take (i := 8) (oi := { dst := some 93, op := Go.Op.pick (Go.Operand.tmp 90) (Go.Operand.tmp 92) (Go.Operand.const (Go.Value.bool false)), type := 4, pos := "more.go:49", after := #[{ on := 5, ground := Go.Ground.data }, { on := 7, ground := Go.Ground.data }], guard := none }) (v := ?v8) rfl (by kernel_rfl) (by kernel_rfl) (by kernel_rfl) (fun _ _ _ h => h) (Or.inl ⟨by rfl, ?hy8⟩) (by assumption) ?rest8
  case hy8 => (intro w hSw; (try dsimp only at hSw); go_simp <;> with_reducible rfl)
  try simp only [Act.put, List.setIfInBounds_toArray, List.set_cons_zero, List.set_cons_succ]
  refine wpAnyH_take (i := 9) (oi := { dst := some 94, op := Go.Op.move (Go.Operand.tmp 93), type := 4, pos := "more.go:49", after := #[{ on := 8, ground := Go.Ground.data }, { on := 5, ground := Go.Ground.chain }], guard := none }) (v := ?v9) rfl (by kernel_rfl) (by kernel_rfl) (by kernel_rfl) (fun _ _ _ h => h) (Or.inl ⟨by rfl, ?hy9⟩) (by assumption) ?rest9
  case hy9 => (intro w hSw; (try dsimp only at hSw); go_simp <;> with_reducible rfl)
  try simp only [Act.put, List.setIfInBounds_toArray, List.set_cons_zero, List.set_cons_succ]
  refine wpAnyH_take (i := 10) (oi := { dst := some 95, op := Go.Op.move (Go.Operand.tmp 19), type := 28, pos := "more.go:49", after := #[{ on := 9, ground := Go.Ground.guard }], guard := some (9, true) }) (v := ?v10) rfl (by kernel_rfl) (by kernel_rfl) (by kernel_rfl) (fun _ _ _ h => h) (Or.inl ⟨by rfl, ?hy10⟩) (by assumption) ?rest10
  case hy10 => (intro w hSw; (try dsimp only at hSw); go_simp <;> with_reducible rfl)
  try simp only [Act.put, List.setIfInBounds_toArray, List.set_cons_zero, List.set_cons_succ]
  refine wpAnyH_take (i := 11) (oi := { dst := some 96, op := Go.Op.binOp Go.BinOp.eql 28 (Go.Operand.tmp 95) (Go.Operand.const Go.Value.nilIface) 28, type := 4, pos := "more.go:49", after := #[{ on := 10, ground := Go.Ground.data }, { on := 9, ground := Go.Ground.guard }], guard := some (9, true) }) (v := ?v11) rfl (by kernel_rfl) (by kernel_rfl) (by kernel_rfl) (fun _ _ _ h => h) (Or.inl ⟨by rfl, ?hy11⟩) (by assumption) ?rest11
  case hy11 => (intro w hSw; (try dsimp only at hSw); go_simp <;> with_reducible rfl)
  try simp only [Act.put, List.setIfInBounds_toArray, List.set_cons_zero, List.set_cons_succ]
  refine wpAnyH_take (i := 12) (oi := { dst := some 97, op := Go.Op.pick (Go.Operand.tmp 94) (Go.Operand.tmp 96) (Go.Operand.const (Go.Value.bool false)), type := 4, pos := "more.go:49", after := #[{ on := 9, ground := Go.Ground.data }, { on := 11, ground := Go.Ground.data }], guard := none }) (v := ?v12) rfl (by kernel_rfl) (by kernel_rfl) (by kernel_rfl) (fun _ _ _ h => h) (Or.inl ⟨by rfl, ?hy12⟩) (by assumption) ?rest12
  case hy12 => (intro w hSw; (try dsimp only at hSw); go_simp <;> with_reducible rfl)
  try simp only [Act.put, List.setIfInBounds_toArray, List.set_cons_zero, List.set_cons_succ]
  refine wpAnyH_take (i := 13) (oi := { dst := some 98, op := Go.Op.move (Go.Operand.tmp 97), type := 4, pos := "more.go:49", after := #[{ on := 12, ground := Go.Ground.data }, { on := 9, ground := Go.Ground.chain }], guard := none }) (v := ?v13) rfl (by kernel_rfl) (by kernel_rfl) (by kernel_rfl) (fun _ _ _ h => h) (Or.inl ⟨by rfl, ?hy13⟩) (by assumption) ?rest13
  case hy13 => (intro w hSw; (try dsimp only at hSw); go_simp <;> with_reducible rfl)
  try simp only [Act.put, List.setIfInBounds_toArray, List.set_cons_zero, List.set_cons_succ]
  refine wpAnyH_take (i := 14) (oi := { dst := some 99, op := Go.Op.move (Go.Operand.tmp 21), type := 28, pos := "more.go:49", after := #[{ on := 13, ground := Go.Ground.guard }], guard := some (13, true) }) (v := ?v14) rfl (by kernel_rfl) (by kernel_rfl) (by kernel_rfl) (fun _ _ _ h => h) (Or.inl ⟨by rfl, ?hy14⟩) (by assumption) ?rest14
  case hy14 => (intro w hSw; (try dsimp only at hSw); go_simp <;> with_reducible rfl)
  try simp only [Act.put, List.setIfInBounds_toArray, List.set_cons_zero, List.set_cons_succ]
  refine wpAnyH_take (i := 15) (oi := { dst := some 100, op := Go.Op.binOp Go.BinOp.eql 28 (Go.Operand.tmp 99) (Go.Operand.const Go.Value.nilIface) 28, type := 4, pos := "more.go:49", after := #[{ on := 14, ground := Go.Ground.data }, { on := 13, ground := Go.Ground.guard }], guard := some (13, true) }) (v := ?v15) rfl (by kernel_rfl) (by kernel_rfl) (by kernel_rfl) (fun _ _ _ h => h) (Or.inl ⟨by rfl, ?hy15⟩) (by assumption) ?rest15
  case hy15 => (intro w hSw; (try dsimp only at hSw); go_simp <;> with_reducible rfl)
  try simp only [Act.put, List.setIfInBounds_toArray, List.set_cons_zero, List.set_cons_succ]
  refine wpAnyH_take (i := 16) (oi := { dst := some 101, op := Go.Op.pick (Go.Operand.tmp 98) (Go.Operand.tmp 100) (Go.Operand.const (Go.Value.bool false)), type := 4, pos := "more.go:49", after := #[{ on := 13, ground := Go.Ground.data }, { on := 15, ground := Go.Ground.data }], guard := none }) (v := ?v16) rfl (by kernel_rfl) (by kernel_rfl) (by kernel_rfl) (fun _ _ _ h => h) (Or.inl ⟨by rfl, ?hy16⟩) (by assumption) ?rest16
  case hy16 => (intro w hSw; (try dsimp only at hSw); go_simp <;> with_reducible rfl)
  try simp only [Act.put, List.setIfInBounds_toArray, List.set_cons_zero, List.set_cons_succ]
  refine wpAnyH_take (i := 17) (oi := { dst := some 102, op := Go.Op.move (Go.Operand.tmp 101), type := 4, pos := "more.go:49", after := #[{ on := 16, ground := Go.Ground.data }, { on := 13, ground := Go.Ground.chain }], guard := none }) (v := ?v17) rfl (by kernel_rfl) (by kernel_rfl) (by kernel_rfl) (fun _ _ _ h => h) (Or.inl ⟨by rfl, ?hy17⟩) (by assumption) ?rest17
  case hy17 => (intro w hSw; (try dsimp only at hSw); go_simp <;> with_reducible rfl)
  try simp only [Act.put, List.setIfInBounds_toArray, List.set_cons_zero, List.set_cons_succ]
  refine wpAnyH_take (i := 18) (oi := { dst := some 103, op := Go.Op.move (Go.Operand.tmp 23), type := 28, pos := "more.go:49", after := #[{ on := 17, ground := Go.Ground.guard }], guard := some (17, true) }) (v := ?v18) rfl (by kernel_rfl) (by kernel_rfl) (by kernel_rfl) (fun _ _ _ h => h) (Or.inl ⟨by rfl, ?hy18⟩) (by assumption) ?rest18
  case hy18 => (intro w hSw; (try dsimp only at hSw); go_simp <;> with_reducible rfl)
  try simp only [Act.put, List.setIfInBounds_toArray, List.set_cons_zero, List.set_cons_succ]
  refine wpAnyH_take (i := 19) (oi := { dst := some 104, op := Go.Op.binOp Go.BinOp.eql 28 (Go.Operand.tmp 103) (Go.Operand.const Go.Value.nilIface) 28, type := 4, pos := "more.go:49", after := #[{ on := 18, ground := Go.Ground.data }, { on := 17, ground := Go.Ground.guard }], guard := some (17, true) }) (v := ?v19) rfl (by kernel_rfl) (by kernel_rfl) (by kernel_rfl) (fun _ _ _ h => h) (Or.inl ⟨by rfl, ?hy19⟩) (by assumption) ?rest19
  case hy19 => (intro w hSw; (try dsimp only at hSw); go_simp <;> with_reducible rfl)
  try simp only [Act.put, List.setIfInBounds_toArray, List.set_cons_zero, List.set_cons_succ]
  refine wpAnyH_take (i := 20) (oi := { dst := some 105, op := Go.Op.pick (Go.Operand.tmp 102) (Go.Operand.tmp 104) (Go.Operand.const (Go.Value.bool false)), type := 4, pos := "more.go:49", after := #[{ on := 17, ground := Go.Ground.data }, { on := 19, ground := Go.Ground.data }], guard := none }) (v := ?v20) rfl (by kernel_rfl) (by kernel_rfl) (by kernel_rfl) (fun _ _ _ h => h) (Or.inl ⟨by rfl, ?hy20⟩) (by assumption) ?rest20
  case hy20 => (intro w hSw; (try dsimp only at hSw); go_simp <;> with_reducible rfl)
  try simp only [Act.put, List.setIfInBounds_toArray, List.set_cons_zero, List.set_cons_succ]
  refine wpAnyH_take (i := 21) (oi := { dst := some 106, op := Go.Op.move (Go.Operand.tmp 105), type := 4, pos := "more.go:49", after := #[{ on := 20, ground := Go.Ground.data }, { on := 17, ground := Go.Ground.chain }], guard := none }) (v := ?v21) rfl (by kernel_rfl) (by kernel_rfl) (by kernel_rfl) (fun _ _ _ h => h) (Or.inl ⟨by rfl, ?hy21⟩) (by assumption) ?rest21
  case hy21 => (intro w hSw; (try dsimp only at hSw); go_simp <;> with_reducible rfl)
  try simp only [Act.put, List.setIfInBounds_toArray, List.set_cons_zero, List.set_cons_succ]
  refine wpAnyH_take (i := 22) (oi := { dst := some 107, op := Go.Op.move (Go.Operand.tmp 14), type := 26, pos := "more.go:49", after := #[{ on := 21, ground := Go.Ground.guard }], guard := some (21, true) }) (v := ?v22) rfl (by kernel_rfl) (by kernel_rfl) (by kernel_rfl) (fun _ _ _ h => h) (Or.inl ⟨by rfl, ?hy22⟩) (by assumption) ?rest22
  case hy22 => (intro w hSw; (try dsimp only at hSw); go_simp <;> with_reducible rfl)
  try simp only [Act.put, List.setIfInBounds_toArray, List.set_cons_zero, List.set_cons_succ]
  refine wpAnyH_take (i := 23) (oi := { dst := some 108, op := Go.Op.move (Go.Operand.tmp 16), type := 31, pos := "more.go:49", after := #[{ on := 21, ground := Go.Ground.guard }], guard := some (21, true) }) (v := ?v23) rfl (by kernel_rfl) (by kernel_rfl) (by kernel_rfl) (fun _ _ _ h => h) (Or.inl ⟨by rfl, ?hy23⟩) (by assumption) ?rest23
  case hy23 => (intro w hSw; (try dsimp only at hSw); go_simp <;> with_reducible rfl)
  try simp only [Act.put, List.setIfInBounds_toArray, List.set_cons_zero, List.set_cons_succ]
  refine wpAnyH_take (i := 24) (oi := { dst := some 109, op := Go.Op.convert 31 26 (Go.Operand.tmp 108), type := 26, pos := "more.go:49", after := #[{ on := 23, ground := Go.Ground.data }, { on := 21, ground := Go.Ground.guard }], guard := some (21, true) }) (v := ?v24) rfl (by kernel_rfl) (by kernel_rfl) (by kernel_rfl) (fun _ _ _ h => h) (Or.inl ⟨by rfl, ?hy24⟩) (by assumption) ?rest24
  case hy24 => (intro w hSw; (try dsimp only at hSw); go_simp <;> with_reducible rfl)
  try simp only [Act.put, List.setIfInBounds_toArray, List.set_cons_zero, List.set_cons_succ]
  refine wpAnyH_take (i := 25) (oi := { dst := some 110, op := Go.Op.binOp Go.BinOp.shl 26 (Go.Operand.tmp 109) (Go.Operand.const (Go.Value.int Go.IntKind.u64 16)) 42, type := 26, pos := "more.go:49", after := #[{ on := 24, ground := Go.Ground.data }, { on := 21, ground := Go.Ground.guard }], guard := some (21, true) }) (v := ?v25) rfl (by kernel_rfl) (by kernel_rfl) (by kernel_rfl) (fun _ _ _ h => h) (Or.inl ⟨by rfl, ?hy25⟩) (by assumption) ?rest25
  case hy25 => (intro w hSw; (try dsimp only at hSw); go_simp <;> with_reducible rfl)
  try simp only [Act.put, List.setIfInBounds_toArray, List.set_cons_zero, List.set_cons_succ]
  refine wpAnyH_take (i := 26) (oi := { dst := some 111, op := Go.Op.move (Go.Operand.tmp 18), type := 31, pos := "more.go:49", after := #[{ on := 21, ground := Go.Ground.guard }], guard := some (21, true) }) (v := ?v26) rfl (by kernel_rfl) (by kernel_rfl) (by kernel_rfl) (fun _ _ _ h => h) (Or.inl ⟨by rfl, ?hy26⟩) (by assumption) ?rest26
  case hy26 => (intro w hSw; (try dsimp only at hSw); go_simp <;> with_reducible rfl)
  try simp only [Act.put, List.setIfInBounds_toArray, List.set_cons_zero, List.set_cons_succ]
  refine wpAnyH_take (i := 27) (oi := { dst := some 112, op := Go.Op.convert 31 26 (Go.Operand.tmp 111), type := 26, pos := "more.go:49", after := #[{ on := 26, ground := Go.Ground.data }, { on := 21, ground := Go.Ground.guard }], guard := some (21, true) }) (v := ?v27) rfl (by kernel_rfl) (by kernel_rfl) (by kernel_rfl) (fun _ _ _ h => h) (Or.inl ⟨by rfl, ?hy27⟩) (by assumption) ?rest27
  case hy27 => (intro w hSw; (try dsimp only at hSw); go_simp <;> with_reducible rfl)
  try simp only [Act.put, List.setIfInBounds_toArray, List.set_cons_zero, List.set_cons_succ]
  refine wpAnyH_take (i := 28) (oi := { dst := some 113, op := Go.Op.binOp Go.BinOp.add 26 (Go.Operand.tmp 110) (Go.Operand.tmp 112) 26, type := 26, pos := "more.go:49", after := #[{ on := 25, ground := Go.Ground.data }, { on := 27, ground := Go.Ground.data }, { on := 21, ground := Go.Ground.guard }], guard := some (21, true) }) (v := ?v28) rfl (by kernel_rfl) (by kernel_rfl) (by kernel_rfl) (fun _ _ _ h => h) (Or.inl ⟨by rfl, ?hy28⟩) (by assumption) ?rest28
  case hy28 => (intro w hSw; (try dsimp only at hSw); go_simp <;> with_reducible rfl)
  try simp only [Act.put, List.setIfInBounds_toArray, List.set_cons_zero, List.set_cons_succ]
  refine wpAnyH_take (i := 29) (oi := { dst := some 114, op := Go.Op.binOp Go.BinOp.eql 26 (Go.Operand.tmp 107) (Go.Operand.tmp 113) 26, type := 4, pos := "more.go:49", after := #[{ on := 22, ground := Go.Ground.data }, { on := 28, ground := Go.Ground.data }, { on := 21, ground := Go.Ground.guard }], guard := some (21, true) }) (v := ?v29) rfl (by kernel_rfl) (by kernel_rfl) (by kernel_rfl) (fun _ _ _ h => h) (Or.inl ⟨by rfl, ?hy29⟩) (by assumption) ?rest29
  case hy29 => (intro w hSw; (try dsimp only at hSw); go_simp <;> with_reducible rfl)
  try simp only [Act.put, List.setIfInBounds_toArray, List.set_cons_zero, List.set_cons_succ]
  refine wpAnyH_take (i := 30) (oi := { dst := some 115, op := Go.Op.pick (Go.Operand.tmp 106) (Go.Operand.tmp 114) (Go.Operand.const (Go.Value.bool false)), type := 4, pos := "more.go:49", after := #[{ on := 21, ground := Go.Ground.data }, { on := 29, ground := Go.Ground.data }], guard := none }) (v := ?v30) rfl (by kernel_rfl) (by kernel_rfl) (by kernel_rfl) (fun _ _ _ h => h) (Or.inl ⟨by rfl, ?hy30⟩) (by assumption) ?rest30
  case hy30 => (intro w hSw; (try dsimp only at hSw); go_simp <;> with_reducible rfl)
  try simp only [Act.put, List.setIfInBounds_toArray, List.set_cons_zero, List.set_cons_succ]
  refine wpAnyH_take (i := 31) (oi := { dst := some 116, op := Go.Op.move (Go.Operand.tmp 115), type := 4, pos := "more.go:49", after := #[{ on := 30, ground := Go.Ground.data }, { on := 21, ground := Go.Ground.chain }], guard := none }) (v := ?v31) rfl (by kernel_rfl) (by kernel_rfl) (by kernel_rfl) (fun _ _ _ h => h) (Or.inl ⟨by rfl, ?hy31⟩) (by assumption) ?rest31
  case hy31 => (intro w hSw; (try dsimp only at hSw); go_simp <;> with_reducible rfl)
  try simp only [Act.put, List.setIfInBounds_toArray, List.set_cons_zero, List.set_cons_succ]
  refine wpAnyH_take (i := 32) (oi := { dst := some 117, op := Go.Op.move (Go.Operand.tmp 16), type := 31, pos := "more.go:49", after := #[{ on := 31, ground := Go.Ground.guard }], guard := some (31, true) }) (v := ?v32) rfl (by kernel_rfl) (by kernel_rfl) (by kernel_rfl) (fun _ _ _ h => h) (Or.inl ⟨by rfl, ?hy32⟩) (by assumption) ?rest32
  case hy32 => (intro w hSw; (try dsimp only at hSw); go_simp <;> with_reducible rfl)
  try simp only [Act.put, List.setIfInBounds_toArray, List.set_cons_zero, List.set_cons_succ]
  refine wpAnyH_take (i := 33) (oi := { dst := some 118, op := Go.Op.move (Go.Operand.tmp 0), type := 5, pos := "more.go:49", after := #[{ on := 31, ground := Go.Ground.guard }], guard := some (31, true) }) (v := ?v33) rfl (by kernel_rfl) (by kernel_rfl) (by kernel_rfl) (fun _ _ _ h => h) (Or.inl ⟨by rfl, ?hy33⟩) (by assumption) ?rest33
  case hy33 => (intro w hSw; (try dsimp only at hSw); go_simp <;> with_reducible rfl)
  try simp only [Act.put, List.setIfInBounds_toArray, List.set_cons_zero, List.set_cons_succ]
  refine wpAnyH_take (i := 34) (oi := { dst := some 119, op := Go.Op.convert 5 31 (Go.Operand.tmp 118), type := 31, pos := "more.go:49", after := #[{ on := 33, ground := Go.Ground.data }, { on := 31, ground := Go.Ground.guard }], guard := some (31, true) }) (v := ?v34) rfl (by kernel_rfl) (by kernel_rfl) (by kernel_rfl) (fun _ _ _ h => h) (Or.inl ⟨by rfl, ?hy34⟩) (by assumption) ?rest34
  case hy34 => (intro w hSw; (try dsimp only at hSw); go_simp <;> with_reducible rfl)
  try simp only [Act.put, List.setIfInBounds_toArray, List.set_cons_zero, List.set_cons_succ]
  refine wpAnyH_take (i := 35) (oi := { dst := some 120, op := Go.Op.binOp Go.BinOp.shl 31 (Go.Operand.tmp 119) (Go.Operand.const (Go.Value.int Go.IntKind.u64 8)) 42, type := 31, pos := "more.go:49", after := #[{ on := 34, ground := Go.Ground.data }, { on := 31, ground := Go.Ground.guard }], guard := some (31, true) }) (v := ?v35) rfl (by kernel_rfl) (by kernel_rfl) (by kernel_rfl) (fun _ _ _ h => h) (Or.inl ⟨by rfl, ?hy35⟩) (by assumption) ?rest35
  case hy35 => (intro w hSw; (try dsimp only at hSw); go_simp <;> with_reducible rfl)
  try simp only [Act.put, List.setIfInBounds_toArray, List.set_cons_zero, List.set_cons_succ]
  refine wpAnyH_take (i := 36) (oi := { dst := some 121, op := Go.Op.move (Go.Operand.tmp 1), type := 5, pos := "more.go:49", after := #[{ on := 31, ground := Go.Ground.guard }], guard := some (31, true) }) (v := ?v36) rfl (by kernel_rfl) (by kernel_rfl) (by kernel_rfl) (fun _ _ _ h => h) (Or.inl ⟨by rfl, ?hy36⟩) (by assumption) ?rest36
  case hy36 => (intro w hSw; (try dsimp only at hSw); go_simp <;> with_reducible rfl)
  try simp only [Act.put, List.setIfInBounds_toArray, List.set_cons_zero, List.set_cons_succ]
  refine wpAnyH_take (i := 37) (oi := { dst := some 122, op := Go.Op.convert 5 31 (Go.Operand.tmp 121), type := 31, pos := "more.go:49", after := #[{ on := 36, ground := Go.Ground.data }, { on := 31, ground := Go.Ground.guard }], guard := some (31, true) }) (v := ?v37) rfl (by kernel_rfl) (by kernel_rfl) (by kernel_rfl) (fun _ _ _ h => h) (Or.inl ⟨by rfl, ?hy37⟩) (by assumption) ?rest37
  case hy37 => (intro w hSw; (try dsimp only at hSw); go_simp <;> with_reducible rfl)
  try simp only [Act.put, List.setIfInBounds_toArray, List.set_cons_zero, List.set_cons_succ]
  refine wpAnyH_take (i := 38) (oi := { dst := some 123, op := Go.Op.binOp Go.BinOp.add 31 (Go.Operand.tmp 120) (Go.Operand.tmp 122) 31, type := 31, pos := "more.go:49", after := #[{ on := 35, ground := Go.Ground.data }, { on := 37, ground := Go.Ground.data }, { on := 31, ground := Go.Ground.guard }], guard := some (31, true) }) (v := ?v38) rfl (by kernel_rfl) (by kernel_rfl) (by kernel_rfl) (fun _ _ _ h => h) (Or.inl ⟨by rfl, ?hy38⟩) (by assumption) ?rest38
  case hy38 => (intro w hSw; (try dsimp only at hSw); go_simp <;> with_reducible rfl)
  try simp only [Act.put, List.setIfInBounds_toArray, List.set_cons_zero, List.set_cons_succ]
  refine wpAnyH_take (i := 39) (oi := { dst := some 124, op := Go.Op.binOp Go.BinOp.eql 31 (Go.Operand.tmp 117) (Go.Operand.tmp 123) 31, type := 4, pos := "more.go:49", after := #[{ on := 32, ground := Go.Ground.data }, { on := 38, ground := Go.Ground.data }, { on := 31, ground := Go.Ground.guard }], guard := some (31, true) }) (v := ?v39) rfl (by kernel_rfl) (by kernel_rfl) (by kernel_rfl) (fun _ _ _ h => h) (Or.inl ⟨by rfl, ?hy39⟩) (by assumption) ?rest39
  case hy39 => (intro w hSw; (try dsimp only at hSw); go_simp <;> with_reducible rfl)
  try simp only [Act.put, List.setIfInBounds_toArray, List.set_cons_zero, List.set_cons_succ]
  refine wpAnyH_take (i := 40) (oi := { dst := some 125, op := Go.Op.pick (Go.Operand.tmp 116) (Go.Operand.tmp 124) (Go.Operand.const (Go.Value.bool false)), type := 4, pos := "more.go:49", after := #[{ on := 31, ground := Go.Ground.data }, { on := 39, ground := Go.Ground.data }], guard := none }) (v := ?v40) rfl (by kernel_rfl) (by kernel_rfl) (by kernel_rfl) (fun _ _ _ h => h) (Or.inl ⟨by rfl, ?hy40⟩) (by assumption) ?rest40
  case hy40 => (intro w hSw; (try dsimp only at hSw); go_simp <;> with_reducible rfl)
  try simp only [Act.put, List.setIfInBounds_toArray, List.set_cons_zero, List.set_cons_succ]
  refine wpAnyH_take (i := 41) (oi := { dst := some 126, op := Go.Op.move (Go.Operand.tmp 125), type := 4, pos := "more.go:49", after := #[{ on := 40, ground := Go.Ground.data }, { on := 31, ground := Go.Ground.chain }], guard := none }) (v := ?v41) rfl (by kernel_rfl) (by kernel_rfl) (by kernel_rfl) (fun _ _ _ h => h) (Or.inl ⟨by rfl, ?hy41⟩) (by assumption) ?rest41
  case hy41 => (intro w hSw; (try dsimp only at hSw); go_simp <;> with_reducible rfl)
  try simp only [Act.put, List.setIfInBounds_toArray, List.set_cons_zero, List.set_cons_succ]
  refine wpAnyH_take (i := 42) (oi := { dst := some 127, op := Go.Op.move (Go.Operand.tmp 18), type := 31, pos := "more.go:49", after := #[{ on := 41, ground := Go.Ground.guard }], guard := some (41, true) }) (v := ?v42) rfl (by kernel_rfl) (by kernel_rfl) (by kernel_rfl) (fun _ _ _ h => h) (Or.inl ⟨by rfl, ?hy42⟩) (by assumption) ?rest42
  case hy42 => (intro w hSw; (try dsimp only at hSw); go_simp <;> with_reducible rfl)
  try simp only [Act.put, List.setIfInBounds_toArray, List.set_cons_zero, List.set_cons_succ]
  refine wpAnyH_take (i := 43) (oi := { dst := some 128, op := Go.Op.move (Go.Operand.tmp 2), type := 5, pos := "more.go:49", after := #[{ on := 41, ground := Go.Ground.guard }], guard := some (41, true) }) (v := ?v43) rfl (by kernel_rfl) (by kernel_rfl) (by kernel_rfl) (fun _ _ _ h => h) (Or.inl ⟨by rfl, ?hy43⟩) (by assumption) ?rest43
  case hy43 => (intro w hSw; (try dsimp only at hSw); go_simp <;> with_reducible rfl)
  try simp only [Act.put, List.setIfInBounds_toArray, List.set_cons_zero, List.set_cons_succ]
  refine wpAnyH_take (i := 44) (oi := { dst := some 129, op := Go.Op.convert 5 31 (Go.Operand.tmp 128), type := 31, pos := "more.go:49", after := #[{ on := 43, ground := Go.Ground.data }, { on := 41, ground := Go.Ground.guard }], guard := some (41, true) }) (v := ?v44) rfl (by kernel_rfl) (by kernel_rfl) (by kernel_rfl) (fun _ _ _ h => h) (Or.inl ⟨by rfl, ?hy44⟩) (by assumption) ?rest44
  case hy44 => (intro w hSw; (try dsimp only at hSw); go_simp <;> with_reducible rfl)
  try simp only [Act.put, List.setIfInBounds_toArray, List.set_cons_zero, List.set_cons_succ]
  refine wpAnyH_take (i := 45) (oi := { dst := some 130, op := Go.Op.binOp Go.BinOp.shl 31 (Go.Operand.tmp 129) (Go.Operand.const (Go.Value.int Go.IntKind.u64 8)) 42, type := 31, pos := "more.go:49", after := #[{ on := 44, ground := Go.Ground.data }, { on := 41, ground := Go.Ground.guard }], guard := some (41, true) }) (v := ?v45) rfl (by kernel_rfl) (by kernel_rfl) (by kernel_rfl) (fun _ _ _ h => h) (Or.inl ⟨by rfl, ?hy45⟩) (by assumption) ?rest45
  case hy45 => (intro w hSw; (try dsimp only at hSw); go_simp <;> with_reducible rfl)
  try simp only [Act.put, List.setIfInBounds_toArray, List.set_cons_zero, List.set_cons_succ]
  refine wpAnyH_take (i := 46) (oi := { dst := some 131, op := Go.Op.move (Go.Operand.tmp 3), type := 5, pos := "more.go:49", after := #[{ on := 41, ground := Go.Ground.guard }], guard := some (41, true) }) (v := ?v46) rfl (by kernel_rfl) (by kernel_rfl) (by kernel_rfl) (fun _ _ _ h => h) (Or.inl ⟨by rfl, ?hy46⟩) (by assumption) ?rest46
  case hy46 => (intro w hSw; (try dsimp only at hSw); go_simp <;> with_reducible rfl)
  try simp only [Act.put, List.setIfInBounds_toArray, List.set_cons_zero, List.set_cons_succ]
  refine wpAnyH_take (i := 47) (oi := { dst := some 132, op := Go.Op.convert 5 31 (Go.Operand.tmp 131), type := 31, pos := "more.go:49", after := #[{ on := 46, ground := Go.Ground.data }, { on := 41, ground := Go.Ground.guard }], guard := some (41, true) }) (v := ?v47) rfl (by kernel_rfl) (by kernel_rfl) (by kernel_rfl) (fun _ _ _ h => h) (Or.inl ⟨by rfl, ?hy47⟩) (by assumption) ?rest47
  case hy47 => (intro w hSw; (try dsimp only at hSw); go_simp <;> with_reducible rfl)
  try simp only [Act.put, List.setIfInBounds_toArray, List.set_cons_zero, List.set_cons_succ]
  refine wpAnyH_take (i := 48) (oi := { dst := some 133, op := Go.Op.binOp Go.BinOp.add 31 (Go.Operand.tmp 130) (Go.Operand.tmp 132) 31, type := 31, pos := "more.go:49", after := #[{ on := 45, ground := Go.Ground.data }, { on := 47, ground := Go.Ground.data }, { on := 41, ground := Go.Ground.guard }], guard := some (41, true) }) (v := ?v48) rfl (by kernel_rfl) (by kernel_rfl) (by kernel_rfl) (fun _ _ _ h => h) (Or.inl ⟨by rfl, ?hy48⟩) (by assumption) ?rest48
  case hy48 => (intro w hSw; (try dsimp only at hSw); go_simp <;> with_reducible rfl)
  try simp only [Act.put, List.setIfInBounds_toArray, List.set_cons_zero, List.set_cons_succ]
  refine wpAnyH_take (i := 49) (oi := { dst := some 134, op := Go.Op.binOp Go.BinOp.eql 31 (Go.Operand.tmp 127) (Go.Operand.tmp 133) 31, type := 4, pos := "more.go:49", after := #[{ on := 42, ground := Go.Ground.data }, { on := 48, ground := Go.Ground.data }, { on := 41, ground := Go.Ground.guard }], guard := some (41, true) }) (v := ?v49) rfl (by kernel_rfl) (by kernel_rfl) (by kernel_rfl) (fun _ _ _ h => h) (Or.inl ⟨by rfl, ?hy49⟩) (by assumption) ?rest49
  case hy49 => (intro w hSw; (try dsimp only at hSw); go_simp <;> with_reducible rfl)
  try simp only [Act.put, List.setIfInBounds_toArray, List.set_cons_zero, List.set_cons_succ]
  refine wpAnyH_take (i := 50) (oi := { dst := some 135, op := Go.Op.pick (Go.Operand.tmp 126) (Go.Operand.tmp 134) (Go.Operand.const (Go.Value.bool false)), type := 4, pos := "more.go:49", after := #[{ on := 41, ground := Go.Ground.data }, { on := 49, ground := Go.Ground.data }], guard := none }) (v := ?v50) rfl (by kernel_rfl) (by kernel_rfl) (by kernel_rfl) (fun _ _ _ h => h) (Or.inl ⟨by rfl, ?hy50⟩) (by assumption) ?rest50
  case hy50 => (intro w hSw; (try dsimp only at hSw); go_simp <;> with_reducible rfl)
  try simp only [Act.put, List.setIfInBounds_toArray, List.set_cons_zero, List.set_cons_succ]
  refine wpAnyH_take (i := 51) (oi := { dst := some 136, op := Go.Op.move (Go.Operand.tmp 135), type := 4, pos := "more.go:49", after := #[{ on := 50, ground := Go.Ground.data }, { on := 41, ground := Go.Ground.chain }], guard := none }) (v := ?v51) rfl (by kernel_rfl) (by kernel_rfl) (by kernel_rfl) (fun _ _ _ h => h) (Or.inl ⟨by rfl, ?hy51⟩) (by assumption) ?rest51
  case hy51 => (intro w hSw; (try dsimp only at hSw); go_simp <;> with_reducible rfl)
  try simp only [Act.put, List.setIfInBounds_toArray, List.set_cons_zero, List.set_cons_succ]
  refine wpAnyH_take (i := 52) (oi := { dst := some 137, op := Go.Op.move (Go.Operand.tmp 20), type := 5, pos := "more.go:49", after := #[{ on := 51, ground := Go.Ground.guard }], guard := some (51, true) }) (v := ?v52) rfl (by kernel_rfl) (by kernel_rfl) (by kernel_rfl) (fun _ _ _ h => h) (Or.inl ⟨by rfl, ?hy52⟩) (by assumption) ?rest52
  case hy52 => (intro w hSw; (try dsimp only at hSw); go_simp <;> with_reducible rfl)
  try simp only [Act.put, List.setIfInBounds_toArray, List.set_cons_zero, List.set_cons_succ]
  refine wpAnyH_take (i := 53) (oi := { dst := some 138, op := Go.Op.move (Go.Operand.tmp 0), type := 5, pos := "more.go:49", after := #[{ on := 51, ground := Go.Ground.guard }], guard := some (51, true) }) (v := ?v53) rfl (by kernel_rfl) (by kernel_rfl) (by kernel_rfl) (fun _ _ _ h => h) (Or.inl ⟨by rfl, ?hy53⟩) (by assumption) ?rest53
  case hy53 => (intro w hSw; (try dsimp only at hSw); go_simp <;> with_reducible rfl)
  try simp only [Act.put, List.setIfInBounds_toArray, List.set_cons_zero, List.set_cons_succ]
  refine wpAnyH_take (i := 54) (oi := { dst := some 139, op := Go.Op.binOp Go.BinOp.eql 5 (Go.Operand.tmp 137) (Go.Operand.tmp 138) 5, type := 4, pos := "more.go:49", after := #[{ on := 52, ground := Go.Ground.data }, { on := 53, ground := Go.Ground.data }, { on := 51, ground := Go.Ground.guard }], guard := some (51, true) }) (v := ?v54) rfl (by kernel_rfl) (by kernel_rfl) (by kernel_rfl) (fun _ _ _ h => h) (Or.inl ⟨by rfl, ?hy54⟩) (by assumption) ?rest54
  case hy54 => (intro w hSw; (try dsimp only at hSw); go_simp <;> with_reducible rfl)
  try simp only [Act.put, List.setIfInBounds_toArray, List.set_cons_zero, List.set_cons_succ]
  refine wpAnyH_take (i := 55) (oi := { dst := some 140, op := Go.Op.pick (Go.Operand.tmp 136) (Go.Operand.tmp 139) (Go.Operand.const (Go.Value.bool false)), type := 4, pos := "more.go:49", after := #[{ on := 51, ground := Go.Ground.data }, { on := 54, ground := Go.Ground.data }], guard := none }) (v := ?v55) rfl (by kernel_rfl) (by kernel_rfl) (by kernel_rfl) (fun _ _ _ h => h) (Or.inl ⟨by rfl, ?hy55⟩) (by assumption) ?rest55
  case hy55 => (intro w hSw; (try dsimp only at hSw); go_simp <;> with_reducible rfl)
  try simp only [Act.put, List.setIfInBounds_toArray, List.set_cons_zero, List.set_cons_succ]
  refine wpAnyH_take (i := 56) (oi := { dst := some 141, op := Go.Op.move (Go.Operand.tmp 140), type := 4, pos := "more.go:49", after := #[{ on := 55, ground := Go.Ground.data }, { on := 51, ground := Go.Ground.chain }], guard := none }) (v := ?v56) rfl (by kernel_rfl) (by kernel_rfl) (by kernel_rfl) (fun _ _ _ h => h) (Or.inl ⟨by rfl, ?hy56⟩) (by assumption) ?rest56
  case hy56 => (intro w hSw; (try dsimp only at hSw); go_simp <;> with_reducible rfl)
  try simp only [Act.put, List.setIfInBounds_toArray, List.set_cons_zero, List.set_cons_succ]
  refine wpAnyH_take (i := 57) (oi := { dst := some 142, op := Go.Op.move (Go.Operand.tmp 22), type := 5, pos := "more.go:49", after := #[{ on := 56, ground := Go.Ground.guard }], guard := some (56, true) }) (v := ?v57) rfl (by kernel_rfl) (by kernel_rfl) (by kernel_rfl) (fun _ _ _ h => h) (Or.inl ⟨by rfl, ?hy57⟩) (by assumption) ?rest57
  case hy57 => (intro w hSw; (try dsimp only at hSw); go_simp <;> with_reducible rfl)
  try simp only [Act.put, List.setIfInBounds_toArray, List.set_cons_zero, List.set_cons_succ]
  refine wpAnyH_take (i := 58) (oi := { dst := some 143, op := Go.Op.move (Go.Operand.tmp 1), type := 5, pos := "more.go:49", after := #[{ on := 56, ground := Go.Ground.guard }], guard := some (56, true) }) (v := ?v58) rfl (by kernel_rfl) (by kernel_rfl) (by kernel_rfl) (fun _ _ _ h => h) (Or.inl ⟨by rfl, ?hy58⟩) (by assumption) ?rest58
  case hy58 => (intro w hSw; (try dsimp only at hSw); go_simp <;> with_reducible rfl)
  try simp only [Act.put, List.setIfInBounds_toArray, List.set_cons_zero, List.set_cons_succ]
  refine wpAnyH_take (i := 59) (oi := { dst := some 144, op := Go.Op.binOp Go.BinOp.eql 5 (Go.Operand.tmp 142) (Go.Operand.tmp 143) 5, type := 4, pos := "more.go:49", after := #[{ on := 57, ground := Go.Ground.data }, { on := 58, ground := Go.Ground.data }, { on := 56, ground := Go.Ground.guard }], guard := some (56, true) }) (v := ?v59) rfl (by kernel_rfl) (by kernel_rfl) (by kernel_rfl) (fun _ _ _ h => h) (Or.inl ⟨by rfl, ?hy59⟩) (by assumption) ?rest59
  case hy59 => (intro w hSw; (try dsimp only at hSw); go_simp <;> with_reducible rfl)
  try simp only [Act.put, List.setIfInBounds_toArray, List.set_cons_zero, List.set_cons_succ]
  refine wpAnyH_take (i := 60) (oi := { dst := some 145, op := Go.Op.pick (Go.Operand.tmp 141) (Go.Operand.tmp 144) (Go.Operand.const (Go.Value.bool false)), type := 4, pos := "more.go:49", after := #[{ on := 56, ground := Go.Ground.data }, { on := 59, ground := Go.Ground.data }], guard := none }) (v := ?v60) rfl (by kernel_rfl) (by kernel_rfl) (by kernel_rfl) (fun _ _ _ h => h) (Or.inl ⟨by rfl, ?hy60⟩) (by assumption) ?rest60
  case hy60 => (intro w hSw; (try dsimp only at hSw); go_simp <;> with_reducible rfl)
  try simp only [Act.put, List.setIfInBounds_toArray, List.set_cons_zero, List.set_cons_succ]
  refine wpAnyH_take (i := 61) (oi := { dst := some 146, op := Go.Op.move (Go.Operand.tmp 145), type := 4, pos := "more.go:49", after := #[{ on := 60, ground := Go.Ground.data }, { on := 56, ground := Go.Ground.chain }], guard := none }) (v := ?v61) rfl (by kernel_rfl) (by kernel_rfl) (by kernel_rfl) (fun _ _ _ h => h) (Or.inl ⟨by rfl, ?hy61⟩) (by assumption) ?rest61
  case hy61 => (intro w hSw; (try dsimp only at hSw); go_simp <;> with_reducible rfl)
  try simp only [Act.put, List.setIfInBounds_toArray, List.set_cons_zero, List.set_cons_succ]
  refine wpAnyH_take (i := 62) (oi := { dst := some 147, op := Go.Op.move (Go.Operand.tmp 24), type := 36, pos := "more.go:49", after := #[{ on := 61, ground := Go.Ground.guard }], guard := some (61, true) }) (v := ?v62) rfl (by kernel_rfl) (by kernel_rfl) (by kernel_rfl) (fun _ _ _ h => h) (Or.inl ⟨by rfl, ?hy62⟩) (by assumption) ?rest62
  case hy62 => (intro w hSw; (try dsimp only at hSw); go_simp <;> with_reducible rfl)
  try simp only [Act.put, List.setIfInBounds_toArray, List.set_cons_zero, List.set_cons_succ]
  refine wpAnyH_take (i := 65) (oi := { dst := some 150, op := Go.Op.move (Go.Operand.tmp 0), type := 5, pos := "more.go:49", after := #[{ on := 61, ground := Go.Ground.guard }], guard := some (61, true) }) (v := ?v65) rfl (by kernel_rfl) (by kernel_rfl) (by kernel_rfl) (fun _ _ _ h => h) (Or.inl ⟨by rfl, ?hy65⟩) (by assumption) ?rest65
  case hy65 => (intro w hSw; (try dsimp only at hSw); go_simp <;> with_reducible rfl)
  try simp only [Act.put, List.setIfInBounds_toArray, List.set_cons_zero, List.set_cons_succ]
  refine wpAnyH_take (i := 66) (oi := { dst := some 151, op := Go.Op.move (Go.Operand.tmp 1), type := 5, pos := "more.go:49", after := #[{ on := 61, ground := Go.Ground.guard }], guard := some (61, true) }) (v := ?v66) rfl (by kernel_rfl) (by kernel_rfl) (by kernel_rfl) (fun _ _ _ h => h) (Or.inl ⟨by rfl, ?hy66⟩) (by assumption) ?rest66
  case hy66 => (intro w hSw; (try dsimp only at hSw); go_simp <;> with_reducible rfl)
  try simp only [Act.put, List.setIfInBounds_toArray, List.set_cons_zero, List.set_cons_succ]
  refine wpAnyH_take (i := 67) (oi := { dst := some 152, op := Go.Op.move (Go.Operand.tmp 2), type := 5, pos := "more.go:49", after := #[{ on := 61, ground := Go.Ground.guard }], guard := some (61, true) }) (v := ?v67) rfl (by kernel_rfl) (by kernel_rfl) (by kernel_rfl) (fun _ _ _ h => h) (Or.inl ⟨by rfl, ?hy67⟩) (by assumption) ?rest67
  case hy67 => (intro w hSw; (try dsimp only at hSw); go_simp <;> with_reducible rfl)
  try simp only [Act.put, List.setIfInBounds_toArray, List.set_cons_zero, List.set_cons_succ]
  refine wpAnyH_take (i := 68) (oi := { dst := some 153, op := Go.Op.move (Go.Operand.tmp 3), type := 5, pos := "more.go:49", after := #[{ on := 61, ground := Go.Ground.guard }], guard := some (61, true) }) (v := ?v68) rfl (by kernel_rfl) (by kernel_rfl) (by kernel_rfl) (fun _ _ _ h => h) (Or.inl ⟨by rfl, ?hy68⟩) (by assumption) ?rest68
  case hy68 => (intro w hSw; (try dsimp only at hSw); go_simp <;> with_reducible rfl)
  try simp only [Act.put, List.setIfInBounds_toArray, List.set_cons_zero, List.set_cons_succ]
  refine wpAnyH_take (i := 69) (oi := { dst := some 154, op := Go.Op.move (Go.Operand.tmp 0), type := 5, pos := "more.go:49", after := #[{ on := 61, ground := Go.Ground.guard }], guard := some (61, true) }) (v := ?v69) rfl (by kernel_rfl) (by kernel_rfl) (by kernel_rfl) (fun _ _ _ h => h) (Or.inl ⟨by rfl, ?hy69⟩) (by assumption) ?rest69
  case hy69 => (intro w hSw; (try dsimp only at hSw); go_simp <;> with_reducible rfl)
  try simp only [Act.put, List.setIfInBounds_toArray, List.set_cons_zero, List.set_cons_succ]
  refine wpAnyH_take (i := 70) (oi := { dst := some 155, op := Go.Op.move (Go.Operand.tmp 1), type := 5, pos := "more.go:49", after := #[{ on := 61, ground := Go.Ground.guard }], guard := some (61, true) }) (v := ?v70) rfl (by kernel_rfl) (by kernel_rfl) (by kernel_rfl) (fun _ _ _ h => h) (Or.inl ⟨by rfl, ?hy70⟩) (by assumption) ?rest70
  case hy70 => (intro w hSw; (try dsimp only at hSw); go_simp <;> with_reducible rfl)
  try simp only [Act.put, List.setIfInBounds_toArray, List.set_cons_zero, List.set_cons_succ]
  refine wpAnyH_take (i := 71) (oi := { dst := some 156, op := Go.Op.move (Go.Operand.tmp 2), type := 5, pos := "more.go:49", after := #[{ on := 61, ground := Go.Ground.guard }], guard := some (61, true) }) (v := ?v71) rfl (by kernel_rfl) (by kernel_rfl) (by kernel_rfl) (fun _ _ _ h => h) (Or.inl ⟨by rfl, ?hy71⟩) (by assumption) ?rest71
  case hy71 => (intro w hSw; (try dsimp only at hSw); go_simp <;> with_reducible rfl)
  try simp only [Act.put, List.setIfInBounds_toArray, List.set_cons_zero, List.set_cons_succ]
  refine wpAnyH_take (i := 72) (oi := { dst := some 157, op := Go.Op.move (Go.Operand.tmp 3), type := 5, pos := "more.go:49", after := #[{ on := 61, ground := Go.Ground.guard }], guard := some (61, true) }) (v := ?v72) rfl (by kernel_rfl) (by kernel_rfl) (by kernel_rfl) (fun _ _ _ h => h) (Or.inl ⟨by rfl, ?hy72⟩) (by assumption) ?rest72
  case hy72 => (intro w hSw; (try dsimp only at hSw); go_simp <;> with_reducible rfl)
  try simp only [Act.put, List.setIfInBounds_toArray, List.set_cons_zero, List.set_cons_succ]
  refine wpAnyH_take (i := 73) (oi := { dst := some 158, op := Go.Op.move (Go.Operand.tmp 0), type := 5, pos := "more.go:49", after := #[{ on := 61, ground := Go.Ground.guard }], guard := some (61, true) }) (v := ?v73) rfl (by kernel_rfl) (by kernel_rfl) (by kernel_rfl) (fun _ _ _ h => h) (Or.inl ⟨by rfl, ?hy73⟩) (by assumption) ?rest73
  case hy73 => (intro w hSw; (try dsimp only at hSw); go_simp <;> with_reducible rfl)
  try simp only [Act.put, List.setIfInBounds_toArray, List.set_cons_zero, List.set_cons_succ]
  refine wpAnyH_take (i := 74) (oi := { dst := some 159, op := Go.Op.move (Go.Operand.tmp 1), type := 5, pos := "more.go:49", after := #[{ on := 61, ground := Go.Ground.guard }], guard := some (61, true) }) (v := ?v74) rfl (by kernel_rfl) (by kernel_rfl) (by kernel_rfl) (fun _ _ _ h => h) (Or.inl ⟨by rfl, ?hy74⟩) (by assumption) ?rest74
  case hy74 => (intro w hSw; (try dsimp only at hSw); go_simp <;> with_reducible rfl)
  try simp only [Act.put, List.setIfInBounds_toArray, List.set_cons_zero, List.set_cons_succ]
  have hS0 : Ex (fun _ => False) w16 w16.drew := (Ex.refl _ w16).drew
  refine wpAnyH_ready (rs := [63, 75]) (by kernel_rfl) (by simp) ?_
  refine AllReadyH.cons (o := { dst := some 148, op := Go.Op.call { callee := Go.Callee.value (Go.Operand.func 23), args := #[Go.Operand.tmp 147], argTypes := #[36] }, type := 23, pos := "more.go:49", after := #[{ on := 62, ground := Go.Ground.data }, { on := 61, ground := Go.Ground.chain }, { on := 61, ground := Go.Ground.guard }], guard := some (61, true) }) rfl (fun K hK => ?_) ?_
  · go_simp
    refine (wdone_any pw q16 [a, b, c, d, a, b, c, d, a, b] w16.drew (HW16.out.keep hS0 id (fun _ _ _ => id)) (by simp)).mono ?_
    rintro e w17 ⟨A1, c1, rfl, ho1, hxa1⟩
    refine hK.out _ _ (hS0.trans hxa1) (fun _ => ?_)
    have hS1 : Ex (fun _ => False) w16 w17 := hS0.trans hxa1
    have hv1 : ∀ W, Ex (fun _ => False) w17 W → (convert 23 9 (.slice (some A1) 10 c1)).run Tryd.prog W = .ok (.string (bs [a, b, c, d, a, b, c, d, a, b])) W := conv_later ho1.rb.any
    have hr1 := Ex.refl (fun _ => False) w17
    refine wpAnyH_strong (S' := fun W => Ex (fun _ => False) w17 W) (fun W h => hS1.trans h) _ _ _ _ ?_
    refine wpAnyH_take (i := 64) (oi := { dst := some 149, op := Go.Op.convert 23 9 (Go.Operand.tmp 148), type := 9, pos := "more.go:49", after := #[{ on := 63, ground := Go.Ground.data }, { on := 61, ground := Go.Ground.guard }], guard := some (61, true) }) (v := ?va64) rfl (by kernel_rfl) (by kernel_rfl) (by kernel_rfl) (fun _ _ _ h => h) (Or.inl ⟨by rfl, ?hya64⟩) (by assumption) ?resta64
    case hya64 => (intro w hSw; (try dsimp only at hSw); go_simp <;> with_reducible rfl)
    try simp only [Act.put, List.setIfInBounds_toArray, List.set_cons_zero, List.set_cons_succ]
    refine wpAnyH_ready (rs := [75]) (by kernel_rfl) (by simp) ?_
    refine AllReadyH.cons (o := { dst := some 160, op := Go.Op.buildSlice 23 10 #[(0, Go.Operand.tmp 150), (1, Go.Operand.tmp 151), (2, Go.Operand.tmp 152), (3, Go.Operand.tmp 153), (4, Go.Operand.tmp 154), (5, Go.Operand.tmp 155), (6, Go.Operand.tmp 156), (7, Go.Operand.tmp 157), (8, Go.Operand.tmp 158), (9, Go.Operand.tmp 159)], type := 23, pos := "more.go:49", after := #[{ on := 65, ground := Go.Ground.data }, { on := 66, ground := Go.Ground.data }, { on := 67, ground := Go.Ground.data }, { on := 68, ground := Go.Ground.data }, { on := 69, ground := Go.Ground.data }, { on := 70, ground := Go.Ground.data }, { on := 71, ground := Go.Ground.data }, { on := 72, ground := Go.Ground.data }, { on := 73, ground := Go.Ground.data }, { on := 74, ground := Go.Ground.data }, { on := 61, ground := Go.Ground.guard }], guard := some (61, true) }) rfl (fun K hK => ?_) AllReadyH.nil
    go_simp
    refine hK.out _ _ (hr1.alloc _) (fun _ => ?_)
    have hS2 := hr1.alloc (.cells #[.int .u8 (a.toNat : Int), .int .u8 (b.toNat : Int), .int .u8 (c.toNat : Int), .int .u8 (d.toNat : Int), .int .u8 (a.toNat : Int), .int .u8 (b.toNat : Int), .int .u8 (c.toNat : Int), .int .u8 (d.toNat : Int), .int .u8 (a.toNat : Int), .int .u8 (b.toNat : Int)] 5)
    have hv2 : ∀ W, Ex (fun _ => False) (w17.alloc (.cells #[.int .u8 (a.toNat : Int), .int .u8 (b.toNat : Int), .int .u8 (c.toNat : Int), .int .u8 (d.toNat : Int), .int .u8 (a.toNat : Int), .int .u8 (b.toNat : Int), .int .u8 (c.toNat : Int), .int .u8 (d.toNat : Int), .int .u8 (a.toNat : Int), .int .u8 (b.toNat : Int)] 5)) W → (convert 23 9 (.slice (some ⟨w17.heap.size, 0, none⟩) 10 10)).run Tryd.prog W = .ok (.string (bs [a, b, c, d, a, b, c, d, a, b])) W := conv_later (RB.made w17 [a, b, c, d, a, b, c, d, a, b] _ _ rfl (by simp) 10 10 rfl (Nat.le_refl _) rfl).any
    generalize w17.alloc (.cells #[.int .u8 (a.toNat : Int), .int .u8 (b.toNat : Int), .int .u8 (c.toNat : Int), .int .u8 (d.toNat : Int), .int .u8 (a.toNat : Int), .int .u8 (b.toNat : Int), .int .u8 (c.toNat : Int), .int .u8 (d.toNat : Int), .int .u8 (a.toNat : Int), .int .u8 (b.toNat : Int)] 5) = w18 at hS2 hv2 ⊢
    have hr2 := Ex.refl (fun _ => False) w18
    refine wpAnyH_strong (S' := fun W => Ex (fun _ => False) w18 W) (fun W h => Ex.trans (by first | exact hS2 | exact hxc2) h) _ _ _ _ ?_
    refine wpAnyH_take (i := 76) (oi := { dst := some 161, op := Go.Op.convert 23 9 (Go.Operand.tmp 160), type := 9, pos := "more.go:49", after := #[{ on := 75, ground := Go.Ground.data }, { on := 61, ground := Go.Ground.guard }], guard := some (61, true) }) (v := ?va76) rfl (by kernel_rfl) (by kernel_rfl) (by kernel_rfl) (fun _ _ _ h => h) (Or.inl ⟨by rfl, ?hya76⟩) (by assumption) ?resta76
    case hya76 => (intro w hSw; (try dsimp only at hSw); go_simp <;> with_reducible rfl)
    try simp only [Act.put, List.setIfInBounds_toArray, List.set_cons_zero, List.set_cons_succ]
    refine wpAnyH_take (i := 77) (oi := { dst := some 162, op := Go.Op.binOp Go.BinOp.eql 9 (Go.Operand.tmp 149) (Go.Operand.tmp 161) 9, type := 4, pos := "more.go:49", after := #[{ on := 64, ground := Go.Ground.data }, { on := 76, ground := Go.Ground.data }, { on := 61, ground := Go.Ground.guard }], guard := some (61, true) }) (v := ?va77) rfl (by kernel_rfl) (by kernel_rfl) (by kernel_rfl) (fun _ _ _ h => h) (Or.inl ⟨by rfl, ?hya77⟩) (by assumption) ?resta77
    case hya77 => (intro w hSw; (try dsimp only at hSw); go_simp <;> with_reducible rfl)
    try simp only [Act.put, List.setIfInBounds_toArray, List.set_cons_zero, List.set_cons_succ]
    refine wpAnyH_take (i := 78) (oi := { dst := some 163, op := Go.Op.pick (Go.Operand.tmp 146) (Go.Operand.tmp 162) (Go.Operand.const (Go.Value.bool false)), type := 4, pos := "more.go:49", after := #[{ on := 61, ground := Go.Ground.data }, { on := 77, ground := Go.Ground.data }], guard := none }) (v := ?va78) rfl (by kernel_rfl) (by kernel_rfl) (by kernel_rfl) (fun _ _ _ h => h) (Or.inl ⟨by rfl, ?hya78⟩) (by assumption) ?resta78
    case hya78 => (intro w hSw; (try dsimp only at hSw); go_simp <;> with_reducible rfl)
    try simp only [Act.put, List.setIfInBounds_toArray, List.set_cons_zero, List.set_cons_succ]
    refine wpAnyH_take (i := 79) (oi := { dst := some 8, op := Go.Op.assign (Go.Operand.tmp 163), type := 4, pos := "more.go:49", after := ([{ on := 78, ground := Go.Ground.data }, { on := 63, ground := Go.Ground.chain }, { on := 0, ground := Go.Ground.phase }, { on := 1, ground := Go.Ground.phase }, { on := 2, ground := Go.Ground.phase }, { on := 3, ground := Go.Ground.phase }, { on := 4, ground := Go.Ground.phase }, { on := 5, ground := Go.Ground.phase }, { on := 6, ground := Go.Ground.phase }, { on := 7, ground := Go.Ground.phase }, { on := 8, ground := Go.Ground.phase }, { on := 9, ground := Go.Ground.phase }, { on := 10, ground := Go.Ground.phase }, { on := 11, ground := Go.Ground.phase }, { on := 12, ground := Go.Ground.phase }, { on := 13, ground := Go.Ground.phase }, { on := 14, ground := Go.Ground.phase }, { on := 15, ground := Go.Ground.phase }, { on := 16, ground := Go.Ground.phase }, { on := 17, ground := Go.Ground.phase }, { on := 18, ground := Go.Ground.phase }, { on := 19, ground := Go.Ground.phase }, { on := 20, ground := Go.Ground.phase }, { on := 21, ground := Go.Ground.phase }, { on := 22, ground := Go.Ground.phase }, { on := 23, ground := Go.Ground.phase }, { on := 24, ground := Go.Ground.phase }, { on := 25, ground := Go.Ground.phase }, { on := 26, ground := Go.Ground.phase }, { on := 27, ground := Go.Ground.phase }, { on := 28, ground := Go.Ground.phase }, { on := 29, ground := Go.Ground.phase }, { on := 30, ground := Go.Ground.phase }, { on := 31, ground := Go.Ground.phase }, { on := 32, ground := Go.Ground.phase }, { on := 33, ground := Go.Ground.phase }, { on := 34, ground := Go.Ground.phase }, { on := 35, ground := Go.Ground.phase }, { on := 36, ground := Go.Ground.phase }, { on := 37, ground := Go.Ground.phase }].append [{ on := 38, ground := Go.Ground.phase }, { on := 39, ground := Go.Ground.phase }, { on := 40, ground := Go.Ground.phase }, { on := 41, ground := Go.Ground.phase }, { on := 42, ground := Go.Ground.phase }, { on := 43, ground := Go.Ground.phase }, { on := 44, ground := Go.Ground.phase }, { on := 45, ground := Go.Ground.phase }, { on := 46, ground := Go.Ground.phase }, { on := 47, ground := Go.Ground.phase }, { on := 48, ground := Go.Ground.phase }, { on := 49, ground := Go.Ground.phase }, { on := 50, ground := Go.Ground.phase }, { on := 51, ground := Go.Ground.phase }, { on := 52, ground := Go.Ground.phase }, { on := 53, ground := Go.Ground.phase }, { on := 54, ground := Go.Ground.phase }, { on := 55, ground := Go.Ground.phase }, { on := 56, ground := Go.Ground.phase }, { on := 57, ground := Go.Ground.phase }, { on := 58, ground := Go.Ground.phase }, { on := 59, ground := Go.Ground.phase }, { on := 60, ground := Go.Ground.phase }, { on := 61, ground := Go.Ground.phase }, { on := 62, ground := Go.Ground.phase }, { on := 63, ground := Go.Ground.phase }, { on := 64, ground := Go.Ground.phase }, { on := 65, ground := Go.Ground.phase }, { on := 66, ground := Go.Ground.phase }, { on := 67, ground := Go.Ground.phase }, { on := 68, ground := Go.Ground.phase }, { on := 69, ground := Go.Ground.phase }, { on := 70, ground := Go.Ground.phase }, { on := 71, ground := Go.Ground.phase }, { on := 72, ground := Go.Ground.phase }, { on := 73, ground := Go.Ground.phase }, { on := 74, ground := Go.Ground.phase }, { on := 75, ground := Go.Ground.phase }, { on := 76, ground := Go.Ground.phase }, { on := 77, ground := Go.Ground.phase }, { on := 78, ground := Go.Ground.phase }]).toArray, guard := none }) (v := ?va79) rfl (by kernel_rfl) (by kernel_rfl) (by kernel_rfl) (fun _ _ _ h => h) (Or.inl ⟨by rfl, ?hya79⟩) (by assumption) ?resta79
    case hya79 => (intro w hSw; (try dsimp only at hSw); go_simp <;> with_reducible rfl)
    try simp only [Act.put, List.setIfInBounds_toArray, List.set_cons_zero, List.set_cons_succ]
    refine wpAnyH_done (by kernel_rfl) ?_ _
    go_wp2
    go_ret
    refine ⟨?_, HX16.out.trans (hS1.trans hS2)⟩
    simp
  · refine AllReadyH.cons (o := { dst := some 160, op := Go.Op.buildSlice 23 10 #[(0, Go.Operand.tmp 150), (1, Go.Operand.tmp 151), (2, Go.Operand.tmp 152), (3, Go.Operand.tmp 153), (4, Go.Operand.tmp 154), (5, Go.Operand.tmp 155), (6, Go.Operand.tmp 156), (7, Go.Operand.tmp 157), (8, Go.Operand.tmp 158), (9, Go.Operand.tmp 159)], type := 23, pos := "more.go:49", after := #[{ on := 65, ground := Go.Ground.data }, { on := 66, ground := Go.Ground.data }, { on := 67, ground := Go.Ground.data }, { on := 68, ground := Go.Ground.data }, { on := 69, ground := Go.Ground.data }, { on := 70, ground := Go.Ground.data }, { on := 71, ground := Go.Ground.data }, { on := 72, ground := Go.Ground.data }, { on := 73, ground := Go.Ground.data }, { on := 74, ground := Go.Ground.data }, { on := 61, ground := Go.Ground.guard }], guard := some (61, true) }) rfl (fun K hK => ?_) AllReadyH.nil
    go_simp
    refine hK.out _ _ (((Ex.refl _ w16).alloc _).drew) (fun _ => ?_)
    have hS1 : Ex (fun _ => False) w16 (w16.alloc (.cells #[.int .u8 (a.toNat : Int), .int .u8 (b.toNat : Int), .int .u8 (c.toNat : Int), .int .u8 (d.toNat : Int), .int .u8 (a.toNat : Int), .int .u8 (b.toNat : Int), .int .u8 (c.toNat : Int), .int .u8 (d.toNat : Int), .int .u8 (a.toNat : Int), .int .u8 (b.toNat : Int)] 5)).drew := ((Ex.refl (fun _ => False) w16).alloc _).drew
    have hv1 : ∀ W, Ex (fun _ => False) (w16.alloc (.cells #[.int .u8 (a.toNat : Int), .int .u8 (b.toNat : Int), .int .u8 (c.toNat : Int), .int .u8 (d.toNat : Int), .int .u8 (a.toNat : Int), .int .u8 (b.toNat : Int), .int .u8 (c.toNat : Int), .int .u8 (d.toNat : Int), .int .u8 (a.toNat : Int), .int .u8 (b.toNat : Int)] 5)).drew W → (convert 23 9 (.slice (some ⟨w16.heap.size, 0, none⟩) 10 10)).run Tryd.prog W = .ok (.string (bs [a, b, c, d, a, b, c, d, a, b])) W := conv_later ((RB.made w16 [a, b, c, d, a, b, c, d, a, b] _ _ rfl (by simp) 10 10 rfl (Nat.le_refl _) rfl).any.keep (S := fun _ => False) (Ex.refl _ _).drew (fun _ _ _ => id))
    generalize (w16.alloc (.cells #[.int .u8 (a.toNat : Int), .int .u8 (b.toNat : Int), .int .u8 (c.toNat : Int), .int .u8 (d.toNat : Int), .int .u8 (a.toNat : Int), .int .u8 (b.toNat : Int), .int .u8 (c.toNat : Int), .int .u8 (d.toNat : Int), .int .u8 (a.toNat : Int), .int .u8 (b.toNat : Int)] 5)).drew = w17 at hS1 hv1 ⊢
    have hr1 := Ex.refl (fun _ => False) w17
    refine wpAnyH_strong (S' := fun W => Ex (fun _ => False) w17 W) (fun W h => hS1.trans h) _ _ _ _ ?_
    refine wpAnyH_take (i := 76) (oi := { dst := some 161, op := Go.Op.convert 23 9 (Go.Operand.tmp 160), type := 9, pos := "more.go:49", after := #[{ on := 75, ground := Go.Ground.data }, { on := 61, ground := Go.Ground.guard }], guard := some (61, true) }) (v := ?vb76) rfl (by kernel_rfl) (by kernel_rfl) (by kernel_rfl) (fun _ _ _ h => h) (Or.inl ⟨by rfl, ?hyb76⟩) (by assumption) ?restb76
    case hyb76 => (intro w hSw; (try dsimp only at hSw); go_simp <;> with_reducible rfl)
    try simp only [Act.put, List.setIfInBounds_toArray, List.set_cons_zero, List.set_cons_succ]
    refine wpAnyH_ready (rs := [63]) (by kernel_rfl) (by simp) ?_
    refine AllReadyH.cons (o := { dst := some 148, op := Go.Op.call { callee := Go.Callee.value (Go.Operand.func 23), args := #[Go.Operand.tmp 147], argTypes := #[36] }, type := 23, pos := "more.go:49", after := #[{ on := 62, ground := Go.Ground.data }, { on := 61, ground := Go.Ground.chain }, { on := 61, ground := Go.Ground.guard }], guard := some (61, true) }) rfl (fun K hK => ?_) AllReadyH.nil
    go_simp
    refine (wdone_any pw q16 [a, b, c, d, a, b, c, d, a, b] w17 (HW16.out.keep hS1 id (fun _ _ _ => id)) (by simp)).mono ?_
    rintro e w18 ⟨A2, c2, rfl, ho2, hxa2⟩
    refine hK.out _ _ hxa2 (fun _ => ?_)
    have hv2 : ∀ W, Ex (fun _ => False) w18 W → (convert 23 9 (.slice (some A2) 10 c2)).run Tryd.prog W = .ok (.string (bs [a, b, c, d, a, b, c, d, a, b])) W := conv_later ho2.rb.any
    have hr2 := Ex.refl (fun _ => False) w18
    refine wpAnyH_strong (S' := fun W => Ex (fun _ => False) w18 W) (fun W h => hxa2.trans h) _ _ _ _ ?_
    refine wpAnyH_take (i := 64) (oi := { dst := some 149, op := Go.Op.convert 23 9 (Go.Operand.tmp 148), type := 9, pos := "more.go:49", after := #[{ on := 63, ground := Go.Ground.data }, { on := 61, ground := Go.Ground.guard }], guard := some (61, true) }) (v := ?vb64) rfl (by kernel_rfl) (by kernel_rfl) (by kernel_rfl) (fun _ _ _ h => h) (Or.inl ⟨by rfl, ?hyb64⟩) (by assumption) ?restb64
    case hyb64 => (intro w hSw; (try dsimp only at hSw); go_simp <;> with_reducible rfl)
    try simp only [Act.put, List.setIfInBounds_toArray, List.set_cons_zero, List.set_cons_succ]
    refine wpAnyH_take (i := 77) (oi := { dst := some 162, op := Go.Op.binOp Go.BinOp.eql 9 (Go.Operand.tmp 149) (Go.Operand.tmp 161) 9, type := 4, pos := "more.go:49", after := #[{ on := 64, ground := Go.Ground.data }, { on := 76, ground := Go.Ground.data }, { on := 61, ground := Go.Ground.guard }], guard := some (61, true) }) (v := ?vb77) rfl (by kernel_rfl) (by kernel_rfl) (by kernel_rfl) (fun _ _ _ h => h) (Or.inl ⟨by rfl, ?hyb77⟩) (by assumption) ?restb77
    case hyb77 => (intro w hSw; (try dsimp only at hSw); go_simp <;> with_reducible rfl)
    try simp only [Act.put, List.setIfInBounds_toArray, List.set_cons_zero, List.set_cons_succ]
    refine wpAnyH_take (i := 78) (oi := { dst := some 163, op := Go.Op.pick (Go.Operand.tmp 146) (Go.Operand.tmp 162) (Go.Operand.const (Go.Value.bool false)), type := 4, pos := "more.go:49", after := #[{ on := 61, ground := Go.Ground.data }, { on := 77, ground := Go.Ground.data }], guard := none }) (v := ?vb78) rfl (by kernel_rfl) (by kernel_rfl) (by kernel_rfl) (fun _ _ _ h => h) (Or.inl ⟨by rfl, ?hyb78⟩) (by assumption) ?restb78
    case hyb78 => (intro w hSw; (try dsimp only at hSw); go_simp <;> with_reducible rfl)
    try simp only [Act.put, List.setIfInBounds_toArray, List.set_cons_zero, List.set_cons_succ]
    refine wpAnyH_take (i := 79) (oi := { dst := some 8, op := Go.Op.assign (Go.Operand.tmp 163), type := 4, pos := "more.go:49", after := ([{ on := 78, ground := Go.Ground.data }, { on := 63, ground := Go.Ground.chain }, { on := 0, ground := Go.Ground.phase }, { on := 1, ground := Go.Ground.phase }, { on := 2, ground := Go.Ground.phase }, { on := 3, ground := Go.Ground.phase }, { on := 4, ground := Go.Ground.phase }, { on := 5, ground := Go.Ground.phase }, { on := 6, ground := Go.Ground.phase }, { on := 7, ground := Go.Ground.phase }, { on := 8, ground := Go.Ground.phase }, { on := 9, ground := Go.Ground.phase }, { on := 10, ground := Go.Ground.phase }, { on := 11, ground := Go.Ground.phase }, { on := 12, ground := Go.Ground.phase }, { on := 13, ground := Go.Ground.phase }, { on := 14, ground := Go.Ground.phase }, { on := 15, ground := Go.Ground.phase }, { on := 16, ground := Go.Ground.phase }, { on := 17, ground := Go.Ground.phase }, { on := 18, ground := Go.Ground.phase }, { on := 19, ground := Go.Ground.phase }, { on := 20, ground := Go.Ground.phase }, { on := 21, ground := Go.Ground.phase }, { on := 22, ground := Go.Ground.phase }, { on := 23, ground := Go.Ground.phase }, { on := 24, ground := Go.Ground.phase }, { on := 25, ground := Go.Ground.phase }, { on := 26, ground := Go.Ground.phase }, { on := 27, ground := Go.Ground.phase }, { on := 28, ground := Go.Ground.phase }, { on := 29, ground := Go.Ground.phase }, { on := 30, ground := Go.Ground.phase }, { on := 31, ground := Go.Ground.phase }, { on := 32, ground := Go.Ground.phase }, { on := 33, ground := Go.Ground.phase }, { on := 34, ground := Go.Ground.phase }, { on := 35, ground := Go.Ground.phase }, { on := 36, ground := Go.Ground.phase }, { on := 37, ground := Go.Ground.phase }].append [{ on := 38, ground := Go.Ground.phase }, { on := 39, ground := Go.Ground.phase }, { on := 40, ground := Go.Ground.phase }, { on := 41, ground := Go.Ground.phase }, { on := 42, ground := Go.Ground.phase }, { on := 43, ground := Go.Ground.phase }, { on := 44, ground := Go.Ground.phase }, { on := 45, ground := Go.Ground.phase }, { on := 46, ground := Go.Ground.phase }, { on := 47, ground := Go.Ground.phase }, { on := 48, ground := Go.Ground.phase }, { on := 49, ground := Go.Ground.phase }, { on := 50, ground := Go.Ground.phase }, { on := 51, ground := Go.Ground.phase }, { on := 52, ground := Go.Ground.phase }, { on := 53, ground := Go.Ground.phase }, { on := 54, ground := Go.Ground.phase }, { on := 55, ground := Go.Ground.phase }, { on := 56, ground := Go.Ground.phase }, { on := 57, ground := Go.Ground.phase }, { on := 58, ground := Go.Ground.phase }, { on := 59, ground := Go.Ground.phase }, { on := 60, ground := Go.Ground.phase }, { on := 61, ground := Go.Ground.phase }, { on := 62, ground := Go.Ground.phase }, { on := 63, ground := Go.Ground.phase }, { on := 64, ground := Go.Ground.phase }, { on := 65, ground := Go.Ground.phase }, { on := 66, ground := Go.Ground.phase }, { on := 67, ground := Go.Ground.phase }, { on := 68, ground := Go.Ground.phase }, { on := 69, ground := Go.Ground.phase }, { on := 70, ground := Go.Ground.phase }, { on := 71, ground := Go.Ground.phase }, { on := 72, ground := Go.Ground.phase }, { on := 73, ground := Go.Ground.phase }, { on := 74, ground := Go.Ground.phase }, { on := 75, ground := Go.Ground.phase }, { on := 76, ground := Go.Ground.phase }, { on := 77, ground := Go.Ground.phase }, { on := 78, ground := Go.Ground.phase }]).toArray, guard := none }) (v := ?vb79) rfl (by kernel_rfl) (by kernel_rfl) (by kernel_rfl) (fun _ _ _ h => h) (Or.inl ⟨by rfl, ?hyb79⟩) (by assumption) ?restb79
    case hyb79 => (intro w hSw; (try dsimp only at hSw); go_simp <;> with_reducible rfl)
    try simp only [Act.put, List.setIfInBounds_toArray, List.set_cons_zero, List.set_cons_succ]
    refine wpAnyH_done (by kernel_rfl) ?_ _
    go_wp2
    go_ret
    refine ⟨?_, HX16.out.trans (hS1.trans hxa2)⟩
    simp
end Go.Proofs.YtkgieciamophkaaDoor
