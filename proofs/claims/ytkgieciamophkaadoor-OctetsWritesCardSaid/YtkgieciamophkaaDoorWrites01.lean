/-
  The walk of OctetsWrites. By an AI agent.
-/
import Derived.Test.YtkgieciamophkaaDoorPuts
import Derived.Test.YtkgieciamophkaaDoorRef01
import Derived.Deep.DeepCutAuto
import Derived.Deep.CutBlock
import Derived.Deep.RegionHeld
namespace Go.Proofs.YtkgieciamophkaaDoor
open Go.RowKit

set_option maxRecDepth 100000 in
set_option maxHeartbeats 4000000 in
theorem writes_any (v : Value) (ps : List (Int × Int × List UInt8)) (w : World) (hr : RP w v ps) (hg : ET w) : Calls Tryd.prog 4 #[v] w fun e w' => e = .returned (.bool true) ∧ Ex (fun _ => False) w w' := by
  have HG := Lib.hid hg
  clear hg
  obtain ⟨i0, hi, hz0, hz1, hz2⟩ := info_parts Tryd.info5
  obtain ⟨hpl, A, c, rfl, hc, hcell⟩ := hr
  have HP := Lib.hid hcell
  clear hcell
  go_enter Tryd.func4, Tryd.ntmps4
  go_wp2_with fail
  refine (shown1_any w HG.out).mono ?_
  rintro e w1 ⟨rfl, hx1⟩
  have HX1 := Lib.hid hx1
  clear hx1
  go_wp2_with fail
  have hw2 := WR.zero w1 38 w1.heap.size rfl
  have hx2 := HX1.out.alloc (.cells #[.slice none 0 0] 38)
  have hsw := HX1.out.size
  generalize w1.alloc (.cells #[.slice none 0 0] 38) = w2 at hw2 hx2 ⊢
  generalize w1.heap.size = p at hw2 hsw ⊢
  have HW2 := Lib.hid hw2
  have HX2 := Lib.hid hx2
  clear hw2 hx2 HX1 HG
  go_loopw [5, 6] (fun s i wr => ∃ (k : Nat) (l : List UInt8) (q : Option Nat), k ≤ 50 ∧ i = .int .i64 (k : Int) ∧ s = .string (bs l) ∧ l.length ≤ 100 * k ∧ Hid (WR wr p q l) ∧ Hid (∀ j, q = some j → w.heap.size ≤ j) ∧ Hid (Ex (fun _ => False) w wr)) (fun _ i _ => 50 - (intOf i).toNat)
  case atStart => exact ⟨0, [], none, by omega, rfl, rfl, by simp, HW2, Lib.hid (fun j (hj : none = some j) => by cases hj), HX2⟩
  case round =>
    clear HW2 HX2
    obtain ⟨k, l, q, hk, rfl, rfl, hl, hw, hq, hx⟩ := hrel
    by_cases d1 : k < ps.length
    · by_cases d2 : k < 50
      · obtain ⟨b, off, A', c', rfl, hp⟩ := HP.out k d1
        have HPA0 := Lib.hid hp
        have HPA := Lib.hid (hp.keep hx.out)
        clear hp
        generalize ps[k].1 = kd at HPA HPA0
        generalize ps[k].2.1 = nm at HPA HPA0
        generalize ps[k].2.2 = lb at HPA HPA0
        have g1 := HPA.out.kind
        have g2 := HPA.out.num
        have g3 := HPA.out.row
        have g4 := HPA.out.low
        have g5 := HPA.out.high
        have g6 := HPA.out.kmin
        have g7 := HPA.out.kmax
        obtain ⟨l1, hm, hm1, hm100, hl1⟩ : ∃ l1 : List UInt8, (if 100 < (lb.length : Int) then (100 : Int) else (lb.length : Int)) = (l1.length : Int) ∧ l1.length ≤ lb.length ∧ l1.length ≤ 100 ∧ Hid (l1 = lb.take 100) := by
          refine ⟨lb.take 100, ?_, by simp; omega, by simp; omega, rfl⟩
          rw [List.length_take]; split <;> omega
        have hmi : (l1.length : Int) ≤ (lb.length : Int) := by omega
        have g8 := HPA.out.cap
        have g9 : l1.length ≤ c' := by omega
        have hB : w.heap.size ≤ wr.heap.size := hx.out.size
        go_upto_block 2 with fail
        go_cut [5, 7] (fun s x wx => ∃ (l' : List UInt8) (q' : Option Nat), s = .string (bs l') ∧ x = .pointer (some ⟨p, 0, none⟩) ∧ l'.length ≤ 100 * k + 100 ∧ Hid (WR wx p q' l') ∧ Hid (∀ j, q' = some j → w.heap.size ≤ j) ∧ Hid (Ex (fun _ => False) w wx))
        case first =>
          by_cases d3 : kd = 1
          · subst d3
            have q1 := IntWalk.u8_in (nm % 256) (by omega)
            go_wp2_with fail
            refine (wu8_any p q l (nm % 256) wr (by omega) (by omega) hw.out (by omega)).mono ?_
            rintro e w3 ⟨rfl, hw3⟩
            obtain ⟨q3, h31, h32, h33⟩ := writer_step hq.out hB hw3
            clear hw3
            have HX3 := Lib.hid (hx.out.andThen h33 (fun i hi hj => by rcases hj with e | e <;> omega))
            have HW3 := Lib.hid h31
            have HQ3 := Lib.hid h32
            have hne := HPA0.out.lt
            have g2 := h33.cell g2 (fun e => by simp only at e; rcases e with e | e <;> omega)
            clear h31 h32 h33 hw hq hx
            go_wp2_with fail
            refine (text_any nm 1 g4 g5 (by omega) w3).mono ?_
            rintro e w4 ⟨rfl, hx4⟩
            have HX4 := Lib.hid hx4
            clear hx4
            have hba := bs_append l (txt nm 1)
            have hbz := bs_size l
            have hby := bs_size (txt nm 1)
            have hbt := txt_len 1 nm
            go_wp2_with fail
            go_meet
            refine ⟨l ++ txt nm 1, q3, rfl, rfl, by simp [hbt]; omega, ?_, HQ3, Lib.hid (HX3.out.trans HX4.out)⟩
            have := HW3.out.keep HX4.out id (fun _ _ _ => id)
            rw [txt_m1] at this
            exact Lib.hid this
          by_cases d3 : kd = 2
          · subst d3
            have q1 := IntWalk.u16_in (nm % 65536) (by omega)
            go_wp2_with fail
            refine (wu16_any p q l (nm % 65536) wr (by omega) (by omega) hw.out (by omega)).mono ?_
            rintro e w3 ⟨rfl, hw3⟩
            obtain ⟨q3, h31, h32, h33⟩ := writer_step hq.out hB hw3
            clear hw3
            have HX3 := Lib.hid (hx.out.andThen h33 (fun i hi hj => by rcases hj with e | e <;> omega))
            have HW3 := Lib.hid h31
            have HQ3 := Lib.hid h32
            have hne := HPA0.out.lt
            have g2 := h33.cell g2 (fun e => by simp only at e; rcases e with e | e <;> omega)
            clear h31 h32 h33 hw hq hx
            go_wp2_with fail
            refine (text_any nm 2 g4 g5 (by omega) w3).mono ?_
            rintro e w4 ⟨rfl, hx4⟩
            have HX4 := Lib.hid hx4
            clear hx4
            have hba := bs_append l (txt nm 2)
            have hbz := bs_size l
            have hby := bs_size (txt nm 2)
            have hbt := txt_len 2 nm
            go_wp2_with fail
            go_meet
            refine ⟨l ++ txt nm 2, q3, rfl, rfl, by simp [hbt]; omega, ?_, HQ3, Lib.hid (HX3.out.trans HX4.out)⟩
            have := HW3.out.keep HX4.out id (fun _ _ _ => id)
            rw [txt_m2] at this
            exact Lib.hid this
          by_cases d3 : kd = 3
          · subst d3
            have q1 := trivial
            go_wp2_with fail
            refine (wu32_any p q l nm wr (by omega) (by omega) hw.out (by omega)).mono ?_
            rintro e w3 ⟨rfl, hw3⟩
            obtain ⟨q3, h31, h32, h33⟩ := writer_step hq.out hB hw3
            clear hw3
            have HX3 := Lib.hid (hx.out.andThen h33 (fun i hi hj => by rcases hj with e | e <;> omega))
            have HW3 := Lib.hid h31
            have HQ3 := Lib.hid h32
            have hne := HPA0.out.lt
            have g2 := h33.cell g2 (fun e => by simp only at e; rcases e with e | e <;> omega)
            clear h31 h32 h33 hw hq hx
            go_wp2_with fail
            refine (text_any nm 4 g4 g5 (by omega) w3).mono ?_
            rintro e w4 ⟨rfl, hx4⟩
            have HX4 := Lib.hid hx4
            clear hx4
            have hba := bs_append l (txt nm 4)
            have hbz := bs_size l
            have hby := bs_size (txt nm 4)
            have hbt := txt_len 4 nm
            go_wp2_with fail
            go_meet
            refine ⟨l ++ txt nm 4, q3, rfl, rfl, by simp [hbt]; omega, ?_, HQ3, Lib.hid (HX3.out.trans HX4.out)⟩
            have := HW3.out.keep HX4.out id (fun _ _ _ => id)
            skip
            exact Lib.hid this
          by_cases d3 : kd = 4
          · subst d3
            go_upto_region 19 with fail
            have hsz0 := hw.out.lt
            have hS : Ex (fun _ => False) wr wr.drew := (Ex.refl _ wr).drew
            have hb0 := HPA.out.bytes.take 100
            rw [← hl1.out] at hb0
            have HB0 := Lib.hid hb0
            clear hb0
            refine wp_region_held_drew (S := fun W => Ex (fun _ => False) wr W) (by kernel_rfl) hS (fun _ => ?_)
            refine wpAnyH_take (i := 1) (oi := { dst := some 89, op := Go.Op.move (Go.Operand.tmp 0), type := 45, pos := "law.go:135", after := #[], guard := none }) (v := ?v1) rfl (by kernel_rfl) (by kernel_rfl) (by kernel_rfl) (fun _ _ _ h => h) (Or.inl ⟨by rfl, ?hy1⟩) (by assumption) ?rest1
            case hy1 => (intro w hSw; (try dsimp only at hSw); have g3 := hSw.cell g3 id; go_simp <;> with_reducible rfl)
            try simp only [Act.put, List.setIfInBounds_toArray, List.set_cons_zero, List.set_cons_succ]
            refine wpAnyH_take (i := 2) (oi := { dst := some 90, op := Go.Op.move (Go.Operand.tmp 6), type := 3, pos := "law.go:135", after := #[], guard := none }) (v := ?v2) rfl (by kernel_rfl) (by kernel_rfl) (by kernel_rfl) (fun _ _ _ h => h) (Or.inl ⟨by rfl, ?hy2⟩) (by assumption) ?rest2
            case hy2 => (intro w hSw; (try dsimp only at hSw); have g3 := hSw.cell g3 id; go_simp <;> with_reducible rfl)
            try simp only [Act.put, List.setIfInBounds_toArray, List.set_cons_zero, List.set_cons_succ]
            refine wpAnyH_take (i := 3) (oi := { dst := some 91, op := Go.Op.indexAddr 45 (Go.Operand.tmp 89) (Go.Operand.tmp 90), type := 0, pos := "law.go:135", after := #[{ on := 1, ground := Go.Ground.data }, { on := 2, ground := Go.Ground.data }], guard := none }) (v := ?v3) rfl (by kernel_rfl) (by kernel_rfl) (by kernel_rfl) (fun _ _ _ h => h) (Or.inl ⟨by rfl, ?hy3⟩) (by assumption) ?rest3
            case hy3 => (intro w hSw; (try dsimp only at hSw); have g3 := hSw.cell g3 id; go_simp <;> with_reducible rfl)
            try simp only [Act.put, List.setIfInBounds_toArray, List.set_cons_zero, List.set_cons_succ]
            refine wpAnyH_take (i := 4) (oi := { dst := some 92, op := Go.Op.fieldAddr 47 (Go.Operand.tmp 91) 2, type := 0, pos := "law.go:135", after := #[{ on := 3, ground := Go.Ground.data }], guard := none }) (v := ?v4) rfl (by kernel_rfl) (by kernel_rfl) (by kernel_rfl) (fun _ _ _ h => h) (Or.inl ⟨by rfl, ?hy4⟩) (by assumption) ?rest4
            case hy4 => (intro w hSw; (try dsimp only at hSw); have g3 := hSw.cell g3 id; go_simp <;> with_reducible rfl)
            try simp only [Act.put, List.setIfInBounds_toArray, List.set_cons_zero, List.set_cons_succ]
            refine wpAnyH_take (i := 5) (oi := { dst := some 93, op := Go.Op.load 23 (Go.Operand.tmp 92), type := 23, pos := "law.go:135", after := #[{ on := 4, ground := Go.Ground.data }], guard := none }) (v := ?v5) rfl (by kernel_rfl) (by kernel_rfl) (by kernel_rfl) (fun _ _ _ h => h) (Or.inl ⟨by rfl, ?hy5⟩) (by assumption) ?rest5
            case hy5 => (intro w hSw; (try dsimp only at hSw); have g3 := hSw.cell g3 id; go_simp <;> with_reducible rfl)
            try simp only [Act.put, List.setIfInBounds_toArray, List.set_cons_zero, List.set_cons_succ]
            refine wpAnyH_take (i := 6) (oi := { dst := some 94, op := Go.Op.move (Go.Operand.tmp 0), type := 45, pos := "law.go:135", after := #[], guard := none }) (v := ?v6) rfl (by kernel_rfl) (by kernel_rfl) (by kernel_rfl) (fun _ _ _ h => h) (Or.inl ⟨by rfl, ?hy6⟩) (by assumption) ?rest6
            case hy6 => (intro w hSw; (try dsimp only at hSw); have g3 := hSw.cell g3 id; go_simp <;> with_reducible rfl)
            try simp only [Act.put, List.setIfInBounds_toArray, List.set_cons_zero, List.set_cons_succ]
            refine wpAnyH_take (i := 7) (oi := { dst := some 95, op := Go.Op.move (Go.Operand.tmp 6), type := 3, pos := "law.go:135", after := #[], guard := none }) (v := ?v7) rfl (by kernel_rfl) (by kernel_rfl) (by kernel_rfl) (fun _ _ _ h => h) (Or.inl ⟨by rfl, ?hy7⟩) (by assumption) ?rest7
            case hy7 => (intro w hSw; (try dsimp only at hSw); have g3 := hSw.cell g3 id; go_simp <;> with_reducible rfl)
            try simp only [Act.put, List.setIfInBounds_toArray, List.set_cons_zero, List.set_cons_succ]
            refine wpAnyH_take (i := 8) (oi := { dst := some 96, op := Go.Op.indexAddr 45 (Go.Operand.tmp 94) (Go.Operand.tmp 95), type := 0, pos := "law.go:135", after := #[{ on := 6, ground := Go.Ground.data }, { on := 7, ground := Go.Ground.data }], guard := none }) (v := ?v8) rfl (by kernel_rfl) (by kernel_rfl) (by kernel_rfl) (fun _ _ _ h => h) (Or.inl ⟨by rfl, ?hy8⟩) (by assumption) ?rest8
            case hy8 => (intro w hSw; (try dsimp only at hSw); have g3 := hSw.cell g3 id; go_simp <;> with_reducible rfl)
            try simp only [Act.put, List.setIfInBounds_toArray, List.set_cons_zero, List.set_cons_succ]
            refine wpAnyH_take (i := 9) (oi := { dst := some 97, op := Go.Op.fieldAddr 47 (Go.Operand.tmp 96) 2, type := 0, pos := "law.go:135", after := #[{ on := 8, ground := Go.Ground.data }], guard := none }) (v := ?v9) rfl (by kernel_rfl) (by kernel_rfl) (by kernel_rfl) (fun _ _ _ h => h) (Or.inl ⟨by rfl, ?hy9⟩) (by assumption) ?rest9
            case hy9 => (intro w hSw; (try dsimp only at hSw); have g3 := hSw.cell g3 id; go_simp <;> with_reducible rfl)
            try simp only [Act.put, List.setIfInBounds_toArray, List.set_cons_zero, List.set_cons_succ]
            refine wpAnyH_take (i := 10) (oi := { dst := some 98, op := Go.Op.load 23 (Go.Operand.tmp 97), type := 23, pos := "law.go:135", after := #[{ on := 9, ground := Go.Ground.data }], guard := none }) (v := ?v10) rfl (by kernel_rfl) (by kernel_rfl) (by kernel_rfl) (fun _ _ _ h => h) (Or.inl ⟨by rfl, ?hy10⟩) (by assumption) ?rest10
            case hy10 => (intro w hSw; (try dsimp only at hSw); have g3 := hSw.cell g3 id; go_simp <;> with_reducible rfl)
            try simp only [Act.put, List.setIfInBounds_toArray, List.set_cons_zero, List.set_cons_succ]
            refine wpAnyH_take (i := 11) (oi := { dst := some 99, op := Go.Op.call { callee := Go.Callee.builtin Go.Builtin.len, args := #[Go.Operand.tmp 98], argTypes := #[23] }, type := 3, pos := "law.go:135", after := #[{ on := 10, ground := Go.Ground.data }], guard := none }) (v := ?v11) rfl (by kernel_rfl) (by kernel_rfl) (by kernel_rfl) (fun _ _ _ h => h) (Or.inl ⟨by rfl, ?hy11⟩) (by assumption) ?rest11
            case hy11 => (intro w hSw; (try dsimp only at hSw); have g3 := hSw.cell g3 id; go_simp <;> with_reducible rfl)
            try simp only [Act.put, List.setIfInBounds_toArray, List.set_cons_zero, List.set_cons_succ]
            refine wpAnyH_take (i := 12) (oi := { dst := some 100, op := Go.Op.call { callee := Go.Callee.builtin Go.Builtin.min, args := #[Go.Operand.tmp 99, Go.Operand.const (Go.Value.int Go.IntKind.i64 100)], argTypes := #[3, 3] }, type := 3, pos := "law.go:135", after := #[{ on := 11, ground := Go.Ground.data }], guard := none }) (v := ?v12) rfl (by kernel_rfl) (by kernel_rfl) (by kernel_rfl) (fun _ _ _ h => h) (Or.inl ⟨by rfl, ?hy12⟩) (by assumption) ?rest12
            case hy12 => (intro w hSw; (try dsimp only at hSw); have g3 := hSw.cell g3 id; go_simp <;> with_reducible rfl)
            try simp only [Act.put, List.setIfInBounds_toArray, List.set_cons_zero, List.set_cons_succ]
            refine wpAnyH_take (i := 13) (oi := { dst := some 101, op := Go.Op.slice 23 (Go.Operand.tmp 93) none (some (Go.Operand.tmp 100)) none, type := 23, pos := "law.go:135", after := #[{ on := 5, ground := Go.Ground.data }, { on := 12, ground := Go.Ground.data }], guard := none }) (v := ?v13) rfl (by kernel_rfl) (by kernel_rfl) (by kernel_rfl) (fun _ _ _ h => h) (Or.inl ⟨by rfl, ?hy13⟩) (by assumption) ?rest13
            case hy13 => (intro w hSw; (try dsimp only at hSw); have g3 := hSw.cell g3 id; go_simp <;> with_reducible rfl)
            try simp only [Act.put, List.setIfInBounds_toArray, List.set_cons_zero, List.set_cons_succ]
            refine wpAnyH_ready (rs := [0]) (by kernel_rfl) (by simp) ?_
            refine AllReadyH.cons (o := { dst := some 88, op := Go.Op.buildSlice 23 0 #[], type := 23, pos := "law.go:135", after := #[], guard := none }) rfl (fun K hK => ?_) AllReadyH.nil
            go_simp
            refine hK.out _ _ ((hS.alloc _)) (fun hS1 => ?_)
            refine wpAnyH_ready (rs := [14]) (by kernel_rfl) (by simp) ?_
            refine AllReadyH.cons (o := { dst := some 102, op := Go.Op.call { callee := Go.Callee.builtin Go.Builtin.append, args := #[Go.Operand.tmp 88, Go.Operand.tmp 101], argTypes := #[23, 23] }, type := 23, pos := "law.go:135", after := #[{ on := 0, ground := Go.Ground.data }, { on := 13, ground := Go.Ground.data }], guard := none }) rfl (fun K hK => ?_) AllReadyH.nil
            refine step_append_ob i0 23 Tryd.underlying23 hi hz0 hz1 hz2 rfl (.tmp 88) (.tmp 101) rfl wr.heap.size (.slice (some ⟨wr.heap.size, 0, none⟩) 0 0) [] rfl (fun _ => True) (.slice A' l1.length c') l1 rfl ?o1 ?o2 ?o3 ?o4 ?_
            case o1 => exact OB.lit wr.drew wr.heap.size [] (Nat.le_refl _) (by simp)
            case o2 => exact HB0.out.keep hS1 (fun _ _ _ => id)
            case o3 => simp; omega
            case o4 => exact hS1.size
            intro A2 c2 w3 ho3 hg3 hn3 hb3
            try simp only [Act.put, List.setIfInBounds_toArray, List.set_cons_zero, List.set_cons_succ]
            have hS3 := hS1.grown hg3 (fun k hk => .inr (by obtain rfl := Option.some.inj hk; exact Nat.le_refl _))
            refine hK.out _ _ hS3 (fun _ => ?_)
            refine wpAnyH_take (i := 15) (oi := { dst := some 8, op := Go.Op.assign (Go.Operand.tmp 102), type := 23, pos := "law.go:135", after := #[{ on := 14, ground := Go.Ground.data }, { on := 14, ground := Go.Ground.chain }, { on := 0, ground := Go.Ground.phase }, { on := 1, ground := Go.Ground.phase }, { on := 2, ground := Go.Ground.phase }, { on := 3, ground := Go.Ground.phase }, { on := 4, ground := Go.Ground.phase }, { on := 5, ground := Go.Ground.phase }, { on := 6, ground := Go.Ground.phase }, { on := 7, ground := Go.Ground.phase }, { on := 8, ground := Go.Ground.phase }, { on := 9, ground := Go.Ground.phase }, { on := 10, ground := Go.Ground.phase }, { on := 11, ground := Go.Ground.phase }, { on := 12, ground := Go.Ground.phase }, { on := 13, ground := Go.Ground.phase }, { on := 14, ground := Go.Ground.phase }], guard := none }) (v := ?v14) rfl (by kernel_rfl) (by kernel_rfl) (by kernel_rfl) (fun _ _ _ h => h) (Or.inl ⟨by rfl, ?hy14⟩) (by assumption) ?rest14
            case hy14 => (intro w hSw; (try dsimp only at hSw); have g3 := hSw.cell g3 id; go_simp <;> with_reducible rfl)
            try simp only [Act.put, List.setIfInBounds_toArray, List.set_cons_zero, List.set_cons_succ]
            refine wpAnyH_done (by kernel_rfl) ?_ _
            try simp only [Act.put, List.setIfInBounds_toArray, List.set_cons_zero, List.set_cons_succ]
            simp only [List.nil_append, List.length_nil, Nat.zero_add] at ho3 hn3 hb3 ⊢
            cases A2 with
            | none => exact absurd (hn3.1 rfl).1 (by simp)
            | some a2 =>
              obtain ⟨g, rfl, hg1, hg2⟩ := ho3.plain
              have HX3 := Lib.hid (hx.out.trans hS3)
              have hw3 := hw.out.keep hS3 id (fun _ _ _ => id)
              have HO3 := Lib.hid ho3
              clear hg3 hn3 hb3 ho3
              go_wp2_with fail
              refine (wbytes_any _ p q l l1 _ w3 hw3 HO3.out.rb (by omega)).mono ?_
              rintro e w4 ⟨rfl, q3, h31, h32, h33⟩
              have hgp : g ≠ p := by have := hsz0.1; omega
              have hgq : ∀ k, q = some k → k ≠ g := fun k hk => by have := hsz0.2 k hk; omega
              have hgq3 : ∀ k, q3 = some k → k ≠ g := fun k hk => by
                rcases h32 with e | ⟨k', e, hk'⟩
                · exact hgq k (e ▸ hk)
                · rw [e] at hk; obtain rfl := Option.some.inj hk; omega
              have hq3 : ∀ k, q3 = some k → w.heap.size ≤ k := fun k hk => by
                rcases h32 with e | ⟨k', e, hk'⟩
                · exact hq.out k (e ▸ hk)
                · rw [e] at hk; obtain rfl := Option.some.inj hk; omega
              have HQ3 := Lib.hid hq3
              have HO4 := Lib.hid (HO3.out.keep h33 (fun k hk _ _ e => by
                obtain rfl := Option.some.inj hk
                rcases e with e | e
                · exact hgp e
                · exact hgq _ e rfl))
              have HX4 := Lib.hid (HX3.out.andThen h33 (fun i hi e => by
                rcases e with e | e
                · omega
                · have := hq.out i e; omega))
              have HW4 := Lib.hid h31
              clear h31 h32 h33 hw3 HX3 HO3 hq hw hx
              have hcv := HO4.out.rb.any.str (Pr := Tryd.prog) 23 9 5 Tryd.underlying23 Tryd.underlying5 Tryd.underlying9
              have hba := bs_append l l1
              have hbz := bs_size l
              have hby := bs_size l1
              go_wp2_with fail
              clear hcv
              have hx0 := Lib.hid (Ex.refl (fun x => x = g) w4)
              go_loopw [9] (fun i wl => ∃ (j : Nat) (lj : List UInt8), j ≤ l1.length ∧ i = .int .i64 (j : Int) ∧ Hid (lj.length = l1.length) ∧ Hid (OB wl wr.heap.size (.slice (some ⟨g, 0, none⟩) l1.length c2) lj) ∧ Hid (Ex (fun x => x = g) w4 wl)) (fun i _ => l1.length - (intOf i).toNat)
              case atStart => exact ⟨0, l1, by omega, rfl, rfl, HO4, hx0⟩
              case round =>
                clear hx0
                obtain ⟨j, lj, hj, rfl, hlj, hoj, hxj⟩ := hrel
                by_cases dj : j < l1.length
                · have hcj := hoj.out.cell j (by rw [hlj.out]; exact dj)
                  have hfj := hoj.out.frozen j
                  go_wp2_with fail
                  go_roundw
                  case rel => exact ⟨j + 1, lj.set j 63, by omega, by go_num, Lib.hid (by rw [List.length_set]; exact hlj.out), Lib.hid (hoj.out.set j 63 (.int .u8 63) rfl), Lib.hid (hxj.out.setCell (p := ⟨g, j, none⟩) (.inl rfl) _)⟩
                  case measure => simp [intOf]; omega
                · go_wp2_with fail
                  go_meet
                  exact ⟨l ++ l1, q3, rfl, rfl, by simp; omega, Lib.hid (HW4.out.keep hxj.out (fun e => hgp e.symm) (fun k hk _ e => hgq3 k hk e)), HQ3, Lib.hid (HX4.out.andThen hxj.out (fun i hi e => by omega))⟩
          · go_wp2_with fail
            go_meet
            exact ⟨l, q, rfl, rfl, by omega, hw, hq, hx⟩
        case rest =>
          clear hw hq hx
          obtain ⟨l', q', rfl, rfl, hl', hw', hq', hx'⟩ := hcut
          have q0 := ptr_same ⟨p, 0, none⟩
          go_wp2_with fail
          refine (wdone_any p q' l' wc hw'.out (by omega)).mono ?_
          rintro e w5 ⟨A5, c5, rfl, ho5, hx5⟩
          obtain ⟨g5, rfl, hg51, hg52⟩ := ho5.plain
          have hcv := ho5.rb.any.str (Pr := Tryd.prog) 23 9 5 Tryd.underlying23 Tryd.underlying5 Tryd.underlying9
          have q1 := nil_not ⟨g5, 0, none⟩ l'.length c5
          have HO5 := Lib.hid ho5
          have HX5 := Lib.hid (hx'.out.trans hx5)
          have HW5 := Lib.hid (hw'.out.keep hx5 id (fun _ _ _ => id))
          have hwl := hw'.out.lt
          have hB5 := hx'.out.size
          clear ho5 hx5 hw' hx'
          go_wp2_with fail
          clear hcv q1
          have hx0 := Lib.hid (Ex.refl (fun x => x = g5) w5)
          go_loopw [11] (fun i wl => ∃ (j : Nat) (lj : List UInt8), j ≤ l'.length ∧ i = .int .i64 (j : Int) ∧ Hid (lj.length = l'.length) ∧ Hid (OB wl wc.heap.size (.slice (some ⟨g5, 0, none⟩) l'.length c5) lj) ∧ Hid (Ex (fun x => x = g5) w5 wl)) (fun i _ => l'.length - (intOf i).toNat)
          case atStart => exact ⟨0, l', by omega, rfl, rfl, HO5, hx0⟩
          case round =>
            clear hx0
            obtain ⟨j, lj, hj, rfl, hlj, hoj, hxj⟩ := hrel
            by_cases dj : j < l'.length
            · have hcj := hoj.out.cell j (by rw [hlj.out]; exact dj)
              have hfj := hoj.out.frozen j
              go_wp2_with fail
              go_roundw
              case rel => exact ⟨j + 1, lj.set j 33, by omega, by go_num, Lib.hid (by rw [List.length_set]; exact hlj.out), Lib.hid (hoj.out.set j 33 (.int .u8 33) rfl), Lib.hid (hxj.out.setCell (p := ⟨g5, j, none⟩) (.inl rfl) _)⟩
              case measure => simp [intOf]; omega
            · go_wp2_with fail
              go_roundw
              case rel => exact ⟨k + 1, l', q', by omega, by go_num, rfl, by omega, Lib.hid (HW5.out.keep hxj.out (fun e => by omega) (fun k hk _ e => by have := hwl.2 k hk; omega)), hq', Lib.hid (HX5.out.andThen hxj.out (fun i hi e => by omega))⟩
              case measure => simp [intOf]; omega
      · go_wp2_with fail
        refine (wdone_any p q l wr hw.out (by omega)).mono ?_
        rintro e w5 ⟨A5, c5, rfl, ho5, hx5⟩
        have hcv := ho5.rb.any.str (Pr := Tryd.prog) 23 9 5 Tryd.underlying23 Tryd.underlying5 Tryd.underlying9
        go_wp2_with fail
        go_ret
        exact ⟨rfl, hx.out.trans hx5⟩
    · go_wp2_with fail
      refine (wdone_any p q l wr hw.out (by omega)).mono ?_
      rintro e w5 ⟨A5, c5, rfl, ho5, hx5⟩
      have hcv := ho5.rb.any.str (Pr := Tryd.prog) 23 9 5 Tryd.underlying23 Tryd.underlying5 Tryd.underlying9
      go_wp2_with fail
      go_ret
      exact ⟨rfl, hx.out.trans hx5⟩
end Go.Proofs.YtkgieciamophkaaDoor
