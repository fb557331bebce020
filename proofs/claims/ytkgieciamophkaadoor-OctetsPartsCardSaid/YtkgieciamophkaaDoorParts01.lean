/-
  The walk of OctetsParts. By an AI agent.
-/
import Derived.Test.YtkgieciamophkaaDoorLem01
import Derived.Deep.RegionHeld
namespace Go.Proofs.YtkgieciamophkaaDoor
open Go.RowKit

set_option maxRecDepth 100000 in
set_option maxHeartbeats 4000000 in
theorem parts_any (P : Nat → Prop) (A : Option Addr) (n c : Nat) (vs : Value) (l ls : List UInt8) (w : World) (hr : RB w P (.slice A n c) l) (hA : A = none → c = 0) (hs : RB w (fun _ => True) vs ls) (hg : ET w) :
    Calls Tryd.prog 6 #[.slice A n c, vs] w fun e w' => e = .returned (.bool true) ∧ Ex (fun _ => False) w w' := by
  have HG := Lib.hid hg
  clear hg
  obtain ⟨m, hm, hm1, HM⟩ : ∃ m : Nat, (if 200 < (l.length : Int) then (200 : Int) else (l.length : Int)) = (m : Int) ∧ m ≤ l.length ∧ Hid (m = (l.take 200).length) := by
    refine ⟨(l.take 200).length, ?_, by simp; omega, rfl⟩
    rw [List.length_take]; split <;> omega
  have hm200 : (l.take 200).length ≤ 200 := by simp; omega
  have HR0 := Lib.hid (hr.take 200)
  obtain ⟨hl, A0, c0, e0, hc, hcell⟩ := hr
  injection e0 with e1 e2 e3
  subst e1 e2 e3
  obtain ⟨hls, As, cs, rfl, hcs, hcells⟩ := hs
  have HS := Lib.hid hcells
  clear hcells hcell
  have hmi : (m : Int) ≤ (l.length : Int) := by omega
  have HA := Lib.hid hA
  clear hA
  go_enter Tryd.func6, Tryd.ntmps6
  go_wp2_with fail
  refine (shown1_any w HG.out).mono ?_
  rintro e w1 ⟨rfl, hx1⟩
  have HX1 := Lib.hid hx1
  clear hx1
  go_wp2_with fail
  obtain ⟨m0, hm0⟩ : ∃ m0, m0 = l.take 200 := ⟨_, rfl⟩
  rw [← hm0] at HM HR0 hm200
  clear hm0 hm
  have hM := HM.out
  subst hM
  have HB0 := Lib.hid (HR0.out.old)
  refine (read_any _ A m0.length c m0 w1 (HR0.out.keep HX1.out (fun _ _ _ => id)) HA.out (by omega)).mono ?_
  rintro e w2 ⟨p, g, rfl, hr2, hp2, hg2, hx2⟩
  have hxw := HX1.out.trans hx2
  have hsz := HX1.out.size
  have HX2 := Lib.hid hxw
  have HR2 := Lib.hid hr2
  have hpw : w.heap.size ≤ p := by omega
  have hgw : w.heap.size ≤ g := by omega
  clear hx2 hxw hr2 HR0 HX1 hp2 hg2
  go_wp2_with fail
  go_loopw [7, 8] (fun s i wr => ∃ (k o : Nat) (T R : List UInt8), k ≤ 40 ∧ i = .int .i64 (k : Int) ∧ s = .string (bs T) ∧ Hid (T ++ R = m0) ∧ T.length + R.length = m0.length ∧ Hid (RD wr p g o R) ∧ Hid (Ex (fun _ => False) w wr)) (fun _ i _ => 40 - (intOf i).toNat)
  case atStart => exact ⟨0, 0, [], m0, by omega, rfl, rfl, rfl, by simp, HR2, HX2⟩
  case round =>
    clear HR2 HX2
    obtain ⟨k, o, T, R, hk, rfl, rfl, hTR, hlen, hr, hx⟩ := hrel
    by_cases d1 : k < ls.length
    · by_cases d2 : k < 40
      · obtain ⟨bs0, offs, rfl, _, hks⟩ := HS.out k d1
        have hks := hx.out.cell hks id
        have hB := hx.out.size
        obtain ⟨n, hn, hn1⟩ : ∃ n : Nat, (ls[k].toNat : Int) % 21 = (n : Int) ∧ n < 21 := ⟨ls[k].toNat % 21, by omega, by omega⟩
        have hlt := (ls[k]).toNat_lt
        go_wp2_with fail
        refine (left_any p g o R wr hr.out).mono ?_
        rintro e w' ⟨rfl, rfl⟩
        go_wp2_with fail
        by_cases d3 : n ≤ R.length
        · have d3' : (n : Int) ≤ (R.length : Int) := by omega
          refine (rbytes_any p g o R n wr hr.out d3).mono ?_
          rintro e w5 ⟨u, rfl, A5, rfl, _, hb5, hr5, hx5⟩
          obtain ⟨Pc, hPc⟩ : ∃ Pc, Pc = R.take n := ⟨_, rfl⟩
          obtain ⟨R2, hR2⟩ : ∃ R2, R2 = R.drop n := ⟨_, rfl⟩
          obtain ⟨T2, hT2'⟩ : ∃ T2, T2 = T ++ Pc := ⟨_, rfl⟩
          have hT2 := Lib.hid hT2'.symm
          have hpl : Pc.length = n := by rw [hPc, List.length_take]; omega
          have hlen2 : T2.length + R2.length = m0.length := by rw [hT2', hR2, List.length_append, hpl, List.length_drop]; omega
          have hlT2 : T2.length = T.length + Pc.length := by rw [hT2', List.length_append]
          have HTR : Hid (T2 ++ R2 = m0) := by
            show T2 ++ R2 = m0
            rw [hT2', hPc, hR2, List.append_assoc, List.take_append_drop, hTR.out]
          rw [← hPc] at hb5
          rw [← hR2] at hr5
          have hcv := hb5.str (Pr := Tryd.prog) 23 9 5 Tryd.underlying23 Tryd.underlying5 Tryd.underlying9
          have HR5 := Lib.hid hr5
          have HX5 := Lib.hid (hx.out.andThen hx5 (fun i hi e => by omega))
          clear hb5 hr5 hx5 hr hx hPc hR2 hT2'
          have hbig : ¬ 9223372036854775807 < T2.length := by omega
          have hpb : Pc.length ≤ 200 := by omega
          have HLT := Lib.hid hlT2
          have HPL := Lib.hid hpl
          clear hlT2 hpl
          have hba := bs_append T Pc
          rw [hT2.out] at hba
          have hbz := bs_size T
          have hbp := bs_size Pc
          have hbt := bs_size T2
          go_wp2_with fail
          refine (left_any p g (o + n) R2 w5 HR5.out).mono ?_
          rintro e w' ⟨rfl, rfl⟩
          have q7 := IntWalk.i64_in ((m0.length : Int) - (T2.length : Int)) (by omega)
          have hb1 : ((R2.length : Int) != (m0.length : Int) - (T2.length : Int)) = false := by simp; omega
          go_wp2_with fail
          refine (rdone_any p g (o + n) R2 w5 HR5.out).mono ?_
          rintro e w6 ⟨hx6, hcase⟩
          have HX6 := Lib.hid (HX5.out.trans hx6)
          have HR6 := Lib.hid (HR5.out.keep hx6 id (fun _ => id))
          clear hx6
          rcases hcase with ⟨hnil, rfl, _⟩ | ⟨hne, v, rfl, hv⟩
          · have hb2 : ((T2.length : Int) == (m0.length : Int)) = true := by
              have : R2.length = 0 := by rw [hnil]; rfl
              simp; omega
            clear hnil
            go_wp2_with fail
            go_roundw
            case rel => exact ⟨k + 1, (o + n), T2, R2, by omega, by go_num, rfl, HTR.out, hlen2, HR6, HX6⟩
            case measure => simp [intOf]; omega
          · have hb2 : ((T2.length : Int) == (m0.length : Int)) = false := by
              have : 0 < R2.length := List.length_pos_iff.2 hne
              simp; omega
            obtain ⟨ty, y, rfl⟩ := hv.shape
            clear hne hv
            go_wp2_with fail
            go_roundw
            case rel => exact ⟨k + 1, (o + n), T2, R2, by omega, by go_num, rfl, HTR.out, hlen2, HR6, HX6⟩
            case measure => simp [intOf]; omega
        · have d3' : ¬ (n : Int) ≤ (R.length : Int) := by omega
          refine (rbytes_few p g o R n wr hr.out (by omega)).mono ?_
          rintro e w5 ⟨v5, rfl, he5, hx5⟩
          have hec := he5
          obtain ⟨ty5, y5, rfl⟩ := he5.shape
          have HE5 := Lib.hid hec
          have HX50 := Lib.hid (hx.out.trans hx5)
          have HR50 := Lib.hid (hr.out.keep hx5 id (fun _ => id))
          clear he5 hec hx5 hr hx
          go_wp2_with fail
          refine (code_any _ _ 2 _ w5 HE5.out (HG.out.keep HX50.out id)).mono ?_
          rintro e w51 ⟨rfl, hx51⟩
          have HX5 := Lib.hid (HX50.out.trans hx51)
          have HR5 := Lib.hid (HR50.out.keep hx51 id (fun _ => id))
          clear hx51 HX50 HR50 HE5
          go_wp2_with fail
          refine (left_any p g o R w51 HR5.out).mono ?_
          rintro e w' ⟨rfl, rfl⟩
          have hcv : (convert 23 9 (.slice none 0 0)).run Tryd.prog w51 = .ok (.string ⟨#[]⟩) w51 := (RB.nil w51 (fun _ => True)).str (Pr := Tryd.prog) 23 9 5 Tryd.underlying23 Tryd.underlying5 Tryd.underlying9
          have hbig : ¬ 9223372036854775807 < T.length := by omega
          have hba0 : bs T ++ (⟨#[]⟩ : ByteArray) = bs T := by rw [← bs_nil, bs_append, List.append_nil]
          have hbs0 : (⟨#[]⟩ : ByteArray).size = 0 := rfl
          have hbz := bs_size T
          go_wp2_with fail
          refine (left_any p g o R w51 HR5.out).mono ?_
          rintro e w' ⟨rfl, rfl⟩
          have q7 := IntWalk.i64_in ((m0.length : Int) - (T.length : Int)) (by omega)
          have hb1 : ((R.length : Int) != (m0.length : Int) - (T.length : Int)) = false := by simp; omega
          go_wp2_with fail
          refine (rdone_any p g o R w51 HR5.out).mono ?_
          rintro e w6 ⟨hx6, hcase⟩
          have HX6 := Lib.hid (HX5.out.trans hx6)
          have HR6 := Lib.hid (HR5.out.keep hx6 id (fun _ => id))
          clear hx6
          rcases hcase with ⟨hnil, rfl, _⟩ | ⟨hne, v, rfl, hv⟩
          · have hb2 : ((T.length : Int) == (m0.length : Int)) = true := by
              have : R.length = 0 := by rw [hnil]; rfl
              simp; omega
            clear hnil
            go_wp2_with fail
            go_roundw
            case rel => exact ⟨k + 1, o, T, R, by omega, by go_num, rfl, hTR.out, hlen, HR6, HX6⟩
            case measure => simp [intOf]; omega
          · have hb2 : ((T.length : Int) == (m0.length : Int)) = false := by
              have : 0 < R.length := List.length_pos_iff.2 hne
              simp; omega
            obtain ⟨ty, y, rfl⟩ := hv.shape
            clear hne hv
            go_wp2_with fail
            go_roundw
            case rel => exact ⟨k + 1, o, T, R, by omega, by go_num, rfl, hTR.out, hlen, HR6, HX6⟩
            case measure => simp [intOf]; omega
      ·
        have hbig : ¬ 9223372036854775807 < m0.length := by omega
        have hba := bs_append T R
        rw [hTR.out] at hba
        have hbz := bs_size T
        have hbp := bs_size R
        have hbt := bs_size m0
        have hvb : ∀ W, Ex (fun _ => False) w W → (convert 23 9 (.slice A m0.length c)).run Tryd.prog W = .ok (.string (bs m0)) W := conv_later HB0.out.any
        have hS : Ex (fun _ => False) w wr.drew := hx.out.drew
        have hrd := hr.out.keep (S := fun _ => False) (Ex.refl _ wr).drew id (fun _ => id)
        have HR := Lib.hid hrd
        clear hrd hr hx
        go_upto_region 18 with fail
        refine wp_region_held_drew (S := fun W => Ex (fun _ => False) w W) (by kernel_rfl) hS (fun _ => ?_)
        refine wpAnyH_take (i := 0) (oi := { dst := some 106, op := Go.Op.move (Go.Operand.tmp 5), type := 4, pos := "more.go:29", after := #[], guard := none }) (v := ?v1) rfl (by kernel_rfl) (by kernel_rfl) (by kernel_rfl) (fun _ _ _ h => h) (Or.inl ⟨by rfl, ?hy1⟩) (by assumption) ?rest1
        case hy1 => (intro w hSw; (try dsimp only at hSw); go_simp <;> with_reducible rfl)
        try simp only [Act.put, List.setIfInBounds_toArray, List.set_cons_zero, List.set_cons_succ]
        refine wpAnyH_take (i := 1) (oi := { dst := some 107, op := Go.Op.move (Go.Operand.tmp 106), type := 4, pos := "more.go:29", after := #[{ on := 0, ground := Go.Ground.data }], guard := none }) (v := ?v2) rfl (by kernel_rfl) (by kernel_rfl) (by kernel_rfl) (fun _ _ _ h => h) (Or.inl ⟨by rfl, ?hy2⟩) (by assumption) ?rest2
        case hy2 => (intro w hSw; (try dsimp only at hSw); go_simp <;> with_reducible rfl)
        try simp only [Act.put, List.setIfInBounds_toArray, List.set_cons_zero, List.set_cons_succ]
        refine wpAnyH_take (i := 2) (oi := { dst := some 108, op := Go.Op.move (Go.Operand.tmp 7), type := 9, pos := "more.go:29", after := #[{ on := 1, ground := Go.Ground.guard }], guard := some (1, true) }) (v := ?v3) rfl (by kernel_rfl) (by kernel_rfl) (by kernel_rfl) (fun _ _ _ h => h) (Or.inl ⟨by rfl, ?hy3⟩) (by assumption) ?rest3
        case hy3 => (intro w hSw; (try dsimp only at hSw); go_simp <;> with_reducible rfl)
        try simp only [Act.put, List.setIfInBounds_toArray, List.set_cons_zero, List.set_cons_succ]
        refine wpAnyH_take (i := 3) (oi := { dst := some 109, op := Go.Op.move (Go.Operand.tmp 6), type := 24, pos := "more.go:29", after := #[{ on := 1, ground := Go.Ground.guard }], guard := some (1, true) }) (v := ?v4) rfl (by kernel_rfl) (by kernel_rfl) (by kernel_rfl) (fun _ _ _ h => h) (Or.inl ⟨by rfl, ?hy4⟩) (by assumption) ?rest4
        case hy4 => (intro w hSw; (try dsimp only at hSw); go_simp <;> with_reducible rfl)
        try simp only [Act.put, List.setIfInBounds_toArray, List.set_cons_zero, List.set_cons_succ]
        refine wpAnyH_take (i := 7) (oi := { dst := some 113, op := Go.Op.move (Go.Operand.tmp 0), type := 23, pos := "more.go:29", after := #[{ on := 1, ground := Go.Ground.guard }], guard := some (1, true) }) (v := ?v5) rfl (by kernel_rfl) (by kernel_rfl) (by kernel_rfl) (fun _ _ _ h => h) (Or.inl ⟨by rfl, ?hy5⟩) (by assumption) ?rest5
        case hy5 => (intro w hSw; (try dsimp only at hSw); go_simp <;> with_reducible rfl)
        try simp only [Act.put, List.setIfInBounds_toArray, List.set_cons_zero, List.set_cons_succ]
        refine wpAnyH_take (i := 8) (oi := { dst := some 114, op := Go.Op.convert 23 9 (Go.Operand.tmp 113), type := 9, pos := "more.go:29", after := #[{ on := 7, ground := Go.Ground.data }, { on := 1, ground := Go.Ground.guard }], guard := some (1, true) }) (v := ?v6) rfl (by kernel_rfl) (by kernel_rfl) (by kernel_rfl) (fun _ _ _ h => h) (Or.inl ⟨by rfl, ?hy6⟩) (by assumption) ?rest6
        case hy6 => (intro w hSw; (try dsimp only at hSw); go_simp <;> with_reducible rfl)
        try simp only [Act.put, List.setIfInBounds_toArray, List.set_cons_zero, List.set_cons_succ]
        refine wpAnyH_ready (rs := [4]) (by kernel_rfl) (by simp) ?_
        refine AllReadyH.cons (o := { dst := some 110, op := Go.Op.call { callee := Go.Callee.value (Go.Operand.func 26), args := #[Go.Operand.tmp 109], argTypes := #[24] }, type := 23, pos := "more.go:29", after := #[{ on := 3, ground := Go.Ground.data }, { on := 1, ground := Go.Ground.chain }, { on := 1, ground := Go.Ground.guard }], guard := some (1, true) }) rfl (fun K hK => ?_) AllReadyH.nil
        go_simp
        refine (rest_any p g o R _ HR.out).mono ?_
        rintro e w7 ⟨u, rfl, A7, rfl, _, hb7, hr7, hx7⟩
        rw [List.take_length] at hb7
        rw [List.drop_length] at hr7
        have hS7 : Ex (fun _ => False) w w7 := hS.andThen hx7 (fun i hi e => by omega)
        refine hK.out _ _ hS7 (fun _ => ?_)
        have hvu : ∀ W, Ex (fun _ => False) w7 W → (convert 23 9 (.slice A7 R.length R.length)).run Tryd.prog W = .ok (.string (bs R)) W := conv_later hb7.any
        have hR7 := Ex.refl (fun _ => False) w7
        refine wpAnyH_strong (S' := fun W => Ex (fun _ => False) w7 W) (fun W h => hS7.trans h) _ _ _ _ ?_
        refine wpAnyH_take (i := 5) (oi := { dst := some 111, op := Go.Op.convert 23 9 (Go.Operand.tmp 110), type := 9, pos := "more.go:29", after := #[{ on := 4, ground := Go.Ground.data }, { on := 1, ground := Go.Ground.guard }], guard := some (1, true) }) (v := ?v7) rfl (by kernel_rfl) (by kernel_rfl) (by kernel_rfl) (fun _ _ _ h => h) (Or.inl ⟨by rfl, ?hy7⟩) (by assumption) ?rest7
        case hy7 => (intro w hSw; (try dsimp only at hSw); go_simp <;> with_reducible rfl)
        try simp only [Act.put, List.setIfInBounds_toArray, List.set_cons_zero, List.set_cons_succ]
        refine wpAnyH_take (i := 6) (oi := { dst := some 112, op := Go.Op.binOp Go.BinOp.add 9 (Go.Operand.tmp 108) (Go.Operand.tmp 111) 9, type := 9, pos := "more.go:29", after := #[{ on := 2, ground := Go.Ground.data }, { on := 5, ground := Go.Ground.data }, { on := 1, ground := Go.Ground.guard }], guard := some (1, true) }) (v := ?v8) rfl (by kernel_rfl) (by kernel_rfl) (by kernel_rfl) (fun _ _ _ h => h) (Or.inl ⟨by rfl, ?hy8⟩) (by assumption) ?rest8
        case hy8 => (intro w hSw; (try dsimp only at hSw); go_simp <;> with_reducible rfl)
        try simp only [Act.put, List.setIfInBounds_toArray, List.set_cons_zero, List.set_cons_succ]
        refine wpAnyH_take (i := 9) (oi := { dst := some 115, op := Go.Op.binOp Go.BinOp.eql 9 (Go.Operand.tmp 112) (Go.Operand.tmp 114) 9, type := 4, pos := "more.go:29", after := #[{ on := 6, ground := Go.Ground.data }, { on := 8, ground := Go.Ground.data }, { on := 1, ground := Go.Ground.guard }], guard := some (1, true) }) (v := ?v9) rfl (by kernel_rfl) (by kernel_rfl) (by kernel_rfl) (fun _ _ _ h => h) (Or.inl ⟨by rfl, ?hy9⟩) (by assumption) ?rest9
        case hy9 => (intro w hSw; (try dsimp only at hSw); go_simp <;> with_reducible rfl)
        try simp only [Act.put, List.setIfInBounds_toArray, List.set_cons_zero, List.set_cons_succ]
        refine wpAnyH_take (i := 10) (oi := { dst := some 116, op := Go.Op.pick (Go.Operand.tmp 107) (Go.Operand.tmp 115) (Go.Operand.const (Go.Value.bool false)), type := 4, pos := "more.go:29", after := #[{ on := 1, ground := Go.Ground.data }, { on := 9, ground := Go.Ground.data }], guard := none }) (v := ?v10) rfl (by kernel_rfl) (by kernel_rfl) (by kernel_rfl) (fun _ _ _ h => h) (Or.inl ⟨by rfl, ?hy10⟩) (by assumption) ?rest10
        case hy10 => (intro w hSw; (try dsimp only at hSw); go_simp <;> with_reducible rfl)
        try simp only [Act.put, List.setIfInBounds_toArray, List.set_cons_zero, List.set_cons_succ]
        refine wpAnyH_take (i := 11) (oi := { dst := some 117, op := Go.Op.move (Go.Operand.tmp 116), type := 4, pos := "more.go:29", after := #[{ on := 10, ground := Go.Ground.data }, { on := 4, ground := Go.Ground.chain }], guard := none }) (v := ?v11) rfl (by kernel_rfl) (by kernel_rfl) (by kernel_rfl) (fun _ _ _ h => h) (Or.inl ⟨by rfl, ?hy11⟩) (by assumption) ?rest11
        case hy11 => (intro w hSw; (try dsimp only at hSw); go_simp <;> with_reducible rfl)
        try simp only [Act.put, List.setIfInBounds_toArray, List.set_cons_zero, List.set_cons_succ]
        refine wpAnyH_take (i := 12) (oi := { dst := some 118, op := Go.Op.move (Go.Operand.tmp 6), type := 24, pos := "more.go:29", after := #[{ on := 11, ground := Go.Ground.guard }], guard := some (11, true) }) (v := ?v12) rfl (by kernel_rfl) (by kernel_rfl) (by kernel_rfl) (fun _ _ _ h => h) (Or.inl ⟨by rfl, ?hy12⟩) (by assumption) ?rest12
        case hy12 => (intro w hSw; (try dsimp only at hSw); go_simp <;> with_reducible rfl)
        try simp only [Act.put, List.setIfInBounds_toArray, List.set_cons_zero, List.set_cons_succ]
        refine wpAnyH_ready (rs := [13]) (by kernel_rfl) (by simp) ?_
        refine AllReadyH.cons (o := { dst := some 119, op := Go.Op.call { callee := Go.Callee.value (Go.Operand.func 27), args := #[Go.Operand.tmp 118], argTypes := #[24] }, type := 3, pos := "more.go:29", after := #[{ on := 12, ground := Go.Ground.data }, { on := 11, ground := Go.Ground.chain }, { on := 11, ground := Go.Ground.guard }], guard := some (11, true) }) rfl (fun K hK => ?_) AllReadyH.nil
        go_simp
        refine (left_any p g _ [] _ hr7).mono ?_
        rintro e w' ⟨rfl, rfl⟩
        refine hK.out _ _ hR7 (fun _ => ?_)
        refine wpAnyH_take (i := 14) (oi := { dst := some 120, op := Go.Op.binOp Go.BinOp.eql 3 (Go.Operand.tmp 119) (Go.Operand.const (Go.Value.int Go.IntKind.i64 0)) 3, type := 4, pos := "more.go:29", after := #[{ on := 13, ground := Go.Ground.data }, { on := 11, ground := Go.Ground.guard }], guard := some (11, true) }) (v := ?v13) rfl (by kernel_rfl) (by kernel_rfl) (by kernel_rfl) (fun _ _ _ h => h) (Or.inl ⟨by rfl, ?hy13⟩) (by assumption) ?rest13
        case hy13 => (intro w hSw; (try dsimp only at hSw); go_simp <;> with_reducible rfl)
        try simp only [Act.put, List.setIfInBounds_toArray, List.set_cons_zero, List.set_cons_succ]
        refine wpAnyH_take (i := 15) (oi := { dst := some 121, op := Go.Op.pick (Go.Operand.tmp 117) (Go.Operand.tmp 120) (Go.Operand.const (Go.Value.bool false)), type := 4, pos := "more.go:29", after := #[{ on := 11, ground := Go.Ground.data }, { on := 14, ground := Go.Ground.data }], guard := none }) (v := ?v14) rfl (by kernel_rfl) (by kernel_rfl) (by kernel_rfl) (fun _ _ _ h => h) (Or.inl ⟨by rfl, ?hy14⟩) (by assumption) ?rest14
        case hy14 => (intro w hSw; (try dsimp only at hSw); go_simp <;> with_reducible rfl)
        try simp only [Act.put, List.setIfInBounds_toArray, List.set_cons_zero, List.set_cons_succ]
        refine wpAnyH_take (i := 16) (oi := { dst := some 122, op := Go.Op.move (Go.Operand.tmp 121), type := 4, pos := "more.go:29", after := #[{ on := 15, ground := Go.Ground.data }, { on := 13, ground := Go.Ground.chain }], guard := none }) (v := ?v15) rfl (by kernel_rfl) (by kernel_rfl) (by kernel_rfl) (fun _ _ _ h => h) (Or.inl ⟨by rfl, ?hy15⟩) (by assumption) ?rest15
        case hy15 => (intro w hSw; (try dsimp only at hSw); go_simp <;> with_reducible rfl)
        try simp only [Act.put, List.setIfInBounds_toArray, List.set_cons_zero, List.set_cons_succ]
        refine wpAnyH_take (i := 17) (oi := { dst := some 123, op := Go.Op.move (Go.Operand.tmp 6), type := 24, pos := "more.go:29", after := #[{ on := 16, ground := Go.Ground.guard }], guard := some (16, true) }) (v := ?v16) rfl (by kernel_rfl) (by kernel_rfl) (by kernel_rfl) (fun _ _ _ h => h) (Or.inl ⟨by rfl, ?hy16⟩) (by assumption) ?rest16
        case hy16 => (intro w hSw; (try dsimp only at hSw); go_simp <;> with_reducible rfl)
        try simp only [Act.put, List.setIfInBounds_toArray, List.set_cons_zero, List.set_cons_succ]
        refine wpAnyH_ready (rs := [18]) (by kernel_rfl) (by simp) ?_
        refine AllReadyH.cons (o := { dst := some 124, op := Go.Op.call { callee := Go.Callee.value (Go.Operand.func 30), args := #[Go.Operand.tmp 123], argTypes := #[24] }, type := 28, pos := "more.go:29", after := #[{ on := 17, ground := Go.Ground.data }, { on := 16, ground := Go.Ground.chain }, { on := 16, ground := Go.Ground.guard }], guard := some (16, true) }) rfl (fun K hK => ?_) AllReadyH.nil
        go_simp
        refine (rdone_any p g _ [] _ hr7).mono ?_
        rintro e w8 ⟨hx8, hcase⟩
        obtain ⟨rfl, rfl⟩ : e = .returned .nilIface ∧ w7 = w8 := by (rcases hcase with ⟨_, h1, h2⟩ | ⟨h, _⟩; exact ⟨h1, h2⟩; exact absurd rfl h)
        refine hK.out _ _ hx8 (fun _ => ?_)
        refine wpAnyH_take (i := 19) (oi := { dst := some 125, op := Go.Op.binOp Go.BinOp.eql 28 (Go.Operand.tmp 124) (Go.Operand.const Go.Value.nilIface) 28, type := 4, pos := "more.go:29", after := #[{ on := 18, ground := Go.Ground.data }, { on := 16, ground := Go.Ground.guard }], guard := some (16, true) }) (v := ?v17) rfl (by kernel_rfl) (by kernel_rfl) (by kernel_rfl) (fun _ _ _ h => h) (Or.inl ⟨by rfl, ?hy17⟩) (by assumption) ?rest17
        case hy17 => (intro w hSw; (try dsimp only at hSw); go_simp <;> with_reducible rfl)
        try simp only [Act.put, List.setIfInBounds_toArray, List.set_cons_zero, List.set_cons_succ]
        refine wpAnyH_take (i := 20) (oi := { dst := some 126, op := Go.Op.pick (Go.Operand.tmp 122) (Go.Operand.tmp 125) (Go.Operand.const (Go.Value.bool false)), type := 4, pos := "more.go:29", after := #[{ on := 16, ground := Go.Ground.data }, { on := 19, ground := Go.Ground.data }], guard := none }) (v := ?v18) rfl (by kernel_rfl) (by kernel_rfl) (by kernel_rfl) (fun _ _ _ h => h) (Or.inl ⟨by rfl, ?hy18⟩) (by assumption) ?rest18
        case hy18 => (intro w hSw; (try dsimp only at hSw); go_simp <;> with_reducible rfl)
        try simp only [Act.put, List.setIfInBounds_toArray, List.set_cons_zero, List.set_cons_succ]
        refine wpAnyH_take (i := 21) (oi := { dst := some 4, op := Go.Op.assign (Go.Operand.tmp 126), type := 4, pos := "more.go:29", after := #[{ on := 20, ground := Go.Ground.data }, { on := 18, ground := Go.Ground.chain }, { on := 0, ground := Go.Ground.phase }, { on := 1, ground := Go.Ground.phase }, { on := 2, ground := Go.Ground.phase }, { on := 3, ground := Go.Ground.phase }, { on := 4, ground := Go.Ground.phase }, { on := 5, ground := Go.Ground.phase }, { on := 6, ground := Go.Ground.phase }, { on := 7, ground := Go.Ground.phase }, { on := 8, ground := Go.Ground.phase }, { on := 9, ground := Go.Ground.phase }, { on := 10, ground := Go.Ground.phase }, { on := 11, ground := Go.Ground.phase }, { on := 12, ground := Go.Ground.phase }, { on := 13, ground := Go.Ground.phase }, { on := 14, ground := Go.Ground.phase }, { on := 15, ground := Go.Ground.phase }, { on := 16, ground := Go.Ground.phase }, { on := 17, ground := Go.Ground.phase }, { on := 18, ground := Go.Ground.phase }, { on := 19, ground := Go.Ground.phase }, { on := 20, ground := Go.Ground.phase }], guard := none }) (v := ?v19) rfl (by kernel_rfl) (by kernel_rfl) (by kernel_rfl) (fun _ _ _ h => h) (Or.inl ⟨by rfl, ?hy19⟩) (by assumption) ?rest19
        case hy19 => (intro w hSw; (try dsimp only at hSw); go_simp <;> with_reducible rfl)
        try simp only [Act.put, List.setIfInBounds_toArray, List.set_cons_zero, List.set_cons_succ]
        refine wpAnyH_done (by kernel_rfl) ?_ _
        go_wp2
        go_ret
        exact ⟨rfl, hS7⟩
    ·
        have hbig : ¬ 9223372036854775807 < m0.length := by omega
        have hba := bs_append T R
        rw [hTR.out] at hba
        have hbz := bs_size T
        have hbp := bs_size R
        have hbt := bs_size m0
        have hvb : ∀ W, Ex (fun _ => False) w W → (convert 23 9 (.slice A m0.length c)).run Tryd.prog W = .ok (.string (bs m0)) W := conv_later HB0.out.any
        have hS : Ex (fun _ => False) w wr.drew := hx.out.drew
        have hrd := hr.out.keep (S := fun _ => False) (Ex.refl _ wr).drew id (fun _ => id)
        have HR := Lib.hid hrd
        clear hrd hr hx
        go_upto_region 18 with fail
        refine wp_region_held_drew (S := fun W => Ex (fun _ => False) w W) (by kernel_rfl) hS (fun _ => ?_)
        refine wpAnyH_take (i := 0) (oi := { dst := some 106, op := Go.Op.move (Go.Operand.tmp 5), type := 4, pos := "more.go:29", after := #[], guard := none }) (v := ?v20) rfl (by kernel_rfl) (by kernel_rfl) (by kernel_rfl) (fun _ _ _ h => h) (Or.inl ⟨by rfl, ?hy20⟩) (by assumption) ?rest20
        case hy20 => (intro w hSw; (try dsimp only at hSw); go_simp <;> with_reducible rfl)
        try simp only [Act.put, List.setIfInBounds_toArray, List.set_cons_zero, List.set_cons_succ]
        refine wpAnyH_take (i := 1) (oi := { dst := some 107, op := Go.Op.move (Go.Operand.tmp 106), type := 4, pos := "more.go:29", after := #[{ on := 0, ground := Go.Ground.data }], guard := none }) (v := ?v21) rfl (by kernel_rfl) (by kernel_rfl) (by kernel_rfl) (fun _ _ _ h => h) (Or.inl ⟨by rfl, ?hy21⟩) (by assumption) ?rest21
        case hy21 => (intro w hSw; (try dsimp only at hSw); go_simp <;> with_reducible rfl)
        try simp only [Act.put, List.setIfInBounds_toArray, List.set_cons_zero, List.set_cons_succ]
        refine wpAnyH_take (i := 2) (oi := { dst := some 108, op := Go.Op.move (Go.Operand.tmp 7), type := 9, pos := "more.go:29", after := #[{ on := 1, ground := Go.Ground.guard }], guard := some (1, true) }) (v := ?v22) rfl (by kernel_rfl) (by kernel_rfl) (by kernel_rfl) (fun _ _ _ h => h) (Or.inl ⟨by rfl, ?hy22⟩) (by assumption) ?rest22
        case hy22 => (intro w hSw; (try dsimp only at hSw); go_simp <;> with_reducible rfl)
        try simp only [Act.put, List.setIfInBounds_toArray, List.set_cons_zero, List.set_cons_succ]
        refine wpAnyH_take (i := 3) (oi := { dst := some 109, op := Go.Op.move (Go.Operand.tmp 6), type := 24, pos := "more.go:29", after := #[{ on := 1, ground := Go.Ground.guard }], guard := some (1, true) }) (v := ?v23) rfl (by kernel_rfl) (by kernel_rfl) (by kernel_rfl) (fun _ _ _ h => h) (Or.inl ⟨by rfl, ?hy23⟩) (by assumption) ?rest23
        case hy23 => (intro w hSw; (try dsimp only at hSw); go_simp <;> with_reducible rfl)
        try simp only [Act.put, List.setIfInBounds_toArray, List.set_cons_zero, List.set_cons_succ]
        refine wpAnyH_take (i := 7) (oi := { dst := some 113, op := Go.Op.move (Go.Operand.tmp 0), type := 23, pos := "more.go:29", after := #[{ on := 1, ground := Go.Ground.guard }], guard := some (1, true) }) (v := ?v24) rfl (by kernel_rfl) (by kernel_rfl) (by kernel_rfl) (fun _ _ _ h => h) (Or.inl ⟨by rfl, ?hy24⟩) (by assumption) ?rest24
        case hy24 => (intro w hSw; (try dsimp only at hSw); go_simp <;> with_reducible rfl)
        try simp only [Act.put, List.setIfInBounds_toArray, List.set_cons_zero, List.set_cons_succ]
        refine wpAnyH_take (i := 8) (oi := { dst := some 114, op := Go.Op.convert 23 9 (Go.Operand.tmp 113), type := 9, pos := "more.go:29", after := #[{ on := 7, ground := Go.Ground.data }, { on := 1, ground := Go.Ground.guard }], guard := some (1, true) }) (v := ?v25) rfl (by kernel_rfl) (by kernel_rfl) (by kernel_rfl) (fun _ _ _ h => h) (Or.inl ⟨by rfl, ?hy25⟩) (by assumption) ?rest25
        case hy25 => (intro w hSw; (try dsimp only at hSw); go_simp <;> with_reducible rfl)
        try simp only [Act.put, List.setIfInBounds_toArray, List.set_cons_zero, List.set_cons_succ]
        refine wpAnyH_ready (rs := [4]) (by kernel_rfl) (by simp) ?_
        refine AllReadyH.cons (o := { dst := some 110, op := Go.Op.call { callee := Go.Callee.value (Go.Operand.func 26), args := #[Go.Operand.tmp 109], argTypes := #[24] }, type := 23, pos := "more.go:29", after := #[{ on := 3, ground := Go.Ground.data }, { on := 1, ground := Go.Ground.chain }, { on := 1, ground := Go.Ground.guard }], guard := some (1, true) }) rfl (fun K hK => ?_) AllReadyH.nil
        go_simp
        refine (rest_any p g o R _ HR.out).mono ?_
        rintro e w7 ⟨u, rfl, A7, rfl, _, hb7, hr7, hx7⟩
        rw [List.take_length] at hb7
        rw [List.drop_length] at hr7
        have hS7 : Ex (fun _ => False) w w7 := hS.andThen hx7 (fun i hi e => by omega)
        refine hK.out _ _ hS7 (fun _ => ?_)
        have hvu : ∀ W, Ex (fun _ => False) w7 W → (convert 23 9 (.slice A7 R.length R.length)).run Tryd.prog W = .ok (.string (bs R)) W := conv_later hb7.any
        have hR7 := Ex.refl (fun _ => False) w7
        refine wpAnyH_strong (S' := fun W => Ex (fun _ => False) w7 W) (fun W h => hS7.trans h) _ _ _ _ ?_
        refine wpAnyH_take (i := 5) (oi := { dst := some 111, op := Go.Op.convert 23 9 (Go.Operand.tmp 110), type := 9, pos := "more.go:29", after := #[{ on := 4, ground := Go.Ground.data }, { on := 1, ground := Go.Ground.guard }], guard := some (1, true) }) (v := ?v26) rfl (by kernel_rfl) (by kernel_rfl) (by kernel_rfl) (fun _ _ _ h => h) (Or.inl ⟨by rfl, ?hy26⟩) (by assumption) ?rest26
        case hy26 => (intro w hSw; (try dsimp only at hSw); go_simp <;> with_reducible rfl)
        try simp only [Act.put, List.setIfInBounds_toArray, List.set_cons_zero, List.set_cons_succ]
        refine wpAnyH_take (i := 6) (oi := { dst := some 112, op := Go.Op.binOp Go.BinOp.add 9 (Go.Operand.tmp 108) (Go.Operand.tmp 111) 9, type := 9, pos := "more.go:29", after := #[{ on := 2, ground := Go.Ground.data }, { on := 5, ground := Go.Ground.data }, { on := 1, ground := Go.Ground.guard }], guard := some (1, true) }) (v := ?v27) rfl (by kernel_rfl) (by kernel_rfl) (by kernel_rfl) (fun _ _ _ h => h) (Or.inl ⟨by rfl, ?hy27⟩) (by assumption) ?rest27
        case hy27 => (intro w hSw; (try dsimp only at hSw); go_simp <;> with_reducible rfl)
        try simp only [Act.put, List.setIfInBounds_toArray, List.set_cons_zero, List.set_cons_succ]
        refine wpAnyH_take (i := 9) (oi := { dst := some 115, op := Go.Op.binOp Go.BinOp.eql 9 (Go.Operand.tmp 112) (Go.Operand.tmp 114) 9, type := 4, pos := "more.go:29", after := #[{ on := 6, ground := Go.Ground.data }, { on := 8, ground := Go.Ground.data }, { on := 1, ground := Go.Ground.guard }], guard := some (1, true) }) (v := ?v28) rfl (by kernel_rfl) (by kernel_rfl) (by kernel_rfl) (fun _ _ _ h => h) (Or.inl ⟨by rfl, ?hy28⟩) (by assumption) ?rest28
        case hy28 => (intro w hSw; (try dsimp only at hSw); go_simp <;> with_reducible rfl)
        try simp only [Act.put, List.setIfInBounds_toArray, List.set_cons_zero, List.set_cons_succ]
        refine wpAnyH_take (i := 10) (oi := { dst := some 116, op := Go.Op.pick (Go.Operand.tmp 107) (Go.Operand.tmp 115) (Go.Operand.const (Go.Value.bool false)), type := 4, pos := "more.go:29", after := #[{ on := 1, ground := Go.Ground.data }, { on := 9, ground := Go.Ground.data }], guard := none }) (v := ?v29) rfl (by kernel_rfl) (by kernel_rfl) (by kernel_rfl) (fun _ _ _ h => h) (Or.inl ⟨by rfl, ?hy29⟩) (by assumption) ?rest29
        case hy29 => (intro w hSw; (try dsimp only at hSw); go_simp <;> with_reducible rfl)
        try simp only [Act.put, List.setIfInBounds_toArray, List.set_cons_zero, List.set_cons_succ]
        refine wpAnyH_take (i := 11) (oi := { dst := some 117, op := Go.Op.move (Go.Operand.tmp 116), type := 4, pos := "more.go:29", after := #[{ on := 10, ground := Go.Ground.data }, { on := 4, ground := Go.Ground.chain }], guard := none }) (v := ?v30) rfl (by kernel_rfl) (by kernel_rfl) (by kernel_rfl) (fun _ _ _ h => h) (Or.inl ⟨by rfl, ?hy30⟩) (by assumption) ?rest30
        case hy30 => (intro w hSw; (try dsimp only at hSw); go_simp <;> with_reducible rfl)
        try simp only [Act.put, List.setIfInBounds_toArray, List.set_cons_zero, List.set_cons_succ]
        refine wpAnyH_take (i := 12) (oi := { dst := some 118, op := Go.Op.move (Go.Operand.tmp 6), type := 24, pos := "more.go:29", after := #[{ on := 11, ground := Go.Ground.guard }], guard := some (11, true) }) (v := ?v31) rfl (by kernel_rfl) (by kernel_rfl) (by kernel_rfl) (fun _ _ _ h => h) (Or.inl ⟨by rfl, ?hy31⟩) (by assumption) ?rest31
        case hy31 => (intro w hSw; (try dsimp only at hSw); go_simp <;> with_reducible rfl)
        try simp only [Act.put, List.setIfInBounds_toArray, List.set_cons_zero, List.set_cons_succ]
        refine wpAnyH_ready (rs := [13]) (by kernel_rfl) (by simp) ?_
        refine AllReadyH.cons (o := { dst := some 119, op := Go.Op.call { callee := Go.Callee.value (Go.Operand.func 27), args := #[Go.Operand.tmp 118], argTypes := #[24] }, type := 3, pos := "more.go:29", after := #[{ on := 12, ground := Go.Ground.data }, { on := 11, ground := Go.Ground.chain }, { on := 11, ground := Go.Ground.guard }], guard := some (11, true) }) rfl (fun K hK => ?_) AllReadyH.nil
        go_simp
        refine (left_any p g _ [] _ hr7).mono ?_
        rintro e w' ⟨rfl, rfl⟩
        refine hK.out _ _ hR7 (fun _ => ?_)
        refine wpAnyH_take (i := 14) (oi := { dst := some 120, op := Go.Op.binOp Go.BinOp.eql 3 (Go.Operand.tmp 119) (Go.Operand.const (Go.Value.int Go.IntKind.i64 0)) 3, type := 4, pos := "more.go:29", after := #[{ on := 13, ground := Go.Ground.data }, { on := 11, ground := Go.Ground.guard }], guard := some (11, true) }) (v := ?v32) rfl (by kernel_rfl) (by kernel_rfl) (by kernel_rfl) (fun _ _ _ h => h) (Or.inl ⟨by rfl, ?hy32⟩) (by assumption) ?rest32
        case hy32 => (intro w hSw; (try dsimp only at hSw); go_simp <;> with_reducible rfl)
        try simp only [Act.put, List.setIfInBounds_toArray, List.set_cons_zero, List.set_cons_succ]
        refine wpAnyH_take (i := 15) (oi := { dst := some 121, op := Go.Op.pick (Go.Operand.tmp 117) (Go.Operand.tmp 120) (Go.Operand.const (Go.Value.bool false)), type := 4, pos := "more.go:29", after := #[{ on := 11, ground := Go.Ground.data }, { on := 14, ground := Go.Ground.data }], guard := none }) (v := ?v33) rfl (by kernel_rfl) (by kernel_rfl) (by kernel_rfl) (fun _ _ _ h => h) (Or.inl ⟨by rfl, ?hy33⟩) (by assumption) ?rest33
        case hy33 => (intro w hSw; (try dsimp only at hSw); go_simp <;> with_reducible rfl)
        try simp only [Act.put, List.setIfInBounds_toArray, List.set_cons_zero, List.set_cons_succ]
        refine wpAnyH_take (i := 16) (oi := { dst := some 122, op := Go.Op.move (Go.Operand.tmp 121), type := 4, pos := "more.go:29", after := #[{ on := 15, ground := Go.Ground.data }, { on := 13, ground := Go.Ground.chain }], guard := none }) (v := ?v34) rfl (by kernel_rfl) (by kernel_rfl) (by kernel_rfl) (fun _ _ _ h => h) (Or.inl ⟨by rfl, ?hy34⟩) (by assumption) ?rest34
        case hy34 => (intro w hSw; (try dsimp only at hSw); go_simp <;> with_reducible rfl)
        try simp only [Act.put, List.setIfInBounds_toArray, List.set_cons_zero, List.set_cons_succ]
        refine wpAnyH_take (i := 17) (oi := { dst := some 123, op := Go.Op.move (Go.Operand.tmp 6), type := 24, pos := "more.go:29", after := #[{ on := 16, ground := Go.Ground.guard }], guard := some (16, true) }) (v := ?v35) rfl (by kernel_rfl) (by kernel_rfl) (by kernel_rfl) (fun _ _ _ h => h) (Or.inl ⟨by rfl, ?hy35⟩) (by assumption) ?rest35
        case hy35 => (intro w hSw; (try dsimp only at hSw); go_simp <;> with_reducible rfl)
        try simp only [Act.put, List.setIfInBounds_toArray, List.set_cons_zero, List.set_cons_succ]
        refine wpAnyH_ready (rs := [18]) (by kernel_rfl) (by simp) ?_
        refine AllReadyH.cons (o := { dst := some 124, op := Go.Op.call { callee := Go.Callee.value (Go.Operand.func 30), args := #[Go.Operand.tmp 123], argTypes := #[24] }, type := 28, pos := "more.go:29", after := #[{ on := 17, ground := Go.Ground.data }, { on := 16, ground := Go.Ground.chain }, { on := 16, ground := Go.Ground.guard }], guard := some (16, true) }) rfl (fun K hK => ?_) AllReadyH.nil
        go_simp
        refine (rdone_any p g _ [] _ hr7).mono ?_
        rintro e w8 ⟨hx8, hcase⟩
        obtain ⟨rfl, rfl⟩ : e = .returned .nilIface ∧ w7 = w8 := by (rcases hcase with ⟨_, h1, h2⟩ | ⟨h, _⟩; exact ⟨h1, h2⟩; exact absurd rfl h)
        refine hK.out _ _ hx8 (fun _ => ?_)
        refine wpAnyH_take (i := 19) (oi := { dst := some 125, op := Go.Op.binOp Go.BinOp.eql 28 (Go.Operand.tmp 124) (Go.Operand.const Go.Value.nilIface) 28, type := 4, pos := "more.go:29", after := #[{ on := 18, ground := Go.Ground.data }, { on := 16, ground := Go.Ground.guard }], guard := some (16, true) }) (v := ?v36) rfl (by kernel_rfl) (by kernel_rfl) (by kernel_rfl) (fun _ _ _ h => h) (Or.inl ⟨by rfl, ?hy36⟩) (by assumption) ?rest36
        case hy36 => (intro w hSw; (try dsimp only at hSw); go_simp <;> with_reducible rfl)
        try simp only [Act.put, List.setIfInBounds_toArray, List.set_cons_zero, List.set_cons_succ]
        refine wpAnyH_take (i := 20) (oi := { dst := some 126, op := Go.Op.pick (Go.Operand.tmp 122) (Go.Operand.tmp 125) (Go.Operand.const (Go.Value.bool false)), type := 4, pos := "more.go:29", after := #[{ on := 16, ground := Go.Ground.data }, { on := 19, ground := Go.Ground.data }], guard := none }) (v := ?v37) rfl (by kernel_rfl) (by kernel_rfl) (by kernel_rfl) (fun _ _ _ h => h) (Or.inl ⟨by rfl, ?hy37⟩) (by assumption) ?rest37
        case hy37 => (intro w hSw; (try dsimp only at hSw); go_simp <;> with_reducible rfl)
        try simp only [Act.put, List.setIfInBounds_toArray, List.set_cons_zero, List.set_cons_succ]
        refine wpAnyH_take (i := 21) (oi := { dst := some 4, op := Go.Op.assign (Go.Operand.tmp 126), type := 4, pos := "more.go:29", after := #[{ on := 20, ground := Go.Ground.data }, { on := 18, ground := Go.Ground.chain }, { on := 0, ground := Go.Ground.phase }, { on := 1, ground := Go.Ground.phase }, { on := 2, ground := Go.Ground.phase }, { on := 3, ground := Go.Ground.phase }, { on := 4, ground := Go.Ground.phase }, { on := 5, ground := Go.Ground.phase }, { on := 6, ground := Go.Ground.phase }, { on := 7, ground := Go.Ground.phase }, { on := 8, ground := Go.Ground.phase }, { on := 9, ground := Go.Ground.phase }, { on := 10, ground := Go.Ground.phase }, { on := 11, ground := Go.Ground.phase }, { on := 12, ground := Go.Ground.phase }, { on := 13, ground := Go.Ground.phase }, { on := 14, ground := Go.Ground.phase }, { on := 15, ground := Go.Ground.phase }, { on := 16, ground := Go.Ground.phase }, { on := 17, ground := Go.Ground.phase }, { on := 18, ground := Go.Ground.phase }, { on := 19, ground := Go.Ground.phase }, { on := 20, ground := Go.Ground.phase }], guard := none }) (v := ?v38) rfl (by kernel_rfl) (by kernel_rfl) (by kernel_rfl) (fun _ _ _ h => h) (Or.inl ⟨by rfl, ?hy38⟩) (by assumption) ?rest38
        case hy38 => (intro w hSw; (try dsimp only at hSw); go_simp <;> with_reducible rfl)
        try simp only [Act.put, List.setIfInBounds_toArray, List.set_cons_zero, List.set_cons_succ]
        refine wpAnyH_done (by kernel_rfl) ?_ _
        go_wp2
        go_ret
        exact ⟨rfl, hS7⟩
end Go.Proofs.YtkgieciamophkaaDoor
