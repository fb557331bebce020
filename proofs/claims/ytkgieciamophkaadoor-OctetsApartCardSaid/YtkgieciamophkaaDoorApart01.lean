/-
  The walk of OctetsApart. By an AI agent.
-/
import Derived.Test.YtkgieciamophkaaDoorOct2
import Derived.Test.YtkgieciamophkaaDoorOpenBool
import Derived.Test.YtkgieciamophkaaDoorPuts
import Derived.Deep.DeepCutAuto
import Derived.Deep.CutBlock
import Derived.Deep.RegionHeld
import Derived.Deep.QuietTactic
import Derived.BigQuiet
namespace Go.Proofs.YtkgieciamophkaaDoor
open Go.RowKit

set_option maxRecDepth 100000 in
set_option maxHeartbeats 4000000 in
theorem apart_any (v vb : Value) (ps : List (Int × Int × List UInt8)) (lb : List Bool) (w : World) (hr : RP w v ps) (hrb : RBL w vb lb) (hg : ET w) : Calls Tryd.prog 5 #[v, vb] w fun e w' => e = .returned (.bool true) ∧ Ex (fun _ => False) w w' := by
  have HG := Lib.hid hg
  clear hg
  obtain ⟨hpl, A, c, rfl, hc, hcell⟩ := hr
  have HP := Lib.hid hcell
  clear hcell
  obtain ⟨hbl, Ab, cb, rfl, hcb, hcellb⟩ := hrb
  have HB := Lib.hid hcellb
  clear hcellb
  go_enter Tryd.func5, Tryd.ntmps5
  go_wp2_with fail
  refine (shown1_any w HG.out).mono ?_
  rintro e w1 ⟨rfl, hx1⟩
  have HX1 := Lib.hid hx1
  clear hx1
  go_upto_block 0 with fail
  have hsz := HX1.out.size
  have hap0 := AP.zero w1 w.heap.size hsz 52 53
  have hx0 := (HX1.out.alloc (.cells #[.slice none 0 0, .slice none 0 0] 52)).alloc (.cells #[.string ⟨#[]⟩, .string ⟨#[]⟩] 53)
  generalize (w1.alloc (.cells #[.slice none 0 0, .slice none 0 0] 52)).alloc (.cells #[.string ⟨#[]⟩, .string ⟨#[]⟩] 53) = w2 at hap0 hx0 ⊢
  obtain ⟨p, hp⟩ : ∃ p, p = w1.heap.size := ⟨_, rfl⟩
  obtain ⟨t, ht⟩ : ∃ t, t = w1.heap.size + 1 := ⟨_, rfl⟩
  rw [← ht, ← hp] at hap0
  have HAP0 := Lib.hid hap0
  have HX0 := Lib.hid hx0
  try simp only [← ht]
  try simp only [← hp]
  have hbp : w.heap.size ≤ p := hap0.bp
  have hbt : w.heap.size ≤ t := hap0.bt
  clear hap0 hx0 hp ht HX1
  go_cut [8] (fun i wx => ∃ (q0 q1 : Option Nat) (l0 l1 : List UInt8), l0.length ≤ 1500 ∧ l1.length ≤ 1500 ∧ Hid (AP wx w.heap.size p t q0 q1 l0 l1) ∧ Hid (Ex (fun _ => False) w wx))
  case first =>
    go_wp2_with fail
    go_loopw [8] (fun i wr => ∃ (k : Nat) (q0 q1 : Option Nat) (l0 l1 : List UInt8), k ≤ 30 ∧ i = .int .i64 (k : Int) ∧ l0.length ≤ 50 * k ∧ l1.length ≤ 50 * k ∧ Hid (AP wr w.heap.size p t q0 q1 l0 l1) ∧ Hid (Ex (fun _ => False) w wr)) (fun i _ => 30 - (intOf i).toNat)
    case atStart => exact ⟨0, none, none, [], [], by omega, rfl, by simp, by simp, HAP0, HX0⟩
    case round =>
      clear HAP0 HX0
      obtain ⟨k, q0, q1, l0, l1, hk, rfl, hl0, hl1', hap, hx⟩ := hrel
      by_cases d1 : k < ps.length
      · by_cases d2 : k < 30
        · obtain ⟨b, off, A', c', rfl, hp⟩ := HP.out k d1
          have HPA := Lib.hid (hp.keep hx.out)
          have HPW := Lib.hid hp
          clear hp
          generalize ps[k].1 = kd at HPA HPW
          generalize ps[k].2.1 = nm at HPA HPW
          generalize ps[k].2.2 = lbb at HPA HPW
          have g3 := HPA.out.row
          obtain ⟨lp, hm, hm1, hm50, hl1⟩ : ∃ lp : List UInt8, (if 50 < (lbb.length : Int) then (50 : Int) else (lbb.length : Int)) = (lp.length : Int) ∧ lp.length ≤ lbb.length ∧ lp.length ≤ 50 ∧ Hid (lp = lbb.take 50) := by
            refine ⟨lbb.take 50, ?_, by simp; omega, by simp; omega, rfl⟩
            rw [List.length_take]; split <;> omega
          have hmi : (lp.length : Int) ≤ (lbb.length : Int) := by omega
          have g8 := HPA.out.cap
          have g9 : lp.length ≤ c' := by omega
          have HRBW : Hid (RB w (fun _ => True) (.slice A' lp.length c') lp) := by
            have := HPW.out.bytes.take 50
            rw [← hl1.out] at this
            exact this
          by_cases d3 : k < lb.length
          · obtain ⟨bb, offb, rfl, hkb⟩ := HB.out k d3
            have hkb := hx.out.cell hkb id
            cases hbk : lb[k] with
            | false =>
              rw [hbk] at hkb
              go_wp2_with fail
              go_quiet (fail)
              have HAQ := Lib.hid (hap.out.keep (w' := wr.drewN nq) ((Ex.refl (fun _ => False) wr).drewN nq))
              have HXQ := Lib.hid (hx.out.drewN nq)
              have hrb := HPA.out.bytes.take 50
              rw [← hl1.out] at hrb
              have HRB := Lib.hid (hrb.keep (w' := wr.drewN nq) ((Ex.refl (fun _ => False) wr).drewN nq) (fun _ _ _ => id))
              clear hap hx hrb
              generalize wr.drewN nq = wq at HAQ HXQ HRB ⊢
              go_wp2_with fail
              refine (wbytes_at _ p 0 q0 l0 lp _ wq HAQ.out.w0 HRB.out (by omega)).mono ?_
              rintro e w6 ⟨rfl, hwb⟩
              obtain ⟨hc6, hf6, hx6, hnx⟩ := HAQ.out.put0 hwb HXQ.out.size
              have HX6 := Lib.hid (HXQ.out.andThen hx6 (fun i hi e => by omega))
              have HR6 := Lib.hid ((HRBW.out.keep HX6.out (fun _ _ _ => id)).str (Pr := Tryd.prog) 23 9 5 Tryd.underlying23 Tryd.underlying5 Tryd.underlying9)
              have HN6 := Lib.hid hnx
              clear hwb hx6 hnx HAQ HXQ HRB
              have hcv := HR6.out
              have hba := bs_append l0 lp
              have hbz := bs_size l0
              have hby := bs_size lp
              go_upto_region 12 with fail
              have hd6 : w6.drew.cell? ⟨t, 0, none⟩ = some (.string (bs l0)) := hc6
              have hg6 : w6.drew.frozen? ⟨t, 0, none⟩ = false := hf6
              have hcd : (convert 23 9 (.slice A' lp.length c')).run Tryd.prog w6.drew = .ok (.string (bs lp)) w6.drew := (HRBW.out.keep (HX6.out.drew) (fun _ _ _ => id)).str (Pr := Tryd.prog) 23 9 5 Tryd.underlying23 Tryd.underlying5 Tryd.underlying9
              go_region
              obtain ⟨q0', hap'⟩ := HN6.out ((w6.setCell ⟨t, 0, none⟩ (.string (bs (l0 ++ lp)))).drew) rfl
              have HAP' := Lib.hid hap'
              have HXX := Lib.hid (HX6.out.setCell (p := ⟨t, 0, none⟩) (.inr hbt) (.string (bs (l0 ++ lp)))).drew
              clear hap'
              go_wp2_with fail
              go_roundw
              case rel => exact ⟨k + 1, q0', q1, l0 ++ lp, l1, by omega, by go_num, (by first | omega | (simp; omega)), (by first | omega | (simp; omega)), HAP', HXX⟩
              case measure => simp [intOf]; omega

            | true =>
              rw [hbk] at hkb
              go_wp2_with fail
              go_quiet (fail)
              have HAQ := Lib.hid (hap.out.keep (w' := wr.drewN nq) ((Ex.refl (fun _ => False) wr).drewN nq))
              have HXQ := Lib.hid (hx.out.drewN nq)
              have hrb := HPA.out.bytes.take 50
              rw [← hl1.out] at hrb
              have HRB := Lib.hid (hrb.keep (w' := wr.drewN nq) ((Ex.refl (fun _ => False) wr).drewN nq) (fun _ _ _ => id))
              clear hap hx hrb
              generalize wr.drewN nq = wq at HAQ HXQ HRB ⊢
              go_wp2_with fail
              refine (wbytes_at _ p 1 q1 l1 lp _ wq HAQ.out.w1 HRB.out (by omega)).mono ?_
              rintro e w6 ⟨rfl, hwb⟩
              obtain ⟨hc6, hf6, hx6, hnx⟩ := HAQ.out.put1 hwb HXQ.out.size
              have HX6 := Lib.hid (HXQ.out.andThen hx6 (fun i hi e => by omega))
              have HR6 := Lib.hid ((HRBW.out.keep HX6.out (fun _ _ _ => id)).str (Pr := Tryd.prog) 23 9 5 Tryd.underlying23 Tryd.underlying5 Tryd.underlying9)
              have HN6 := Lib.hid hnx
              clear hwb hx6 hnx HAQ HXQ HRB
              have hcv := HR6.out
              have hba := bs_append l1 lp
              have hbz := bs_size l1
              have hby := bs_size lp
              go_upto_region 12 with fail
              have hd6 : w6.drew.cell? ⟨t, 1, none⟩ = some (.string (bs l1)) := hc6
              have hg6 : w6.drew.frozen? ⟨t, 1, none⟩ = false := hf6
              have hcd : (convert 23 9 (.slice A' lp.length c')).run Tryd.prog w6.drew = .ok (.string (bs lp)) w6.drew := (HRBW.out.keep (HX6.out.drew) (fun _ _ _ => id)).str (Pr := Tryd.prog) 23 9 5 Tryd.underlying23 Tryd.underlying5 Tryd.underlying9
              go_region
              obtain ⟨q1', hap'⟩ := HN6.out ((w6.setCell ⟨t, 1, none⟩ (.string (bs (l1 ++ lp)))).drew) rfl
              have HAP' := Lib.hid hap'
              have HXX := Lib.hid (HX6.out.setCell (p := ⟨t, 1, none⟩) (.inr hbt) (.string (bs (l1 ++ lp)))).drew
              clear hap'
              go_wp2_with fail
              go_roundw
              case rel => exact ⟨k + 1, q0, q1', l0, l1 ++ lp, by omega, by go_num, (by first | omega | (simp; omega)), (by first | omega | (simp; omega)), HAP', HXX⟩
              case measure => simp [intOf]; omega

          ·
            go_wp2_with fail
            go_quiet (fail)
            have HAQ := Lib.hid (hap.out.keep (w' := wr.drewN nq) ((Ex.refl (fun _ => False) wr).drewN nq))
            have HXQ := Lib.hid (hx.out.drewN nq)
            have hrb := HPA.out.bytes.take 50
            rw [← hl1.out] at hrb
            have HRB := Lib.hid (hrb.keep (w' := wr.drewN nq) ((Ex.refl (fun _ => False) wr).drewN nq) (fun _ _ _ => id))
            clear hap hx hrb
            generalize wr.drewN nq = wq at HAQ HXQ HRB ⊢
            go_wp2_with fail
            refine (wbytes_at _ p 0 q0 l0 lp _ wq HAQ.out.w0 HRB.out (by omega)).mono ?_
            rintro e w6 ⟨rfl, hwb⟩
            obtain ⟨hc6, hf6, hx6, hnx⟩ := HAQ.out.put0 hwb HXQ.out.size
            have HX6 := Lib.hid (HXQ.out.andThen hx6 (fun i hi e => by omega))
            have HR6 := Lib.hid ((HRBW.out.keep HX6.out (fun _ _ _ => id)).str (Pr := Tryd.prog) 23 9 5 Tryd.underlying23 Tryd.underlying5 Tryd.underlying9)
            have HN6 := Lib.hid hnx
            clear hwb hx6 hnx HAQ HXQ HRB
            have hcv := HR6.out
            have hba := bs_append l0 lp
            have hbz := bs_size l0
            have hby := bs_size lp
            go_upto_region 12 with fail
            have hd6 : w6.drew.cell? ⟨t, 0, none⟩ = some (.string (bs l0)) := hc6
            have hg6 : w6.drew.frozen? ⟨t, 0, none⟩ = false := hf6
            have hcd : (convert 23 9 (.slice A' lp.length c')).run Tryd.prog w6.drew = .ok (.string (bs lp)) w6.drew := (HRBW.out.keep (HX6.out.drew) (fun _ _ _ => id)).str (Pr := Tryd.prog) 23 9 5 Tryd.underlying23 Tryd.underlying5 Tryd.underlying9
            go_region
            obtain ⟨q0', hap'⟩ := HN6.out ((w6.setCell ⟨t, 0, none⟩ (.string (bs (l0 ++ lp)))).drew) rfl
            have HAP' := Lib.hid hap'
            have HXX := Lib.hid (HX6.out.setCell (p := ⟨t, 0, none⟩) (.inr hbt) (.string (bs (l0 ++ lp)))).drew
            clear hap'
            go_wp2_with fail
            go_roundw
            case rel => exact ⟨k + 1, q0', q1, l0 ++ lp, l1, by omega, by go_num, (by first | omega | (simp; omega)), (by first | omega | (simp; omega)), HAP', HXX⟩
            case measure => simp [intOf]; omega

        · go_wp2_with fail
          go_meet
          exact ⟨q0, q1, l0, l1, by omega, by omega, hap, hx⟩
      · go_wp2_with fail
        go_meet
        exact ⟨q0, q1, l0, l1, by omega, by omega, hap, hx⟩
  case rest =>
    obtain ⟨q0, q1, l0, l1, hl0, hl1, hap, hx⟩ := hcut
    go_wp2_with fail
    refine (wdone_at p 0 q0 l0 wc hap.out.w0 (by omega)).mono ?_
    rintro e w3 ⟨A3, c3, rfl, ho3, hx3⟩
    have HO3 := Lib.hid ho3
    have HX3 := Lib.hid (hx.out.trans hx3)
    have HAP3 := Lib.hid (hap.out.keep hx3)
    clear ho3 hx3 hap hx
    go_wp2_with fail
    refine (read_any _ (some A3) l0.length c3 l0 w3 HO3.out.rb (fun h => by cases h) (by omega)).mono ?_
    rintro e w4 ⟨ra, ga, rfl, hra, hpa, hga, hxa⟩
    have hra1 := hra.lt
    have hga1 := hra.ltg
    have hp3 := HAP3.out.w0.lt.1
    have ht3 : t < w3.heap.size := World.block_lt_of_cell? w3 _ HAP3.out.s0
    have hq3 : ∀ k, k < w3.heap.size → k ≠ ra := fun k hk e => by omega
    have HX4 := Lib.hid (HX3.out.trans hxa)
    have HAP4 := Lib.hid (HAP3.out.keep hxa)
    have HRA4 := Lib.hid hra
    have hw34 := hxa.size
    clear hxa hra HX3 HO3
    go_wp2_with fail
    refine (wdone_at p 0 q0 l0 w4 HAP4.out.w0 (by omega)).mono ?_
    rintro e w5 ⟨A5, c5, rfl, ho5, hx5⟩
    have HO5 := Lib.hid ho5
    have HX5 := Lib.hid (HX4.out.trans hx5)
    have HAP5 := Lib.hid (HAP4.out.keep hx5)
    have HRA5 := Lib.hid (HRA4.out.keep hx5 id (fun _ => id))
    have hw45 := hx5.size
    clear ho5 hx5 HAP4 HX4 HRA4
    go_wp2_with fail
    refine (read_any _ (some A5) l0.length c5 l0 w5 HO5.out.rb (fun h => by cases h) (by omega)).mono ?_
    rintro e w6 ⟨rb, gb, rfl, hrb, hpb, hgb, hxb⟩
    have hrb1 := hrb.lt
    have hgb1 := hrb.ltg
    have HX6 := Lib.hid (HX5.out.trans hxb)
    have HAP6 := Lib.hid (HAP5.out.keep hxb)
    have HRA6 := Lib.hid (HRA5.out.keep hxb id (fun _ => id))
    have HRB6 := Lib.hid hrb
    have hw56 := hxb.size
    clear hxb hrb HAP5 HX5 HRA5 HO5
    go_wp2_with fail
    refine (rest_any ra ga 0 l0 w6 HRA6.out).mono ?_
    rintro e w7 ⟨u7, rfl, A7, rfl, _, hb7, _, hx7⟩
    rw [List.take_length] at hb7
    have hne1 : rb ≠ ra := by omega
    have hgn1 : gb ≠ ra := by omega
    have HB7 := Lib.hid hb7
    have HRB7 := Lib.hid (HRB6.out.keep hx7 hne1 (fun _ => hgn1))
    have hsz36 : w3.heap.size ≤ w6.heap.size := by omega
    have HAPB := HAP3
    have hw67 := hx7.size
    have HX7 := Lib.hid (HX6.out.andThen hx7 (fun i hi e => by have := HAP6.out.bp; omega))
    have HAP7 := Lib.hid (HAP6.out.keepQ hx7 (by omega) (by omega) (fun k hk e => by have := HAP3.out.w0.lt.2 k hk; omega) (fun k hk e => by have := HAP3.out.w1.lt.2 k hk; omega))
    clear hx7 hb7 HRB6 HRA6 HX6 HAP6 HAPB
    go_wp2_with fail
    refine (rest_any rb gb 0 l0 w7 HRB7.out).mono ?_
    rintro e w8 ⟨u8, rfl, A8, rfl, _, hb8, _, hx8⟩
    rw [List.take_length] at hb8
    have HB8 := Lib.hid hb8
    have HB78 := Lib.hid (HB7.out.keepN hx8 (fun hn k hk e => by
      have : 0 < l0.length := List.length_pos_iff.2 hn
      have := hga1 this
      omega))
    have HX8 := Lib.hid (HX7.out.andThen hx8 (fun i hi e => by have := HAP7.out.bp; omega))
    have HAP8 := Lib.hid (HAP7.out.keepQ hx8 (by omega) (by omega) (fun k hk e => by have := HAP3.out.w0.lt.2 k hk; omega) (fun k hk e => by have := HAP3.out.w1.lt.2 k hk; omega))
    clear hx8 hb8 HRB7 HB7 HX7 HAP7
    go_upto_region 19 with fail
    have hS8 : Ex (fun _ => False) w8 w8.drew := (Ex.refl _ w8).drew
    have hv7 : ∀ W, Ex (fun _ => False) w8 W → (convert 23 9 (.slice A7 l0.length l0.length)).run Tryd.prog W = .ok (.string (bs l0)) W := conv_later HB78.out.any
    have hv8 : ∀ W, Ex (fun _ => False) w8 W → (convert 23 9 (.slice A8 l0.length l0.length)).run Tryd.prog W = .ok (.string (bs l0)) W := conv_later HB8.out.any
    have HS0 := HAP8.out.s0
    have HS1 := HAP8.out.s1
    refine wp_region_held_drew (S := fun W => Ex (fun _ => False) w8 W) (by kernel_rfl) hS8 (fun _ => ?_)
    refine wpAnyH_take (i := 0) (oi := { dst := some 77, op := Go.Op.move (Go.Operand.tmp 5), type := 4, pos := "more.go:73", after := #[], guard := none }) (v := ?v1) rfl (by kernel_rfl) (by kernel_rfl) (by kernel_rfl) (fun _ _ _ h => h) (Or.inl ⟨by rfl, ?hy1⟩) (by assumption) ?rest1
    case hy1 => (intro w hSw; (try dsimp only at hSw); have hs0 := hSw.cell HS0 id; have hs1 := hSw.cell HS1 id; go_simp <;> with_reducible rfl)
    try simp only [Act.put, List.setIfInBounds_toArray, List.set_cons_zero, List.set_cons_succ]
    refine wpAnyH_take (i := 1) (oi := { dst := some 78, op := Go.Op.move (Go.Operand.tmp 77), type := 4, pos := "more.go:73", after := #[{ on := 0, ground := Go.Ground.data }], guard := none }) (v := ?v2) rfl (by kernel_rfl) (by kernel_rfl) (by kernel_rfl) (fun _ _ _ h => h) (Or.inl ⟨by rfl, ?hy2⟩) (by assumption) ?rest2
    case hy2 => (intro w hSw; (try dsimp only at hSw); have hs0 := hSw.cell HS0 id; have hs1 := hSw.cell HS1 id; go_simp <;> with_reducible rfl)
    try simp only [Act.put, List.setIfInBounds_toArray, List.set_cons_zero, List.set_cons_succ]
    refine wpAnyH_take (i := 2) (oi := { dst := some 79, op := Go.Op.indexAddr 52 (Go.Operand.tmp 6) (Go.Operand.const (Go.Value.int Go.IntKind.i64 0)), type := 0, pos := "more.go:73", after := #[{ on := 1, ground := Go.Ground.guard }], guard := some (1, true) }) (v := ?v3) rfl (by kernel_rfl) (by kernel_rfl) (by kernel_rfl) (fun _ _ _ h => h) (Or.inl ⟨by rfl, ?hy3⟩) (by assumption) ?rest3
    case hy3 => (intro w hSw; (try dsimp only at hSw); have hs0 := hSw.cell HS0 id; have hs1 := hSw.cell HS1 id; go_simp <;> with_reducible rfl)
    try simp only [Act.put, List.setIfInBounds_toArray, List.set_cons_zero, List.set_cons_succ]
    refine wpAnyH_take (i := 5) (oi := { dst := some 82, op := Go.Op.indexAddr 53 (Go.Operand.tmp 7) (Go.Operand.const (Go.Value.int Go.IntKind.i64 0)), type := 0, pos := "more.go:73", after := #[{ on := 1, ground := Go.Ground.guard }], guard := some (1, true) }) (v := ?v4) rfl (by kernel_rfl) (by kernel_rfl) (by kernel_rfl) (fun _ _ _ h => h) (Or.inl ⟨by rfl, ?hy4⟩) (by assumption) ?rest4
    case hy4 => (intro w hSw; (try dsimp only at hSw); have hs0 := hSw.cell HS0 id; have hs1 := hSw.cell HS1 id; go_simp <;> with_reducible rfl)
    try simp only [Act.put, List.setIfInBounds_toArray, List.set_cons_zero, List.set_cons_succ]
    refine wpAnyH_take (i := 6) (oi := { dst := some 83, op := Go.Op.load 9 (Go.Operand.tmp 82), type := 9, pos := "more.go:73", after := #[{ on := 5, ground := Go.Ground.data }, { on := 1, ground := Go.Ground.guard }], guard := some (1, true) }) (v := ?v5) rfl (by kernel_rfl) (by kernel_rfl) (by kernel_rfl) (fun _ _ _ h => h) (Or.inl ⟨by rfl, ?hy5⟩) (by assumption) ?rest5
    case hy5 => (intro w hSw; (try dsimp only at hSw); have hs0 := hSw.cell HS0 id; have hs1 := hSw.cell HS1 id; go_simp <;> with_reducible rfl)
    try simp only [Act.put, List.setIfInBounds_toArray, List.set_cons_zero, List.set_cons_succ]
    refine wpAnyH_ready (rs := [3]) (by kernel_rfl) (by simp) ?_
    refine AllReadyH.cons (o := { dst := some 80, op := Go.Op.call { callee := Go.Callee.value (Go.Operand.func 23), args := #[Go.Operand.tmp 79], argTypes := #[38] }, type := 23, pos := "more.go:73", after := #[{ on := 2, ground := Go.Ground.data }, { on := 1, ground := Go.Ground.chain }, { on := 1, ground := Go.Ground.guard }], guard := some (1, true) }) rfl (fun K hK => ?_) AllReadyH.nil
    go_simp
    refine (wdone_at p 0 q0 l0 _ (HAP8.out.keep hS8).w0 (by omega)).mono ?_
    rintro e w9 ⟨A9, c9, rfl, ho9, hx9⟩
    have hS9 := hS8.trans hx9
    refine hK.out _ _ hS9 (fun _ => ?_)
    have hv9 : ∀ W, Ex (fun _ => False) w9 W → (convert 23 9 (.slice (some A9) l0.length c9)).run Tryd.prog W = .ok (.string (bs l0)) W := conv_later ho9.rb.any
    have hv7 := fun W h => hv7 W (hS9.trans h)
    have hv8 := fun W h => hv8 W (hS9.trans h)
    have HS0 := hS9.cell HS0 id
    have HS1 := hS9.cell HS1 id
    have hR9 := Ex.refl (fun _ => False) w9
    refine wpAnyH_strong (S' := fun W => Ex (fun _ => False) w9 W) (fun W h => hS9.trans h) _ _ _ _ ?_
    refine wpAnyH_take (i := 4) (oi := { dst := some 81, op := Go.Op.convert 23 9 (Go.Operand.tmp 80), type := 9, pos := "more.go:73", after := #[{ on := 3, ground := Go.Ground.data }, { on := 1, ground := Go.Ground.guard }], guard := some (1, true) }) (v := ?v6) rfl (by kernel_rfl) (by kernel_rfl) (by kernel_rfl) (fun _ _ _ h => h) (Or.inl ⟨by rfl, ?hy6⟩) (by assumption) ?rest6
    case hy6 => (intro w hSw; (try dsimp only at hSw); have hs0 := hSw.cell HS0 id; have hs1 := hSw.cell HS1 id; go_simp <;> with_reducible rfl)
    try simp only [Act.put, List.setIfInBounds_toArray, List.set_cons_zero, List.set_cons_succ]
    refine wpAnyH_take (i := 7) (oi := { dst := some 84, op := Go.Op.binOp Go.BinOp.eql 9 (Go.Operand.tmp 81) (Go.Operand.tmp 83) 9, type := 4, pos := "more.go:73", after := #[{ on := 4, ground := Go.Ground.data }, { on := 6, ground := Go.Ground.data }, { on := 1, ground := Go.Ground.guard }], guard := some (1, true) }) (v := ?v7) rfl (by kernel_rfl) (by kernel_rfl) (by kernel_rfl) (fun _ _ _ h => h) (Or.inl ⟨by rfl, ?hy7⟩) (by assumption) ?rest7
    case hy7 => (intro w hSw; (try dsimp only at hSw); have hs0 := hSw.cell HS0 id; have hs1 := hSw.cell HS1 id; go_simp <;> with_reducible rfl)
    try simp only [Act.put, List.setIfInBounds_toArray, List.set_cons_zero, List.set_cons_succ]
    refine wpAnyH_take (i := 8) (oi := { dst := some 85, op := Go.Op.pick (Go.Operand.tmp 78) (Go.Operand.tmp 84) (Go.Operand.const (Go.Value.bool false)), type := 4, pos := "more.go:73", after := #[{ on := 1, ground := Go.Ground.data }, { on := 7, ground := Go.Ground.data }], guard := none }) (v := ?v8) rfl (by kernel_rfl) (by kernel_rfl) (by kernel_rfl) (fun _ _ _ h => h) (Or.inl ⟨by rfl, ?hy8⟩) (by assumption) ?rest8
    case hy8 => (intro w hSw; (try dsimp only at hSw); have hs0 := hSw.cell HS0 id; have hs1 := hSw.cell HS1 id; go_simp <;> with_reducible rfl)
    try simp only [Act.put, List.setIfInBounds_toArray, List.set_cons_zero, List.set_cons_succ]
    refine wpAnyH_take (i := 9) (oi := { dst := some 86, op := Go.Op.move (Go.Operand.tmp 85), type := 4, pos := "more.go:73", after := #[{ on := 8, ground := Go.Ground.data }, { on := 3, ground := Go.Ground.chain }], guard := none }) (v := ?v9) rfl (by kernel_rfl) (by kernel_rfl) (by kernel_rfl) (fun _ _ _ h => h) (Or.inl ⟨by rfl, ?hy9⟩) (by assumption) ?rest9
    case hy9 => (intro w hSw; (try dsimp only at hSw); have hs0 := hSw.cell HS0 id; have hs1 := hSw.cell HS1 id; go_simp <;> with_reducible rfl)
    try simp only [Act.put, List.setIfInBounds_toArray, List.set_cons_zero, List.set_cons_succ]
    refine wpAnyH_take (i := 10) (oi := { dst := some 87, op := Go.Op.indexAddr 52 (Go.Operand.tmp 6) (Go.Operand.const (Go.Value.int Go.IntKind.i64 1)), type := 0, pos := "more.go:73", after := #[{ on := 9, ground := Go.Ground.guard }], guard := some (9, true) }) (v := ?v10) rfl (by kernel_rfl) (by kernel_rfl) (by kernel_rfl) (fun _ _ _ h => h) (Or.inl ⟨by rfl, ?hy10⟩) (by assumption) ?rest10
    case hy10 => (intro w hSw; (try dsimp only at hSw); have hs0 := hSw.cell HS0 id; have hs1 := hSw.cell HS1 id; go_simp <;> with_reducible rfl)
    try simp only [Act.put, List.setIfInBounds_toArray, List.set_cons_zero, List.set_cons_succ]
    refine wpAnyH_take (i := 13) (oi := { dst := some 90, op := Go.Op.indexAddr 53 (Go.Operand.tmp 7) (Go.Operand.const (Go.Value.int Go.IntKind.i64 1)), type := 0, pos := "more.go:73", after := #[{ on := 9, ground := Go.Ground.guard }], guard := some (9, true) }) (v := ?v11) rfl (by kernel_rfl) (by kernel_rfl) (by kernel_rfl) (fun _ _ _ h => h) (Or.inl ⟨by rfl, ?hy11⟩) (by assumption) ?rest11
    case hy11 => (intro w hSw; (try dsimp only at hSw); have hs0 := hSw.cell HS0 id; have hs1 := hSw.cell HS1 id; go_simp <;> with_reducible rfl)
    try simp only [Act.put, List.setIfInBounds_toArray, List.set_cons_zero, List.set_cons_succ]
    refine wpAnyH_take (i := 14) (oi := { dst := some 91, op := Go.Op.load 9 (Go.Operand.tmp 90), type := 9, pos := "more.go:73", after := #[{ on := 13, ground := Go.Ground.data }, { on := 9, ground := Go.Ground.guard }], guard := some (9, true) }) (v := ?v12) rfl (by kernel_rfl) (by kernel_rfl) (by kernel_rfl) (fun _ _ _ h => h) (Or.inl ⟨by rfl, ?hy12⟩) (by assumption) ?rest12
    case hy12 => (intro w hSw; (try dsimp only at hSw); have hs0 := hSw.cell HS0 id; have hs1 := hSw.cell HS1 id; go_simp <;> with_reducible rfl)
    try simp only [Act.put, List.setIfInBounds_toArray, List.set_cons_zero, List.set_cons_succ]
    refine wpAnyH_ready (rs := [11]) (by kernel_rfl) (by simp) ?_
    refine AllReadyH.cons (o := { dst := some 88, op := Go.Op.call { callee := Go.Callee.value (Go.Operand.func 23), args := #[Go.Operand.tmp 87], argTypes := #[38] }, type := 23, pos := "more.go:73", after := #[{ on := 10, ground := Go.Ground.data }, { on := 9, ground := Go.Ground.chain }, { on := 9, ground := Go.Ground.guard }], guard := some (9, true) }) rfl (fun K hK => ?_) AllReadyH.nil
    go_simp
    refine (wdone_at p 1 q1 l1 _ (HAP8.out.keep hS9).w1 (by omega)).mono ?_
    rintro e w10 ⟨A10, c10, rfl, ho10, hx10⟩
    refine hK.out _ _ hx10 (fun _ => ?_)
    have hv10 : ∀ W, Ex (fun _ => False) w10 W → (convert 23 9 (.slice (some A10) l1.length c10)).run Tryd.prog W = .ok (.string (bs l1)) W := conv_later ho10.rb.any
    have hv7 := fun W h => hv7 W (hx10.trans h)
    have hv8 := fun W h => hv8 W (hx10.trans h)
    have HS0 := hx10.cell HS0 id
    have HS1 := hx10.cell HS1 id
    have hR10 := Ex.refl (fun _ => False) w10
    refine wpAnyH_strong (S' := fun W => Ex (fun _ => False) w10 W) (fun W h => hx10.trans h) _ _ _ _ ?_
    refine wpAnyH_take (i := 12) (oi := { dst := some 89, op := Go.Op.convert 23 9 (Go.Operand.tmp 88), type := 9, pos := "more.go:73", after := #[{ on := 11, ground := Go.Ground.data }, { on := 9, ground := Go.Ground.guard }], guard := some (9, true) }) (v := ?v13) rfl (by kernel_rfl) (by kernel_rfl) (by kernel_rfl) (fun _ _ _ h => h) (Or.inl ⟨by rfl, ?hy13⟩) (by assumption) ?rest13
    case hy13 => (intro w hSw; (try dsimp only at hSw); have hs0 := hSw.cell HS0 id; have hs1 := hSw.cell HS1 id; go_simp <;> with_reducible rfl)
    try simp only [Act.put, List.setIfInBounds_toArray, List.set_cons_zero, List.set_cons_succ]
    refine wpAnyH_take (i := 15) (oi := { dst := some 92, op := Go.Op.binOp Go.BinOp.eql 9 (Go.Operand.tmp 89) (Go.Operand.tmp 91) 9, type := 4, pos := "more.go:73", after := #[{ on := 12, ground := Go.Ground.data }, { on := 14, ground := Go.Ground.data }, { on := 9, ground := Go.Ground.guard }], guard := some (9, true) }) (v := ?v14) rfl (by kernel_rfl) (by kernel_rfl) (by kernel_rfl) (fun _ _ _ h => h) (Or.inl ⟨by rfl, ?hy14⟩) (by assumption) ?rest14
    case hy14 => (intro w hSw; (try dsimp only at hSw); have hs0 := hSw.cell HS0 id; have hs1 := hSw.cell HS1 id; go_simp <;> with_reducible rfl)
    try simp only [Act.put, List.setIfInBounds_toArray, List.set_cons_zero, List.set_cons_succ]
    refine wpAnyH_take (i := 16) (oi := { dst := some 93, op := Go.Op.pick (Go.Operand.tmp 86) (Go.Operand.tmp 92) (Go.Operand.const (Go.Value.bool false)), type := 4, pos := "more.go:73", after := #[{ on := 9, ground := Go.Ground.data }, { on := 15, ground := Go.Ground.data }], guard := none }) (v := ?v15) rfl (by kernel_rfl) (by kernel_rfl) (by kernel_rfl) (fun _ _ _ h => h) (Or.inl ⟨by rfl, ?hy15⟩) (by assumption) ?rest15
    case hy15 => (intro w hSw; (try dsimp only at hSw); have hs0 := hSw.cell HS0 id; have hs1 := hSw.cell HS1 id; go_simp <;> with_reducible rfl)
    try simp only [Act.put, List.setIfInBounds_toArray, List.set_cons_zero, List.set_cons_succ]
    refine wpAnyH_take (i := 17) (oi := { dst := some 94, op := Go.Op.move (Go.Operand.tmp 93), type := 4, pos := "more.go:73", after := #[{ on := 16, ground := Go.Ground.data }, { on := 11, ground := Go.Ground.chain }], guard := none }) (v := ?v16) rfl (by kernel_rfl) (by kernel_rfl) (by kernel_rfl) (fun _ _ _ h => h) (Or.inl ⟨by rfl, ?hy16⟩) (by assumption) ?rest16
    case hy16 => (intro w hSw; (try dsimp only at hSw); have hs0 := hSw.cell HS0 id; have hs1 := hSw.cell HS1 id; go_simp <;> with_reducible rfl)
    try simp only [Act.put, List.setIfInBounds_toArray, List.set_cons_zero, List.set_cons_succ]
    refine wpAnyH_take (i := 18) (oi := { dst := some 95, op := Go.Op.move (Go.Operand.tmp 13), type := 23, pos := "more.go:73", after := #[{ on := 17, ground := Go.Ground.guard }], guard := some (17, true) }) (v := ?v17) rfl (by kernel_rfl) (by kernel_rfl) (by kernel_rfl) (fun _ _ _ h => h) (Or.inl ⟨by rfl, ?hy17⟩) (by assumption) ?rest17
    case hy17 => (intro w hSw; (try dsimp only at hSw); have hs0 := hSw.cell HS0 id; have hs1 := hSw.cell HS1 id; go_simp <;> with_reducible rfl)
    try simp only [Act.put, List.setIfInBounds_toArray, List.set_cons_zero, List.set_cons_succ]
    refine wpAnyH_take (i := 19) (oi := { dst := some 96, op := Go.Op.convert 23 9 (Go.Operand.tmp 95), type := 9, pos := "more.go:73", after := #[{ on := 18, ground := Go.Ground.data }, { on := 17, ground := Go.Ground.guard }], guard := some (17, true) }) (v := ?v18) rfl (by kernel_rfl) (by kernel_rfl) (by kernel_rfl) (fun _ _ _ h => h) (Or.inl ⟨by rfl, ?hy18⟩) (by assumption) ?rest18
    case hy18 => (intro w hSw; (try dsimp only at hSw); have hs0 := hSw.cell HS0 id; have hs1 := hSw.cell HS1 id; go_simp <;> with_reducible rfl)
    try simp only [Act.put, List.setIfInBounds_toArray, List.set_cons_zero, List.set_cons_succ]
    refine wpAnyH_take (i := 20) (oi := { dst := some 97, op := Go.Op.indexAddr 53 (Go.Operand.tmp 7) (Go.Operand.const (Go.Value.int Go.IntKind.i64 0)), type := 0, pos := "more.go:73", after := #[{ on := 17, ground := Go.Ground.guard }], guard := some (17, true) }) (v := ?v19) rfl (by kernel_rfl) (by kernel_rfl) (by kernel_rfl) (fun _ _ _ h => h) (Or.inl ⟨by rfl, ?hy19⟩) (by assumption) ?rest19
    case hy19 => (intro w hSw; (try dsimp only at hSw); have hs0 := hSw.cell HS0 id; have hs1 := hSw.cell HS1 id; go_simp <;> with_reducible rfl)
    try simp only [Act.put, List.setIfInBounds_toArray, List.set_cons_zero, List.set_cons_succ]
    refine wpAnyH_take (i := 21) (oi := { dst := some 98, op := Go.Op.load 9 (Go.Operand.tmp 97), type := 9, pos := "more.go:73", after := #[{ on := 20, ground := Go.Ground.data }, { on := 17, ground := Go.Ground.guard }], guard := some (17, true) }) (v := ?v20) rfl (by kernel_rfl) (by kernel_rfl) (by kernel_rfl) (fun _ _ _ h => h) (Or.inl ⟨by rfl, ?hy20⟩) (by assumption) ?rest20
    case hy20 => (intro w hSw; (try dsimp only at hSw); have hs0 := hSw.cell HS0 id; have hs1 := hSw.cell HS1 id; go_simp <;> with_reducible rfl)
    try simp only [Act.put, List.setIfInBounds_toArray, List.set_cons_zero, List.set_cons_succ]
    refine wpAnyH_take (i := 22) (oi := { dst := some 99, op := Go.Op.binOp Go.BinOp.eql 9 (Go.Operand.tmp 96) (Go.Operand.tmp 98) 9, type := 4, pos := "more.go:73", after := #[{ on := 19, ground := Go.Ground.data }, { on := 21, ground := Go.Ground.data }, { on := 17, ground := Go.Ground.guard }], guard := some (17, true) }) (v := ?v21) rfl (by kernel_rfl) (by kernel_rfl) (by kernel_rfl) (fun _ _ _ h => h) (Or.inl ⟨by rfl, ?hy21⟩) (by assumption) ?rest21
    case hy21 => (intro w hSw; (try dsimp only at hSw); have hs0 := hSw.cell HS0 id; have hs1 := hSw.cell HS1 id; go_simp <;> with_reducible rfl)
    try simp only [Act.put, List.setIfInBounds_toArray, List.set_cons_zero, List.set_cons_succ]
    refine wpAnyH_take (i := 23) (oi := { dst := some 100, op := Go.Op.pick (Go.Operand.tmp 94) (Go.Operand.tmp 99) (Go.Operand.const (Go.Value.bool false)), type := 4, pos := "more.go:73", after := #[{ on := 17, ground := Go.Ground.data }, { on := 22, ground := Go.Ground.data }], guard := none }) (v := ?v22) rfl (by kernel_rfl) (by kernel_rfl) (by kernel_rfl) (fun _ _ _ h => h) (Or.inl ⟨by rfl, ?hy22⟩) (by assumption) ?rest22
    case hy22 => (intro w hSw; (try dsimp only at hSw); have hs0 := hSw.cell HS0 id; have hs1 := hSw.cell HS1 id; go_simp <;> with_reducible rfl)
    try simp only [Act.put, List.setIfInBounds_toArray, List.set_cons_zero, List.set_cons_succ]
    refine wpAnyH_take (i := 24) (oi := { dst := some 101, op := Go.Op.move (Go.Operand.tmp 100), type := 4, pos := "more.go:73", after := #[{ on := 23, ground := Go.Ground.data }, { on := 17, ground := Go.Ground.chain }], guard := none }) (v := ?v23) rfl (by kernel_rfl) (by kernel_rfl) (by kernel_rfl) (fun _ _ _ h => h) (Or.inl ⟨by rfl, ?hy23⟩) (by assumption) ?rest23
    case hy23 => (intro w hSw; (try dsimp only at hSw); have hs0 := hSw.cell HS0 id; have hs1 := hSw.cell HS1 id; go_simp <;> with_reducible rfl)
    try simp only [Act.put, List.setIfInBounds_toArray, List.set_cons_zero, List.set_cons_succ]
    refine wpAnyH_take (i := 25) (oi := { dst := some 102, op := Go.Op.move (Go.Operand.tmp 14), type := 23, pos := "more.go:73", after := #[{ on := 24, ground := Go.Ground.guard }], guard := some (24, true) }) (v := ?v24) rfl (by kernel_rfl) (by kernel_rfl) (by kernel_rfl) (fun _ _ _ h => h) (Or.inl ⟨by rfl, ?hy24⟩) (by assumption) ?rest24
    case hy24 => (intro w hSw; (try dsimp only at hSw); have hs0 := hSw.cell HS0 id; have hs1 := hSw.cell HS1 id; go_simp <;> with_reducible rfl)
    try simp only [Act.put, List.setIfInBounds_toArray, List.set_cons_zero, List.set_cons_succ]
    refine wpAnyH_take (i := 26) (oi := { dst := some 103, op := Go.Op.convert 23 9 (Go.Operand.tmp 102), type := 9, pos := "more.go:73", after := #[{ on := 25, ground := Go.Ground.data }, { on := 24, ground := Go.Ground.guard }], guard := some (24, true) }) (v := ?v25) rfl (by kernel_rfl) (by kernel_rfl) (by kernel_rfl) (fun _ _ _ h => h) (Or.inl ⟨by rfl, ?hy25⟩) (by assumption) ?rest25
    case hy25 => (intro w hSw; (try dsimp only at hSw); have hs0 := hSw.cell HS0 id; have hs1 := hSw.cell HS1 id; go_simp <;> with_reducible rfl)
    try simp only [Act.put, List.setIfInBounds_toArray, List.set_cons_zero, List.set_cons_succ]
    refine wpAnyH_take (i := 27) (oi := { dst := some 104, op := Go.Op.indexAddr 53 (Go.Operand.tmp 7) (Go.Operand.const (Go.Value.int Go.IntKind.i64 0)), type := 0, pos := "more.go:73", after := #[{ on := 24, ground := Go.Ground.guard }], guard := some (24, true) }) (v := ?v26) rfl (by kernel_rfl) (by kernel_rfl) (by kernel_rfl) (fun _ _ _ h => h) (Or.inl ⟨by rfl, ?hy26⟩) (by assumption) ?rest26
    case hy26 => (intro w hSw; (try dsimp only at hSw); have hs0 := hSw.cell HS0 id; have hs1 := hSw.cell HS1 id; go_simp <;> with_reducible rfl)
    try simp only [Act.put, List.setIfInBounds_toArray, List.set_cons_zero, List.set_cons_succ]
    refine wpAnyH_take (i := 28) (oi := { dst := some 105, op := Go.Op.load 9 (Go.Operand.tmp 104), type := 9, pos := "more.go:73", after := #[{ on := 27, ground := Go.Ground.data }, { on := 24, ground := Go.Ground.guard }], guard := some (24, true) }) (v := ?v27) rfl (by kernel_rfl) (by kernel_rfl) (by kernel_rfl) (fun _ _ _ h => h) (Or.inl ⟨by rfl, ?hy27⟩) (by assumption) ?rest27
    case hy27 => (intro w hSw; (try dsimp only at hSw); have hs0 := hSw.cell HS0 id; have hs1 := hSw.cell HS1 id; go_simp <;> with_reducible rfl)
    try simp only [Act.put, List.setIfInBounds_toArray, List.set_cons_zero, List.set_cons_succ]
    refine wpAnyH_take (i := 29) (oi := { dst := some 106, op := Go.Op.binOp Go.BinOp.eql 9 (Go.Operand.tmp 103) (Go.Operand.tmp 105) 9, type := 4, pos := "more.go:73", after := #[{ on := 26, ground := Go.Ground.data }, { on := 28, ground := Go.Ground.data }, { on := 24, ground := Go.Ground.guard }], guard := some (24, true) }) (v := ?v28) rfl (by kernel_rfl) (by kernel_rfl) (by kernel_rfl) (fun _ _ _ h => h) (Or.inl ⟨by rfl, ?hy28⟩) (by assumption) ?rest28
    case hy28 => (intro w hSw; (try dsimp only at hSw); have hs0 := hSw.cell HS0 id; have hs1 := hSw.cell HS1 id; go_simp <;> with_reducible rfl)
    try simp only [Act.put, List.setIfInBounds_toArray, List.set_cons_zero, List.set_cons_succ]
    refine wpAnyH_take (i := 30) (oi := { dst := some 107, op := Go.Op.pick (Go.Operand.tmp 101) (Go.Operand.tmp 106) (Go.Operand.const (Go.Value.bool false)), type := 4, pos := "more.go:73", after := #[{ on := 24, ground := Go.Ground.data }, { on := 29, ground := Go.Ground.data }], guard := none }) (v := ?v29) rfl (by kernel_rfl) (by kernel_rfl) (by kernel_rfl) (fun _ _ _ h => h) (Or.inl ⟨by rfl, ?hy29⟩) (by assumption) ?rest29
    case hy29 => (intro w hSw; (try dsimp only at hSw); have hs0 := hSw.cell HS0 id; have hs1 := hSw.cell HS1 id; go_simp <;> with_reducible rfl)
    try simp only [Act.put, List.setIfInBounds_toArray, List.set_cons_zero, List.set_cons_succ]
    refine wpAnyH_take (i := 31) (oi := { dst := some 4, op := Go.Op.assign (Go.Operand.tmp 107), type := 4, pos := "more.go:73", after := #[{ on := 30, ground := Go.Ground.data }, { on := 24, ground := Go.Ground.chain }, { on := 0, ground := Go.Ground.phase }, { on := 1, ground := Go.Ground.phase }, { on := 2, ground := Go.Ground.phase }, { on := 3, ground := Go.Ground.phase }, { on := 4, ground := Go.Ground.phase }, { on := 5, ground := Go.Ground.phase }, { on := 6, ground := Go.Ground.phase }, { on := 7, ground := Go.Ground.phase }, { on := 8, ground := Go.Ground.phase }, { on := 9, ground := Go.Ground.phase }, { on := 10, ground := Go.Ground.phase }, { on := 11, ground := Go.Ground.phase }, { on := 12, ground := Go.Ground.phase }, { on := 13, ground := Go.Ground.phase }, { on := 14, ground := Go.Ground.phase }, { on := 15, ground := Go.Ground.phase }, { on := 16, ground := Go.Ground.phase }, { on := 17, ground := Go.Ground.phase }, { on := 18, ground := Go.Ground.phase }, { on := 19, ground := Go.Ground.phase }, { on := 20, ground := Go.Ground.phase }, { on := 21, ground := Go.Ground.phase }, { on := 22, ground := Go.Ground.phase }, { on := 23, ground := Go.Ground.phase }, { on := 24, ground := Go.Ground.phase }, { on := 25, ground := Go.Ground.phase }, { on := 26, ground := Go.Ground.phase }, { on := 27, ground := Go.Ground.phase }, { on := 28, ground := Go.Ground.phase }, { on := 29, ground := Go.Ground.phase }, { on := 30, ground := Go.Ground.phase }], guard := none }) (v := ?v30) rfl (by kernel_rfl) (by kernel_rfl) (by kernel_rfl) (fun _ _ _ h => h) (Or.inl ⟨by rfl, ?hy30⟩) (by assumption) ?rest30
    case hy30 => (intro w hSw; (try dsimp only at hSw); have hs0 := hSw.cell HS0 id; have hs1 := hSw.cell HS1 id; go_simp <;> with_reducible rfl)
    try simp only [Act.put, List.setIfInBounds_toArray, List.set_cons_zero, List.set_cons_succ]
    refine wpAnyH_done (by kernel_rfl) ?_ _
    go_wp2
    go_ret
    exact ⟨rfl, HX8.out.trans (hS9.trans hx10)⟩
end Go.Proofs.YtkgieciamophkaaDoor
