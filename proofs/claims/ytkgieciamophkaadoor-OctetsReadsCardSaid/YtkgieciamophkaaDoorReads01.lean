/-
  The walk of OctetsReads. By an AI agent.
-/
import Derived.Test.YtkgieciamophkaaDoorRead2
import Derived.Test.YtkgieciamophkaaDoorOpenStep
import Derived.Test.YtkgieciamophkaaDoorRef01
import Derived.Deep.DeepCutAuto
import Derived.Deep.CutBlock
import Derived.Deep.RegionHeld
namespace Go.Proofs.YtkgieciamophkaaDoor
open Go.RowKit

theorem RD.ne {w : World} {p g o : Nat} {l : List UInt8} (h : RD w p g o l) : g ≠ p := by
  obtain ⟨_, _, _, _, _, _, h5, _⟩ := h
  exact h5

set_option maxRecDepth 100000 in
set_option maxHeartbeats 40000000 in
theorem reads_any (P : Nat → Prop) (v vs : Value) (l : List UInt8) (ss : List (Int × Int)) (w : World) (hr : RB w P v l) (hs : RS w vs ss) (hg : ET w) :
    Calls Tryd.prog 7 #[v, vs] w fun e w' => e = .returned (.bool true) ∧ Ex (fun _ => False) w w' := by
  have HG := Lib.hid hg
  clear hg
  obtain ⟨i0, hi, hz0, hz1, hz2⟩ := info_parts Tryd.info5
  obtain ⟨hls, As, cs, rfl, hcs, hcells⟩ := hs
  have HSS := Lib.hid hcells
  clear hcells
  have hr0 := hr
  obtain ⟨hl, A, c, rfl, hc, hcell⟩ := hr
  obtain ⟨l1, hm, hm1, hm200, hl1⟩ : ∃ l1 : List UInt8, (if 200 < (l.length : Int) then (200 : Int) else (l.length : Int)) = (l1.length : Int) ∧ l1.length ≤ l.length ∧ l1.length ≤ 200 ∧ Hid (l1 = l.take 200) := by
    refine ⟨l.take 200, ?_, by simp; omega, by simp; omega, rfl⟩
    rw [List.length_take]; split <;> omega
  have hmi : (l1.length : Int) ≤ (l.length : Int) := by omega
  have hmc : l1.length ≤ c := by omega
  have hr1 := hr0.take 200
  rw [← hl1.out] at hr1
  have HR1 := Lib.hid hr1
  clear hr1 hr0 hcell
  go_enter Tryd.func7, Tryd.ntmps7
  go_wp2_with fail
  refine (shown1_any w HG.out).mono ?_
  rintro e w1 ⟨rfl, hx1⟩
  have HX1 := Lib.hid hx1
  clear hx1
  go_wp2_with (at_builtin; refine wpList_append_ob i0 23 Tryd.underlying23 hi hz0 hz1 hz2 rfl (.tmp 27) (.tmp 32) rfl w1.heap.size (.slice (some ⟨w1.heap.size, 0, none⟩) 0 0) [] rfl _ (.slice A l1.length c) l1 rfl (OB.lit w1 w1.heap.size [] (Nat.le_refl _) (by simp)) ((HR1.out.keep HX1.out (fun _ _ _ => id)).alloc _) ?c1 ?c2 ?_; (case c1 => simp; omega); (case c2 => simp); intro A2 c2 w2 ho2 hg2 hn2 hb2)
  have hxa : Ex (fun _ => False) w1 w2 := ((Ex.refl _ w1).alloc _).grown hg2 (fun k hk => .inr (by obtain rfl := Option.some.inj hk; exact Nat.le_refl _))
  cases A2 with
  | none => exact absurd (hn2.1 rfl).1 (by simp)
  | some a2 =>
    simp only [List.nil_append, List.length_nil, Nat.zero_add] at ho2 ⊢
    obtain ⟨g0, rfl, hg01, hg02⟩ := ho2.plain
    have HX2 := Lib.hid (HX1.out.trans hxa)
    have HO2 := Lib.hid ho2
    have hsz1 := HX1.out.size
    have hsz2 := hxa.size
    clear ho2 hg2 hn2 hb2 hxa HX1
    refine (read_anyF _ (some ⟨g0, 0, none⟩) l1.length c2 l1 w2 HO2.out.rb (fun h => by cases h) (by omega)).mono ?_
    rintro e w3 ⟨rp, g, rfl, hr3, hp3, hg3, hx3, hz3⟩
    have HO3 := Lib.hid (HO2.out.keep hx3 (fun _ _ _ _ => id))
    have HX3 := Lib.hid (HX2.out.trans hx3)
    have hsz3 := hx3.size
    have HR3 := Lib.hid hr3
    have HZ3 := Lib.hid hz3
    have hrpl := hr3.lt
    clear hx3 hr3 hz3 HO2 HX2
    have hcv := HO3.out.rb.any.str (Pr := Tryd.prog) 23 9 5 Tryd.underlying23 Tryd.underlying5 Tryd.underlying9
    go_wp2_with fail
    clear hcv
    have hx4 := HX3.out.alloc (.cells #[.string (bs l1)] 65)
    have hxa : Ex (fun _ => False) w3 (w3.alloc (.cells #[.string (bs l1)] 65)) := (Ex.refl _ w3).alloc _
    have hs4 : (w3.alloc (.cells #[.string (bs l1)] 65)).cell? ⟨w3.heap.size, 0, none⟩ = some (.string (bs l1)) := by rw [World.cell?_alloc_at _ _ _ _ rfl]; rfl
    have hf4 : (w3.alloc (.cells #[.string (bs l1)] 65)).frozen? ⟨w3.heap.size, 0, none⟩ = false := by simp
    have hr4 := HR3.out.keep hxa id (fun _ => id)
    have ho4 := HO3.out.keep hxa (fun _ _ _ _ => id)
    have hz4 : l1 ≠ [] → ∀ x, (w3.alloc (.cells #[.string (bs l1)] 65)).frozen? ⟨g, x, none⟩ = false := fun hn x => (hxa.frozen (p := ⟨g, x, none⟩) (HR3.out.ltg (List.length_pos_iff.2 hn)) id).trans (HZ3.out (List.length_pos_iff.2 hn) x)
    have hgl4 : l1 ≠ [] → g < w3.heap.size := fun hn => HR3.out.ltg (List.length_pos_iff.2 hn)
    generalize w3.alloc (.cells #[.string (bs l1)] 65) = w4 at hx4 hs4 hf4 hr4 ho4 hz4 ⊢
    clear hxa HR3 HO3 HZ3 HX3
    generalize hsd : w3.heap.size = s at hs4 hf4 hgl4 hsz3 hrpl ⊢
    clear hsd
    have HX4 := Lib.hid hx4
    have HS4 := Lib.hid hs4
    have HF4 := Lib.hid hf4
    have HR4 := Lib.hid hr4
    have HO4 := Lib.hid ho4
    have HZ4 := Lib.hid hz4
    have HL4 := Lib.hid hgl4
    clear hx4 hs4 hf4 hr4 ho4 hz4 hgl4
    have hne : s ≠ rp := by omega
    have hws : w.heap.size ≤ s := by omega
    have hwr : w.heap.size ≤ rp := by omega
    have hwg : w.heap.size ≤ g := by omega
    have hrg0 : rp ≠ g0 := by omega
    have hgg0 : g ≠ g0 := by omega
    have hsg0 : s ≠ g0 := by omega
    have hwg0 : w.heap.size ≤ g0 := by omega
    have hx0 := Lib.hid (Ex.refl (fun x => x = g0) w4)
    go_loopw [9] (fun i wl => ∃ (j : Nat) (lj : List UInt8), j ≤ l1.length ∧ i = .int .i64 (j : Int) ∧ Hid (lj.length = l1.length) ∧ Hid (OB wl w1.heap.size (.slice (some ⟨g0, 0, none⟩) l1.length c2) lj) ∧ Hid (Ex (fun x => x = g0) w4 wl)) (fun i _ => l1.length - (intOf i).toNat)
    case atStart => exact ⟨0, l1, by omega, rfl, rfl, HO4, hx0⟩
    case round =>
      clear hx0
      obtain ⟨j, lj, hj, rfl, hlj, hoj, hxj⟩ := hrel
      by_cases dj : j < l1.length
      · have hcj := hoj.out.cell j (by rw [hlj.out]; exact dj)
        have hfj := hoj.out.frozen j
        go_wp2_with fail
        go_roundw
        case rel => exact ⟨j + 1, lj.set j 63, by omega, by go_num, Lib.hid (by rw [List.length_set]; exact hlj.out), Lib.hid (hoj.out.set j 63 (.int .u8 63) rfl), Lib.hid (hxj.out.setCell (p := ⟨g0, j, none⟩) (.inl rfl) _)⟩
        case measure => simp [intOf]; omega
      · go_wp2_with fail
        have HX5 := Lib.hid (HX4.out.andThen hxj.out (fun i hi e => by omega))
        have HS5 := Lib.hid (hxj.out.cell HS4.out hsg0)
        have HF5 := Lib.hid ((hxj.out.frozen (p := ⟨s, 0, none⟩) (World.block_lt_of_cell? w4 _ HS4.out) hsg0).trans HF4.out)
        have HR5 := Lib.hid (HR4.out.keep hxj.out hrg0 (fun _ => hgg0))
        have HZ5 := Lib.hid (fun (hn : l1 ≠ []) x => (hxj.out.frozen (p := ⟨g, x, none⟩) (HR4.out.ltg (List.length_pos_iff.2 hn)) hgg0).trans (HZ4.out hn x))
        clear hoj hxj hlj HX4 HS4 HF4 HR4 HO4 HZ4
        go_loopw [10] (fun i wr => ∃ (k o : Nat) (R : List UInt8), k ≤ 50 ∧ R.length ≤ 200 ∧ i = .int .i64 (k : Int) ∧ Hid (RD wr rp g o R) ∧ Hid (wr.cell? ⟨s, 0, none⟩ = some (.string (bs R))) ∧ Hid (wr.frozen? ⟨s, 0, none⟩ = false) ∧ Hid (R ≠ [] → ∀ x, wr.frozen? ⟨g, x, none⟩ = false) ∧ Hid (R ≠ [] → g ≠ s) ∧ Hid (Ex (fun _ => False) w wr)) (fun i _ => 50 - (intOf i).toNat)
        case atStart => exact ⟨0, 0, l1, by omega, hm200, rfl, HR5, HS5, HF5, HZ5, Lib.hid (fun hn => by have := HL4.out hn; omega), HX5⟩
        case round =>
          clear HX5 HS5 HF5 HR5 HZ5
          obtain ⟨k, o, R, hk, hRl, rfl, hr, hs, hf, hz, hgs', hx⟩ := hrel
          by_cases d1 : k < ss.length
          · by_cases d2 : k < 50
            · obtain ⟨b, off, rfl, hk0, hk1, hk2, hk3⟩ := HSS.out k d1
              have g1 := hx.out.cell hk0 id
              have g2 := hx.out.cell hk1 id
              generalize ss[k].1 = kd at g1 hk2 hk0
              generalize ss[k].2 = nn at g2 hk3 hk1
              have hbw : b < w.heap.size := World.block_lt_of_cell? w _ hk0
              have hwx := hx.out.size
              have hslt : s < wr.heap.size := World.block_lt_of_cell? wr _ hs.out
              have HK1 := Lib.hid hk1
              clear hk0 hk1
              have hbr := bs_size R
              go_upto_block 4 with fail
              go_cut [11, 12, 13, 14] (fun x11 x12 x13 x14 wx => ∃ (o' : Nat) (R' G : List UInt8), R'.length ≤ 200 ∧ x11 = .string (bs G) ∧ x13 = .string (bs G) ∧ ((x12 = .nilIface ∧ x14 = .string ⟨#[]⟩) ∨ (∃ kk : Nat, kk ≤ 13 ∧ EC wx (fun _ => True) [lay1] x12 kk ∧ x14 = .string (bs (etx [lay1] kk)))) ∧ Hid (RD wx rp g o' R') ∧ Hid (wx.cell? ⟨s, 0, none⟩ = some (.string (bs R'))) ∧ Hid (wx.frozen? ⟨s, 0, none⟩ = false) ∧ Hid (R' ≠ [] → ∀ x, wx.frozen? ⟨g, x, none⟩ = false) ∧ Hid (R' ≠ [] → g ≠ s) ∧ Hid (Ex (fun _ => False) w wx))
              case first =>
                by_cases d3 : kd = 1
                ·
                  as_aux_lemma =>
                    subst d3
                    by_cases d4 : 1 ≤ R.length
                    · have hgs : g ≠ s := hgs'.out (by intro e; subst e; simp at d4)
                      go_wp2_with fail
                      refine (ru8_any rp g o R wr hr.out d4).mono ?_
                      rintro e w6 ⟨rfl, hr6, hx6⟩
                      have HS6 := Lib.hid (hx6.cell hs.out (fun e => hne e))
                      have HF6 := Lib.hid ((hx6.frozen (p := ⟨s, 0, none⟩) hslt (fun e => hne e)).trans hf.out)
                      have HG6 := Lib.hid (fun (hn : R.drop 1 ≠ []) x => (hx6.frozen (p := ⟨g, x, none⟩) (hr.out.ltg (by omega)) hr.out.ne).trans (hz.out (by intro e; subst e; simp at hn) x))
                      have HX6 := Lib.hid (hx.out.andThen hx6 (fun i hi e => by omega))
                      have HR6 := Lib.hid hr6
                      clear hr6 hx6 hr hs hf hz hx
                      go_wp2_with fail
                      refine (rtake_any s R 1 w6 HS6.out HF6.out d4).mono ?_
                      rintro e w7 ⟨rfl, hw7⟩
                      have hx7 : Ex (fun j => j = s) w6 w7 := by rw [hw7]; exact (Ex.refl (fun j => j = s) w6).setCell (p := ⟨s, 0, none⟩) (.inl rfl) _
                      have HS7 : Hid (w7.cell? ⟨s, 0, none⟩ = some (.string (bs (R.drop 1)))) := by rw [hw7]; exact World.cell?_setCell_same _ _ _ HS6.out
                      have HF7 : Hid (w7.frozen? ⟨s, 0, none⟩ = false) := by rw [hw7]; exact (World.frozen?_setCell _ _ _ _).trans HF6.out
                      have HR7 := Lib.hid (HR6.out.keep hx7 (fun e => hne e.symm) (fun hn e => hgs e))
                      have HG7 := Lib.hid (fun (hn : R.drop 1 ≠ []) x => (hx7.frozen (p := ⟨g, x, none⟩) (HR6.out.ltg (List.length_pos_iff.2 hn)) hgs).trans (HG6.out hn x))
                      have HX7 := Lib.hid (HX6.out.andThen hx7 (fun i hi e => by omega))
                      obtain ⟨T, hT⟩ : ∃ T, T = R.take 1 := ⟨_, rfl⟩
                      have hTn : T.length = 1 := by rw [hT, List.length_take]; omega
                      rw [← hT]
                      clear hw7 hx7 HS6 HF6 HR6 HG6 HX6 hT
                      have hbl := bs_size T
                      have hnb : nb T < 4294967296 := Nat.lt_of_lt_of_le (nb_lt T) (by rw [hTn]; decide)
                      rw [hTn] at hbl
                      have q1 : IntKind.u32.wrap (nb T : Int) = (nb T : Int) := by rw [IntKind.wrap_u32]; omega
                      go_wp2_with fail
                      refine (text_any (nb T : Int) 1 (by omega) (by omega) (by omega) w7).mono ?_
                      rintro e w8 ⟨rfl, hx8⟩
                      rw [txt_nb' T 1 hTn]
                      have HX8 := Lib.hid (HX7.out.trans hx8)
                      have HS8 := Lib.hid (hx8.cell HS7.out id)
                      have HF8 := Lib.hid ((hx8.frozen (p := ⟨s, 0, none⟩) (World.block_lt_of_cell? w7 _ HS7.out) id).trans HF7.out)
                      have HR8 := Lib.hid (HR7.out.keep hx8 id (fun _ => id))
                      have HG8 := Lib.hid (fun (hn : R.drop 1 ≠ []) x => (hx8.frozen (p := ⟨g, x, none⟩) (HR7.out.ltg (List.length_pos_iff.2 hn)) id).trans (HG7.out hn x))
                      clear hx8 HX7 HS7 HF7 HR7 HG7
                      go_wp2_with fail
                      go_meet
                      exact ⟨o + 1, R.drop 1, T, (by first | (simp; done) | (simp; omega)), rfl, rfl, .inl ⟨rfl, rfl⟩, HR8, HS8, HF8, HG8, Lib.hid (fun _ => hgs), HX8⟩
                    · go_wp2_with fail
                      refine (ru8_few rp g o R wr hr.out (by omega)).mono ?_
                      rintro e w6 ⟨v6, rfl, he6, hx6⟩
                      have hec := he6
                      obtain ⟨ty6, y6, rfl⟩ := he6.shape
                      have HE6 := Lib.hid (EC.mono (Q := fun _ => True) (fun _ _ => trivial) hec)
                      have HS6 := Lib.hid (hx6.cell hs.out id)
                      have HF6 := Lib.hid ((hx6.frozen (p := ⟨s, 0, none⟩) hslt id).trans hf.out)
                      have HG6 := Lib.hid (fun (hn : R ≠ []) x => (hx6.frozen (p := ⟨g, x, none⟩) (hr.out.ltg (List.length_pos_iff.2 hn)) id).trans (hz.out hn x))
                      have HX6 := Lib.hid (hx.out.trans hx6)
                      have HR6 := Lib.hid (hr.out.keep hx6 id (fun _ => id))
                      clear he6 hec hx6 hr hs hf hz hx
                      go_wp2_with fail
                      refine (rtake_few s R 1 w6 HS6.out (by omega)).mono ?_
                      rintro e w' ⟨rfl, rfl⟩
                      go_wp2_with fail
                      refine (text_any 0 0 (by omega) (by omega) (by omega) w6).mono ?_
                      rintro e w8 ⟨rfl, hx8⟩
                      have HX8 := Lib.hid (HX6.out.trans hx8)
                      have HS8 := Lib.hid (hx8.cell HS6.out id)
                      have HF8 := Lib.hid ((hx8.frozen (p := ⟨s, 0, none⟩) (World.block_lt_of_cell? w6 _ HS6.out) id).trans HF6.out)
                      have HR8 := Lib.hid (HR6.out.keep hx8 id (fun _ => id))
                      have HE8 := Lib.hid (HE6.out.keep hx8 (fun _ _ => id))
                      have HG8 := Lib.hid (fun (hn : R ≠ []) x => (hx8.frozen (p := ⟨g, x, none⟩) (HR6.out.ltg (List.length_pos_iff.2 hn)) id).trans (HG6.out hn x))
                      clear hx8 HX6 HS6 HF6 HR6 HE6 HG6
                      go_wp2_with fail
                      go_meet
                      exact ⟨o, R, [], by omega, rfl, rfl, .inr ⟨2, by omega, HE8.out, congrArg Value.string (by decide)⟩, HR8, HS8, HF8, HG8, hgs', HX8⟩

                by_cases d3 : kd = 2
                ·
                  as_aux_lemma =>
                    subst d3
                    by_cases d4 : 2 ≤ R.length
                    · have hgs : g ≠ s := hgs'.out (by intro e; subst e; simp at d4)
                      go_wp2_with fail
                      refine (ru16_any rp g o R wr hr.out d4).mono ?_
                      rintro e w6 ⟨rfl, hr6, hx6⟩
                      have HS6 := Lib.hid (hx6.cell hs.out (fun e => hne e))
                      have HF6 := Lib.hid ((hx6.frozen (p := ⟨s, 0, none⟩) hslt (fun e => hne e)).trans hf.out)
                      have HG6 := Lib.hid (fun (hn : R.drop 2 ≠ []) x => (hx6.frozen (p := ⟨g, x, none⟩) (hr.out.ltg (by omega)) hr.out.ne).trans (hz.out (by intro e; subst e; simp at hn) x))
                      have HX6 := Lib.hid (hx.out.andThen hx6 (fun i hi e => by omega))
                      have HR6 := Lib.hid hr6
                      clear hr6 hx6 hr hs hf hz hx
                      go_wp2_with fail
                      refine (rtake_any s R 2 w6 HS6.out HF6.out d4).mono ?_
                      rintro e w7 ⟨rfl, hw7⟩
                      have hx7 : Ex (fun j => j = s) w6 w7 := by rw [hw7]; exact (Ex.refl (fun j => j = s) w6).setCell (p := ⟨s, 0, none⟩) (.inl rfl) _
                      have HS7 : Hid (w7.cell? ⟨s, 0, none⟩ = some (.string (bs (R.drop 2)))) := by rw [hw7]; exact World.cell?_setCell_same _ _ _ HS6.out
                      have HF7 : Hid (w7.frozen? ⟨s, 0, none⟩ = false) := by rw [hw7]; exact (World.frozen?_setCell _ _ _ _).trans HF6.out
                      have HR7 := Lib.hid (HR6.out.keep hx7 (fun e => hne e.symm) (fun hn e => hgs e))
                      have HG7 := Lib.hid (fun (hn : R.drop 2 ≠ []) x => (hx7.frozen (p := ⟨g, x, none⟩) (HR6.out.ltg (List.length_pos_iff.2 hn)) hgs).trans (HG6.out hn x))
                      have HX7 := Lib.hid (HX6.out.andThen hx7 (fun i hi e => by omega))
                      obtain ⟨T, hT⟩ : ∃ T, T = R.take 2 := ⟨_, rfl⟩
                      have hTn : T.length = 2 := by rw [hT, List.length_take]; omega
                      rw [← hT]
                      clear hw7 hx7 HS6 HF6 HR6 HG6 HX6 hT
                      have hbl := bs_size T
                      have hnb : nb T < 4294967296 := Nat.lt_of_lt_of_le (nb_lt T) (by rw [hTn]; decide)
                      rw [hTn] at hbl
                      have q1 : IntKind.u32.wrap (nb T : Int) = (nb T : Int) := by rw [IntKind.wrap_u32]; omega
                      go_wp2_with fail
                      refine (text_any (nb T : Int) 2 (by omega) (by omega) (by omega) w7).mono ?_
                      rintro e w8 ⟨rfl, hx8⟩
                      rw [txt_nb' T 2 hTn]
                      have HX8 := Lib.hid (HX7.out.trans hx8)
                      have HS8 := Lib.hid (hx8.cell HS7.out id)
                      have HF8 := Lib.hid ((hx8.frozen (p := ⟨s, 0, none⟩) (World.block_lt_of_cell? w7 _ HS7.out) id).trans HF7.out)
                      have HR8 := Lib.hid (HR7.out.keep hx8 id (fun _ => id))
                      have HG8 := Lib.hid (fun (hn : R.drop 2 ≠ []) x => (hx8.frozen (p := ⟨g, x, none⟩) (HR7.out.ltg (List.length_pos_iff.2 hn)) id).trans (HG7.out hn x))
                      clear hx8 HX7 HS7 HF7 HR7 HG7
                      go_wp2_with fail
                      go_meet
                      exact ⟨o + 2, R.drop 2, T, (by first | (simp; done) | (simp; omega)), rfl, rfl, .inl ⟨rfl, rfl⟩, HR8, HS8, HF8, HG8, Lib.hid (fun _ => hgs), HX8⟩
                    · go_wp2_with fail
                      refine (ru16_few rp g o R wr hr.out (by omega)).mono ?_
                      rintro e w6 ⟨v6, rfl, he6, hx6⟩
                      have hec := he6
                      obtain ⟨ty6, y6, rfl⟩ := he6.shape
                      have HE6 := Lib.hid (EC.mono (Q := fun _ => True) (fun _ _ => trivial) hec)
                      have HS6 := Lib.hid (hx6.cell hs.out id)
                      have HF6 := Lib.hid ((hx6.frozen (p := ⟨s, 0, none⟩) hslt id).trans hf.out)
                      have HG6 := Lib.hid (fun (hn : R ≠ []) x => (hx6.frozen (p := ⟨g, x, none⟩) (hr.out.ltg (List.length_pos_iff.2 hn)) id).trans (hz.out hn x))
                      have HX6 := Lib.hid (hx.out.trans hx6)
                      have HR6 := Lib.hid (hr.out.keep hx6 id (fun _ => id))
                      clear he6 hec hx6 hr hs hf hz hx
                      go_wp2_with fail
                      refine (rtake_few s R 2 w6 HS6.out (by omega)).mono ?_
                      rintro e w' ⟨rfl, rfl⟩
                      go_wp2_with fail
                      refine (text_any 0 0 (by omega) (by omega) (by omega) w6).mono ?_
                      rintro e w8 ⟨rfl, hx8⟩
                      have HX8 := Lib.hid (HX6.out.trans hx8)
                      have HS8 := Lib.hid (hx8.cell HS6.out id)
                      have HF8 := Lib.hid ((hx8.frozen (p := ⟨s, 0, none⟩) (World.block_lt_of_cell? w6 _ HS6.out) id).trans HF6.out)
                      have HR8 := Lib.hid (HR6.out.keep hx8 id (fun _ => id))
                      have HE8 := Lib.hid (HE6.out.keep hx8 (fun _ _ => id))
                      have HG8 := Lib.hid (fun (hn : R ≠ []) x => (hx8.frozen (p := ⟨g, x, none⟩) (HR6.out.ltg (List.length_pos_iff.2 hn)) id).trans (HG6.out hn x))
                      clear hx8 HX6 HS6 HF6 HR6 HE6 HG6
                      go_wp2_with fail
                      go_meet
                      exact ⟨o, R, [], by omega, rfl, rfl, .inr ⟨2, by omega, HE8.out, congrArg Value.string (by decide)⟩, HR8, HS8, HF8, HG8, hgs', HX8⟩

                by_cases d3 : kd = 3
                ·
                  as_aux_lemma =>
                    subst d3
                    by_cases d4 : 4 ≤ R.length
                    · have hgs : g ≠ s := hgs'.out (by intro e; subst e; simp at d4)
                      go_wp2_with fail
                      refine (ru32_any rp g o R wr hr.out d4).mono ?_
                      rintro e w6 ⟨rfl, hr6, hx6⟩
                      have HS6 := Lib.hid (hx6.cell hs.out (fun e => hne e))
                      have HF6 := Lib.hid ((hx6.frozen (p := ⟨s, 0, none⟩) hslt (fun e => hne e)).trans hf.out)
                      have HG6 := Lib.hid (fun (hn : R.drop 4 ≠ []) x => (hx6.frozen (p := ⟨g, x, none⟩) (hr.out.ltg (by omega)) hr.out.ne).trans (hz.out (by intro e; subst e; simp at hn) x))
                      have HX6 := Lib.hid (hx.out.andThen hx6 (fun i hi e => by omega))
                      have HR6 := Lib.hid hr6
                      clear hr6 hx6 hr hs hf hz hx
                      go_wp2_with fail
                      refine (rtake_any s R 4 w6 HS6.out HF6.out d4).mono ?_
                      rintro e w7 ⟨rfl, hw7⟩
                      have hx7 : Ex (fun j => j = s) w6 w7 := by rw [hw7]; exact (Ex.refl (fun j => j = s) w6).setCell (p := ⟨s, 0, none⟩) (.inl rfl) _
                      have HS7 : Hid (w7.cell? ⟨s, 0, none⟩ = some (.string (bs (R.drop 4)))) := by rw [hw7]; exact World.cell?_setCell_same _ _ _ HS6.out
                      have HF7 : Hid (w7.frozen? ⟨s, 0, none⟩ = false) := by rw [hw7]; exact (World.frozen?_setCell _ _ _ _).trans HF6.out
                      have HR7 := Lib.hid (HR6.out.keep hx7 (fun e => hne e.symm) (fun hn e => hgs e))
                      have HG7 := Lib.hid (fun (hn : R.drop 4 ≠ []) x => (hx7.frozen (p := ⟨g, x, none⟩) (HR6.out.ltg (List.length_pos_iff.2 hn)) hgs).trans (HG6.out hn x))
                      have HX7 := Lib.hid (HX6.out.andThen hx7 (fun i hi e => by omega))
                      obtain ⟨T, hT⟩ : ∃ T, T = R.take 4 := ⟨_, rfl⟩
                      have hTn : T.length = 4 := by rw [hT, List.length_take]; omega
                      rw [← hT]
                      clear hw7 hx7 HS6 HF6 HR6 HG6 HX6 hT
                      have hbl := bs_size T
                      have hnb : nb T < 4294967296 := Nat.lt_of_lt_of_le (nb_lt T) (by rw [hTn]; decide)
                      rw [hTn] at hbl
                      have q1 : IntKind.u32.wrap (nb T : Int) = (nb T : Int) := by rw [IntKind.wrap_u32]; omega
                      go_wp2_with fail
                      refine (text_any (nb T : Int) 4 (by omega) (by omega) (by omega) w7).mono ?_
                      rintro e w8 ⟨rfl, hx8⟩
                      rw [txt_nb' T 4 hTn]
                      have HX8 := Lib.hid (HX7.out.trans hx8)
                      have HS8 := Lib.hid (hx8.cell HS7.out id)
                      have HF8 := Lib.hid ((hx8.frozen (p := ⟨s, 0, none⟩) (World.block_lt_of_cell? w7 _ HS7.out) id).trans HF7.out)
                      have HR8 := Lib.hid (HR7.out.keep hx8 id (fun _ => id))
                      have HG8 := Lib.hid (fun (hn : R.drop 4 ≠ []) x => (hx8.frozen (p := ⟨g, x, none⟩) (HR7.out.ltg (List.length_pos_iff.2 hn)) id).trans (HG7.out hn x))
                      clear hx8 HX7 HS7 HF7 HR7 HG7
                      go_wp2_with fail
                      go_meet
                      exact ⟨o + 4, R.drop 4, T, (by first | (simp; done) | (simp; omega)), rfl, rfl, .inl ⟨rfl, rfl⟩, HR8, HS8, HF8, HG8, Lib.hid (fun _ => hgs), HX8⟩
                    · go_wp2_with fail
                      refine (ru32_few rp g o R wr hr.out (by omega)).mono ?_
                      rintro e w6 ⟨v6, rfl, he6, hx6⟩
                      have hec := he6
                      obtain ⟨ty6, y6, rfl⟩ := he6.shape
                      have HE6 := Lib.hid (EC.mono (Q := fun _ => True) (fun _ _ => trivial) hec)
                      have HS6 := Lib.hid (hx6.cell hs.out id)
                      have HF6 := Lib.hid ((hx6.frozen (p := ⟨s, 0, none⟩) hslt id).trans hf.out)
                      have HG6 := Lib.hid (fun (hn : R ≠ []) x => (hx6.frozen (p := ⟨g, x, none⟩) (hr.out.ltg (List.length_pos_iff.2 hn)) id).trans (hz.out hn x))
                      have HX6 := Lib.hid (hx.out.trans hx6)
                      have HR6 := Lib.hid (hr.out.keep hx6 id (fun _ => id))
                      clear he6 hec hx6 hr hs hf hz hx
                      go_wp2_with fail
                      refine (rtake_few s R 4 w6 HS6.out (by omega)).mono ?_
                      rintro e w' ⟨rfl, rfl⟩
                      go_wp2_with fail
                      refine (text_any 0 0 (by omega) (by omega) (by omega) w6).mono ?_
                      rintro e w8 ⟨rfl, hx8⟩
                      have HX8 := Lib.hid (HX6.out.trans hx8)
                      have HS8 := Lib.hid (hx8.cell HS6.out id)
                      have HF8 := Lib.hid ((hx8.frozen (p := ⟨s, 0, none⟩) (World.block_lt_of_cell? w6 _ HS6.out) id).trans HF6.out)
                      have HR8 := Lib.hid (HR6.out.keep hx8 id (fun _ => id))
                      have HE8 := Lib.hid (HE6.out.keep hx8 (fun _ _ => id))
                      have HG8 := Lib.hid (fun (hn : R ≠ []) x => (hx8.frozen (p := ⟨g, x, none⟩) (HR6.out.ltg (List.length_pos_iff.2 hn)) id).trans (HG6.out hn x))
                      clear hx8 HX6 HS6 HF6 HR6 HE6 HG6
                      go_wp2_with fail
                      go_meet
                      exact ⟨o, R, [], by omega, rfl, rfl, .inr ⟨2, by omega, HE8.out, congrArg Value.string (by decide)⟩, HR8, HS8, HF8, HG8, hgs', HX8⟩

                by_cases d3 : kd = 4
                · subst d3
                  by_cases d5 : nn < 0
                  ·
                    as_aux_lemma =>
                      go_wp2_with fail
                      refine (rbytes_neg rp nn wr d5).mono ?_
                      rintro e w6 ⟨v6, rfl, he6, hx6⟩
                      have hec := he6
                      obtain ⟨ty6, y6, rfl⟩ := he6.shape
                      have HE6 := Lib.hid (EC.mono (Q := fun _ => True) (fun _ _ => trivial) hec)
                      have HS6 := Lib.hid (hx6.cell hs.out id)
                      have HF6 := Lib.hid ((hx6.frozen (p := ⟨s, 0, none⟩) hslt id).trans hf.out)
                      have HG6 := Lib.hid (fun (hn : R ≠ []) x => (hx6.frozen (p := ⟨g, x, none⟩) (hr.out.ltg (List.length_pos_iff.2 hn)) id).trans (hz.out hn x))
                      have HX6 := Lib.hid (hx.out.trans hx6)
                      have HR6 := Lib.hid (hr.out.keep hx6 id (fun _ => id))
                      have g2 := hx6.cell g2 id
                      clear he6 hec hx6 hr hs hf hz hx
                      go_wp2_with fail
                      refine (rtake_neg s nn w6 d5).mono ?_
                      rintro e w' ⟨rfl, rfl⟩
                      have hcv : (convert 23 9 (.slice none 0 0)).run Tryd.prog w6 = .ok (.string ⟨#[]⟩) w6 := (RB.nil w6 (fun _ => True)).str (Pr := Tryd.prog) 23 9 5 Tryd.underlying23 Tryd.underlying5 Tryd.underlying9
                      go_wp2_with fail
                      clear hcv

                      go_loopw [23] (fun i wl => i = .int .i64 0 ∧ w6 = wl) (fun _ _ => 0)
                      case atStart => exact ⟨rfl, rfl⟩
                      case round =>
                        obtain ⟨rfl, rfl⟩ := hrel
                        skip
                        go_wp2_with fail
                        go_meet
                        exact ⟨o, R, [], by omega, rfl, rfl, .inr ⟨1, by omega, HE6.out, congrArg Value.string (by decide)⟩, HR6, HS6, HF6, HG6, hgs', HX6⟩

                  · by_cases d6 : (R.length : Int) < nn
                    ·
                      as_aux_lemma =>
                        go_wp2_with fail
                        refine (rbytes_few rp g o R nn wr hr.out d6).mono ?_
                        rintro e w6 ⟨v6, rfl, he6, hx6⟩
                        have hec := he6
                        obtain ⟨ty6, y6, rfl⟩ := he6.shape
                        have HE6 := Lib.hid (EC.mono (Q := fun _ => True) (fun _ _ => trivial) hec)
                        have HS6 := Lib.hid (hx6.cell hs.out id)
                        have HF6 := Lib.hid ((hx6.frozen (p := ⟨s, 0, none⟩) hslt id).trans hf.out)
                        have HG6 := Lib.hid (fun (hn : R ≠ []) x => (hx6.frozen (p := ⟨g, x, none⟩) (hr.out.ltg (List.length_pos_iff.2 hn)) id).trans (hz.out hn x))
                        have HX6 := Lib.hid (hx.out.trans hx6)
                        have HR6 := Lib.hid (hr.out.keep hx6 id (fun _ => id))
                        have g2 := hx6.cell g2 id
                        clear he6 hec hx6 hr hs hf hz hx
                        go_wp2_with fail
                        refine (rtake_few s R nn w6 HS6.out d6).mono ?_
                        rintro e w' ⟨rfl, rfl⟩
                        have hcv : (convert 23 9 (.slice none 0 0)).run Tryd.prog w6 = .ok (.string ⟨#[]⟩) w6 := (RB.nil w6 (fun _ => True)).str (Pr := Tryd.prog) 23 9 5 Tryd.underlying23 Tryd.underlying5 Tryd.underlying9
                        go_wp2_with fail
                        clear hcv

                        go_loopw [23] (fun i wl => i = .int .i64 0 ∧ w6 = wl) (fun _ _ => 0)
                        case atStart => exact ⟨rfl, rfl⟩
                        case round =>
                          obtain ⟨rfl, rfl⟩ := hrel
                          skip
                          go_wp2_with fail
                          go_meet
                          exact ⟨o, R, [], by omega, rfl, rfl, .inr ⟨2, by omega, HE6.out, congrArg Value.string (by decide)⟩, HR6, HS6, HF6, HG6, hgs', HX6⟩

                    · obtain ⟨n, rfl⟩ : ∃ n : Nat, nn = (n : Int) := ⟨nn.toNat, by omega⟩
                      have d4 : n ≤ R.length := by omega
                      as_aux_lemma =>
                        by_cases hR : R = []
                        · have HN0 : Hid (n = 0) := by
                            show n = 0
                            (try rw [hR] at d4)
                            first | (rw [hR]; rfl) | simpa using d4
                          have HRE := Lib.hid hR
                          clear hR
                          go_wp2_with fail
                          refine (rbytes_any rp g o R n wr hr.out d4).mono ?_
                          rintro e w6 ⟨u6, rfl, A6, rfl, _, hb6, hr6, hx6⟩
                          have HS6 := Lib.hid (hx6.cell hs.out (fun e => hne e))
                          have HF6 := Lib.hid ((hx6.frozen (p := ⟨s, 0, none⟩) hslt (fun e => hne e)).trans hf.out)
                          have HX6 := Lib.hid (hx.out.andThen hx6 (fun i hi e => by omega))
                          have HR6 := Lib.hid hr6
                          clear hr6 hx6 hr hs hf hz hx
                          have g2 := HX6.out.cell HK1.out id
                          go_wp2_with fail
                          refine (rtake_any s R n w6 HS6.out HF6.out d4).mono ?_
                          rintro e w7 ⟨rfl, hw7⟩
                          have hx7 : Ex (fun j => j = s) w6 w7 := by rw [hw7]; exact (Ex.refl (fun j => j = s) w6).setCell (p := ⟨s, 0, none⟩) (.inl rfl) _
                          have HS7 : Hid (w7.cell? ⟨s, 0, none⟩ = some (.string (bs (R.drop n)))) := by rw [hw7]; exact World.cell?_setCell_same _ _ _ HS6.out
                          have HF7 : Hid (w7.frozen? ⟨s, 0, none⟩ = false) := by rw [hw7]; exact (World.frozen?_setCell _ _ _ _).trans HF6.out
                          have HR7 := Lib.hid (HR6.out.keep hx7 (fun e => hne e.symm) (fun hn e => hn (by rw [HRE.out]; simp)))
                          have HX7 := Lib.hid (HX6.out.andThen hx7 (fun i hi e => by omega))
                          have hb7 := hb6.keepN2 hx7 (fun hn => absurd (by rw [HRE.out]; simp) hn)
                          obtain ⟨T, hT⟩ : ∃ T, T = R.take n := ⟨_, rfl⟩
                          rw [← hT] at hb7 ⊢
                          have hcv := hb7.str (Pr := Tryd.prog) 23 9 5 Tryd.underlying23 Tryd.underlying5 Tryd.underlying9
                          have hT0 : T.length = 0 := by rw [hT, HRE.out]; simp
                          have hd0 : R.drop n = [] := by rw [HRE.out]; simp
                          rw [hd0] at HS7 HR7
                          clear hw7 hx7 HS6 HF6 HR6 HX6 hb6 hb7 hT
                          go_wp2_with fail
                          clear hcv
                          go_loopw [23] (fun i wl => i = .int .i64 0 ∧ w7 = wl) (fun _ _ => 0)
                          case atStart => exact ⟨rfl, rfl⟩
                          case round =>
                            obtain ⟨rfl, rfl⟩ := hrel
                            have hn0 := HN0.out
                            go_wp2_with fail
                            go_meet
                            exact ⟨o + n, [], T, by simp, rfl, rfl, .inl ⟨rfl, rfl⟩, HR7, HS7, HF7, Lib.hid (fun hn => absurd rfl hn), Lib.hid (fun hn => absurd rfl hn), HX7⟩

                        · have hgs : g ≠ s := hgs'.out hR
                          go_wp2_with fail
                          refine (rbytes_any rp g o R n wr hr.out d4).mono ?_
                          rintro e w6 ⟨u6, rfl, A6, rfl, hA6, hb6, hr6, hx6⟩
                          obtain rfl : A6 = some ⟨g, o, none⟩ := hA6.resolve_left hR
                          have HS6 := Lib.hid (hx6.cell hs.out (fun e => hne e))
                          have HF6 := Lib.hid ((hx6.frozen (p := ⟨s, 0, none⟩) hslt (fun e => hne e)).trans hf.out)
                          have HG6 := Lib.hid (fun x => (hx6.frozen (p := ⟨g, x, none⟩) (hr.out.ltg (List.length_pos_iff.2 hR)) hr.out.ne).trans (hz.out hR x))
                          have HX6 := Lib.hid (hx.out.andThen hx6 (fun i hi e => by omega))
                          have HR6 := Lib.hid hr6
                          have hgl : g < w6.heap.size := Nat.lt_of_lt_of_le (hr.out.ltg (List.length_pos_iff.2 hR)) hx6.size
                          clear hr6 hx6 hr hs hf hz hx hA6
                          have g2 := HX6.out.cell HK1.out id
                          go_wp2_with fail
                          refine (rtake_any s R n w6 HS6.out HF6.out d4).mono ?_
                          rintro e w7 ⟨rfl, hw7⟩
                          have hx7 : Ex (fun j => j = s) w6 w7 := by rw [hw7]; exact (Ex.refl (fun j => j = s) w6).setCell (p := ⟨s, 0, none⟩) (.inl rfl) _
                          have HS7 : Hid (w7.cell? ⟨s, 0, none⟩ = some (.string (bs (R.drop n)))) := by rw [hw7]; exact World.cell?_setCell_same _ _ _ HS6.out
                          have HF7 : Hid (w7.frozen? ⟨s, 0, none⟩ = false) := by rw [hw7]; exact (World.frozen?_setCell _ _ _ _).trans HF6.out
                          have HR7 := Lib.hid (HR6.out.keep hx7 (fun e => hne e.symm) (fun _ e => hgs e))
                          have HG7 := Lib.hid (fun x => (hx7.frozen (p := ⟨g, x, none⟩) hgl hgs).trans (HG6.out x))
                          have HX7 := Lib.hid (HX6.out.andThen hx7 (fun i hi e => by omega))
                          have hb7 := hb6.keep hx7 (fun k hk e e' => hgs (e ▸ e'))
                          obtain ⟨T, hT⟩ : ∃ T, T = R.take n := ⟨_, rfl⟩
                          have hTn : T.length = n := by rw [hT, List.length_take]; omega
                          rw [← hT] at hb7 ⊢
                          have hcv := hb7.str (Pr := Tryd.prog) 23 9 5 Tryd.underlying23 Tryd.underlying5 Tryd.underlying9
                          have hc7 : ∀ x (h : x < T.length), 0 ≤ x → w7.cell? ⟨g, o + x, none⟩ = some (.int .u8 (T[x].toNat : Int)) := by
                            intro x h _
                            obtain ⟨_, A', c', e, _, hq⟩ := hb7
                            injection e with e1 e2 e3
                            obtain ⟨b', off', e4, _, h5⟩ := hq x h
                            rw [← e1] at e4
                            have e4 := Option.some.inj e4
                            injection e4 with e5 e6
                            subst e5 e6
                            exact h5
                          have HC7 := Lib.hid hc7
                          have hx70 := Lib.hid (Ex.refl (fun x => x = g) w7)
                          clear hw7 hx7 HS6 HF6 HR6 HX6 HG6 hb6 hb7 hT hc7
                          go_wp2_with fail
                          clear hcv
                          go_loopw [23] (fun i wl => ∃ j : Nat, j ≤ n ∧ i = .int .i64 (j : Int) ∧ Hid (RD wl rp g (o + n) (R.drop n)) ∧ Hid (∀ x (h : x < T.length), j ≤ x → wl.cell? ⟨g, o + x, none⟩ = some (.int .u8 (T[x].toNat : Int))) ∧ Hid (∀ x, wl.frozen? ⟨g, x, none⟩ = false) ∧ Hid (Ex (fun x => x = g) w7 wl)) (fun i _ => n - (intOf i).toNat)
                          case atStart => exact ⟨0, by omega, rfl, HR7, HC7, HG7, hx70⟩
                          case round =>
                            clear hx70 HC7
                            obtain ⟨j, hj, rfl, hrj, hcj, hfj, hxj⟩ := hrel
                            by_cases dj : j < n
                            · have hcc := hcj.out j (by omega) (Nat.le_refl _)
                              have hff := hfj.out (o + j)
                              go_wp2_with fail
                              go_roundw
                              case rel =>
                                refine ⟨j + 1, by omega, by go_num, Lib.hid (hrj.out.write (by omega) _), Lib.hid (fun x h hjx => ?_), Lib.hid (fun x => (World.frozen?_setCell _ _ _ _).trans (hfj.out x)), Lib.hid (hxj.out.setCell (p := ⟨g, o + j, none⟩) (.inl rfl) _)⟩
                                rw [World.cell?_setCell_other]
                                · exact hcj.out x h (by omega)
                                · intro e; injection e with _ e2; omega
                              case measure => simp [intOf]; omega
                            · go_wp2_with fail
                              go_meet
                              exact ⟨o + n, R.drop n, T, (by first | (simp; done) | (simp; omega)), rfl, rfl, .inl ⟨rfl, rfl⟩, hrj, Lib.hid (hxj.out.cell HS7.out (fun e => hgs e.symm)), Lib.hid ((hxj.out.frozen (p := ⟨s, 0, none⟩) (World.block_lt_of_cell? w7 _ HS7.out) (fun e => hgs e.symm)).trans HF7.out), Lib.hid (fun _ => hfj.out), Lib.hid (fun _ => hgs), Lib.hid (HX7.out.andThen hxj.out (fun i hi e => by omega))⟩

                by_cases d3 : kd = 5
                · subst d3
                  have d4 : R.length ≤ R.length := Nat.le_refl _
                  as_aux_lemma =>
                    by_cases hR : R = []
                    · have HN0 : Hid (R.length = 0) := by
                        show R.length = 0
                        (try rw [hR] at d4)
                        first | (rw [hR]; rfl) | simpa using d4
                      have HRE := Lib.hid hR
                      clear hR
                      go_wp2_with fail
                      refine (rest_any rp g o R wr hr.out).mono ?_
                      rintro e w6 ⟨u6, rfl, A6, rfl, _, hb6, hr6, hx6⟩
                      have HS6 := Lib.hid (hx6.cell hs.out (fun e => hne e))
                      have HF6 := Lib.hid ((hx6.frozen (p := ⟨s, 0, none⟩) hslt (fun e => hne e)).trans hf.out)
                      have HX6 := Lib.hid (hx.out.andThen hx6 (fun i hi e => by omega))
                      have HR6 := Lib.hid hr6
                      clear hr6 hx6 hr hs hf hz hx
                      have hs6 := HS6.out
                      go_wp2_with fail
                      refine (rtake_any s R R.length w6 HS6.out HF6.out d4).mono ?_
                      rintro e w7 ⟨rfl, hw7⟩
                      have hx7 : Ex (fun j => j = s) w6 w7 := by rw [hw7]; exact (Ex.refl (fun j => j = s) w6).setCell (p := ⟨s, 0, none⟩) (.inl rfl) _
                      have HS7 : Hid (w7.cell? ⟨s, 0, none⟩ = some (.string (bs (R.drop R.length)))) := by rw [hw7]; exact World.cell?_setCell_same _ _ _ HS6.out
                      have HF7 : Hid (w7.frozen? ⟨s, 0, none⟩ = false) := by rw [hw7]; exact (World.frozen?_setCell _ _ _ _).trans HF6.out
                      have HR7 := Lib.hid (HR6.out.keep hx7 (fun e => hne e.symm) (fun hn e => hn (by rw [HRE.out]; simp)))
                      have HX7 := Lib.hid (HX6.out.andThen hx7 (fun i hi e => by omega))
                      have hb7 := hb6.keepN2 hx7 (fun hn => absurd (by rw [HRE.out]; simp) hn)
                      obtain ⟨T, hT⟩ : ∃ T, T = R.take R.length := ⟨_, rfl⟩
                      rw [← hT] at hb7 ⊢
                      have hcv := hb7.str (Pr := Tryd.prog) 23 9 5 Tryd.underlying23 Tryd.underlying5 Tryd.underlying9
                      have hT0 : T.length = 0 := by rw [hT, HRE.out]; simp
                      have hd0 : R.drop R.length = [] := by rw [HRE.out]; simp
                      rw [hd0] at HS7 HR7
                      clear hw7 hx7 HS6 HF6 HR6 HX6 hb6 hb7 hT
                      go_wp2_with fail
                      clear hcv
                      go_loopw [25] (fun i wl => i = .int .i64 0 ∧ w7 = wl) (fun _ _ => 0)
                      case atStart => exact ⟨rfl, rfl⟩
                      case round =>
                        obtain ⟨rfl, rfl⟩ := hrel
                        have hn0 := HN0.out
                        go_wp2_with fail
                        go_meet
                        exact ⟨o + R.length, [], T, by simp, rfl, rfl, .inl ⟨rfl, rfl⟩, HR7, HS7, HF7, Lib.hid (fun hn => absurd rfl hn), Lib.hid (fun hn => absurd rfl hn), HX7⟩

                    · have hgs : g ≠ s := hgs'.out hR
                      go_wp2_with fail
                      refine (rest_any rp g o R wr hr.out).mono ?_
                      rintro e w6 ⟨u6, rfl, A6, rfl, hA6, hb6, hr6, hx6⟩
                      obtain rfl : A6 = some ⟨g, o, none⟩ := hA6.resolve_left hR
                      have HS6 := Lib.hid (hx6.cell hs.out (fun e => hne e))
                      have HF6 := Lib.hid ((hx6.frozen (p := ⟨s, 0, none⟩) hslt (fun e => hne e)).trans hf.out)
                      have HG6 := Lib.hid (fun x => (hx6.frozen (p := ⟨g, x, none⟩) (hr.out.ltg (List.length_pos_iff.2 hR)) hr.out.ne).trans (hz.out hR x))
                      have HX6 := Lib.hid (hx.out.andThen hx6 (fun i hi e => by omega))
                      have HR6 := Lib.hid hr6
                      have hgl : g < w6.heap.size := Nat.lt_of_lt_of_le (hr.out.ltg (List.length_pos_iff.2 hR)) hx6.size
                      clear hr6 hx6 hr hs hf hz hx hA6
                      have hs6 := HS6.out
                      go_wp2_with fail
                      refine (rtake_any s R R.length w6 HS6.out HF6.out d4).mono ?_
                      rintro e w7 ⟨rfl, hw7⟩
                      have hx7 : Ex (fun j => j = s) w6 w7 := by rw [hw7]; exact (Ex.refl (fun j => j = s) w6).setCell (p := ⟨s, 0, none⟩) (.inl rfl) _
                      have HS7 : Hid (w7.cell? ⟨s, 0, none⟩ = some (.string (bs (R.drop R.length)))) := by rw [hw7]; exact World.cell?_setCell_same _ _ _ HS6.out
                      have HF7 : Hid (w7.frozen? ⟨s, 0, none⟩ = false) := by rw [hw7]; exact (World.frozen?_setCell _ _ _ _).trans HF6.out
                      have HR7 := Lib.hid (HR6.out.keep hx7 (fun e => hne e.symm) (fun _ e => hgs e))
                      have HG7 := Lib.hid (fun x => (hx7.frozen (p := ⟨g, x, none⟩) hgl hgs).trans (HG6.out x))
                      have HX7 := Lib.hid (HX6.out.andThen hx7 (fun i hi e => by omega))
                      have hb7 := hb6.keep hx7 (fun k hk e e' => hgs (e ▸ e'))
                      obtain ⟨T, hT⟩ : ∃ T, T = R.take R.length := ⟨_, rfl⟩
                      have hTn : T.length = R.length := by rw [hT, List.length_take]; omega
                      rw [← hT] at hb7 ⊢
                      have hcv := hb7.str (Pr := Tryd.prog) 23 9 5 Tryd.underlying23 Tryd.underlying5 Tryd.underlying9
                      have hc7 : ∀ x (h : x < T.length), 0 ≤ x → w7.cell? ⟨g, o + x, none⟩ = some (.int .u8 (T[x].toNat : Int)) := by
                        intro x h _
                        obtain ⟨_, A', c', e, _, hq⟩ := hb7
                        injection e with e1 e2 e3
                        obtain ⟨b', off', e4, _, h5⟩ := hq x h
                        rw [← e1] at e4
                        have e4 := Option.some.inj e4
                        injection e4 with e5 e6
                        subst e5 e6
                        exact h5
                      have HC7 := Lib.hid hc7
                      have hx70 := Lib.hid (Ex.refl (fun x => x = g) w7)
                      clear hw7 hx7 HS6 HF6 HR6 HX6 HG6 hb6 hb7 hT hc7
                      go_wp2_with fail
                      clear hcv
                      go_loopw [25] (fun i wl => ∃ j : Nat, j ≤ R.length ∧ i = .int .i64 (j : Int) ∧ Hid (RD wl rp g (o + R.length) (R.drop R.length)) ∧ Hid (∀ x (h : x < T.length), j ≤ x → wl.cell? ⟨g, o + x, none⟩ = some (.int .u8 (T[x].toNat : Int))) ∧ Hid (∀ x, wl.frozen? ⟨g, x, none⟩ = false) ∧ Hid (Ex (fun x => x = g) w7 wl)) (fun i _ => R.length - (intOf i).toNat)
                      case atStart => exact ⟨0, by omega, rfl, HR7, HC7, HG7, hx70⟩
                      case round =>
                        clear hx70 HC7
                        obtain ⟨j, hj, rfl, hrj, hcj, hfj, hxj⟩ := hrel
                        by_cases dj : j < R.length
                        · have hcc := hcj.out j (by omega) (Nat.le_refl _)
                          have hff := hfj.out (o + j)
                          go_wp2_with fail
                          go_roundw
                          case rel =>
                            refine ⟨j + 1, by omega, by go_num, Lib.hid (hrj.out.write (by omega) _), Lib.hid (fun x h hjx => ?_), Lib.hid (fun x => (World.frozen?_setCell _ _ _ _).trans (hfj.out x)), Lib.hid (hxj.out.setCell (p := ⟨g, o + j, none⟩) (.inl rfl) _)⟩
                            rw [World.cell?_setCell_other]
                            · exact hcj.out x h (by omega)
                            · intro e; injection e with _ e2; omega
                          case measure => simp [intOf]; omega
                        · go_wp2_with fail
                          go_meet
                          exact ⟨o + R.length, R.drop R.length, T, (by first | (simp; done) | (simp; omega)), rfl, rfl, .inl ⟨rfl, rfl⟩, hrj, Lib.hid (hxj.out.cell HS7.out (fun e => hgs e.symm)), Lib.hid ((hxj.out.frozen (p := ⟨s, 0, none⟩) (World.block_lt_of_cell? w7 _ HS7.out) (fun e => hgs e.symm)).trans HF7.out), Lib.hid (fun _ => hfj.out), Lib.hid (fun _ => hgs), Lib.hid (HX7.out.andThen hxj.out (fun i hi e => by omega))⟩

                by_cases d3 : kd = 6
                · subst d3
                  go_wp2_with fail
                  refine (rdone_any rp g o R wr hr.out).mono ?_
                  rintro e w6 ⟨hx6, hcase⟩
                  have HS6 := Lib.hid (hx6.cell hs.out id)
                  have HF6 := Lib.hid ((hx6.frozen (p := ⟨s, 0, none⟩) hslt id).trans hf.out)
                  have HG6 := Lib.hid (fun (hn : R ≠ []) x => (hx6.frozen (p := ⟨g, x, none⟩) (hr.out.ltg (List.length_pos_iff.2 hn)) id).trans (hz.out hn x))
                  have HX6 := Lib.hid (hx.out.trans hx6)
                  have HR6 := Lib.hid (hr.out.keep hx6 id (fun _ => id))
                  have hs6 := HS6.out
                  clear hx6 hr hs hf hz hx
                  rcases hcase with ⟨hnil, rfl, _⟩ | ⟨hnn, v, rfl, hv⟩
                  · have hR0 : R.length = 0 := by rw [hnil]; rfl
                    go_wp2_with fail
                    go_meet
                    exact ⟨o, R, [], by omega, rfl, rfl, .inl ⟨rfl, rfl⟩, HR6, HS6, HF6, HG6, hgs', HX6⟩
                  · have hR0 : 0 < R.length := List.length_pos_iff.2 hnn
                    have HE6 := Lib.hid (EC.mono (Q := fun _ => True) (fun _ _ => trivial) hv)
                    obtain ⟨ty6, y6, rfl⟩ := hv.shape
                    clear hv
                    go_wp2_with fail
                    go_meet
                    exact ⟨o, R, [], by omega, rfl, rfl, .inr ⟨3, by omega, HE6.out, congrArg Value.string (by decide)⟩, HR6, HS6, HF6, HG6, hgs', HX6⟩
                · go_wp2_with fail
                  go_meet
                  exact ⟨o, R, [], by omega, rfl, rfl, .inl ⟨rfl, rfl⟩, hr, hs, hf, hz, hgs', hx⟩
              case rest =>
                clear hr hs hf hz hx hbr
                obtain ⟨o', R', G, hR', rfl, rfl, herr, hr', hs', hf', hz', hgs2, hx'⟩ := hcut
                have hbr := bs_size R'
                have hS : Ex (fun _ => False) wc wc.drew := (Ex.refl _ wc).drew
                rcases herr with ⟨rfl, rfl⟩ | ⟨kk, hkk, hec, rfl⟩
                · go_upto_region 61 with fail
                  as_aux_lemma =>
                    refine wp_region_held_drew (S := fun W => Ex (fun _ => False) wc W) (by kernel_rfl) hS (fun _ => ?_)
                    refine wpAnyH_take (i := 0) (oi := { dst := some 206, op := Go.Op.move (Go.Operand.tmp 11), type := 9, pos := "law.go:103", after := #[], guard := none }) (v := ?v1) rfl (by kernel_rfl) (by kernel_rfl) (by kernel_rfl) (fun _ _ _ h => h) (Or.inl ⟨by rfl, ?hy1⟩) (by assumption) ?rest1
                    case hy1 => (intro w hSw; (try dsimp only at hSw); have hs0 := hSw.cell hs'.out id; go_simp <;> with_reducible rfl)
                    try simp only [Act.put, List.setIfInBounds_toArray, List.set_cons_zero, List.set_cons_succ]
                    refine wpAnyH_take (i := 1) (oi := { dst := some 207, op := Go.Op.move (Go.Operand.tmp 13), type := 9, pos := "law.go:103", after := #[], guard := none }) (v := ?v2) rfl (by kernel_rfl) (by kernel_rfl) (by kernel_rfl) (fun _ _ _ h => h) (Or.inl ⟨by rfl, ?hy2⟩) (by assumption) ?rest2
                    case hy2 => (intro w hSw; (try dsimp only at hSw); have hs0 := hSw.cell hs'.out id; go_simp <;> with_reducible rfl)
                    try simp only [Act.put, List.setIfInBounds_toArray, List.set_cons_zero, List.set_cons_succ]
                    refine wpAnyH_take (i := 2) (oi := { dst := some 208, op := Go.Op.binOp Go.BinOp.neq 9 (Go.Operand.tmp 206) (Go.Operand.tmp 207) 9, type := 4, pos := "law.go:103", after := #[{ on := 0, ground := Go.Ground.data }, { on := 1, ground := Go.Ground.data }], guard := none }) (v := ?v3) rfl (by kernel_rfl) (by kernel_rfl) (by kernel_rfl) (fun _ _ _ h => h) (Or.inl ⟨by rfl, ?hy3⟩) (by assumption) ?rest3
                    case hy3 => (intro w hSw; (try dsimp only at hSw); have hs0 := hSw.cell hs'.out id; go_simp <;> with_reducible rfl)
                    try simp only [Act.put, List.setIfInBounds_toArray, List.set_cons_zero, List.set_cons_succ]
                    refine wpAnyH_take (i := 3) (oi := { dst := some 209, op := Go.Op.move (Go.Operand.tmp 208), type := 4, pos := "law.go:103", after := #[{ on := 2, ground := Go.Ground.data }], guard := none }) (v := ?v4) rfl (by kernel_rfl) (by kernel_rfl) (by kernel_rfl) (fun _ _ _ h => h) (Or.inl ⟨by rfl, ?hy4⟩) (by assumption) ?rest4
                    case hy4 => (intro w hSw; (try dsimp only at hSw); have hs0 := hSw.cell hs'.out id; go_simp <;> with_reducible rfl)
                    try simp only [Act.put, List.setIfInBounds_toArray, List.set_cons_zero, List.set_cons_succ]
                    refine wpAnyH_take (i := 4) (oi := { dst := some 210, op := Go.Op.move (Go.Operand.tmp 12), type := 28, pos := "law.go:103", after := #[{ on := 3, ground := Go.Ground.guard }], guard := some (3, false) }) (v := ?v5) rfl (by kernel_rfl) (by kernel_rfl) (by kernel_rfl) (fun _ _ _ h => h) (Or.inl ⟨by rfl, ?hy5⟩) (by assumption) ?rest5
                    case hy5 => (intro w hSw; (try dsimp only at hSw); have hs0 := hSw.cell hs'.out id; go_simp <;> with_reducible rfl)
                    try simp only [Act.put, List.setIfInBounds_toArray, List.set_cons_zero, List.set_cons_succ]
                    refine wpAnyH_take (i := 6) (oi := { dst := some 212, op := Go.Op.move (Go.Operand.tmp 14), type := 9, pos := "law.go:103", after := #[{ on := 3, ground := Go.Ground.guard }], guard := some (3, false) }) (v := ?v6) rfl (by kernel_rfl) (by kernel_rfl) (by kernel_rfl) (fun _ _ _ h => h) (Or.inl ⟨by rfl, ?hy6⟩) (by assumption) ?rest6
                    case hy6 => (intro w hSw; (try dsimp only at hSw); have hs0 := hSw.cell hs'.out id; go_simp <;> with_reducible rfl)
                    try simp only [Act.put, List.setIfInBounds_toArray, List.set_cons_zero, List.set_cons_succ]
                    refine wpAnyH_ready (rs := [5]) (by kernel_rfl) (by simp) ?_
                    refine AllReadyH.cons (o := { dst := some 211, op := Go.Op.call { callee := Go.Callee.value (Go.Operand.func 32), args := #[Go.Operand.tmp 210], argTypes := #[28] }, type := 9, pos := "law.go:103", after := #[{ on := 4, ground := Go.Ground.data }, { on := 3, ground := Go.Ground.chain }, { on := 3, ground := Go.Ground.guard }], guard := some (3, false) }) rfl (fun K hK => ?_) AllReadyH.nil
                    go_simp
                    refine (told1_nil _).mono ?_
                    rintro e w' ⟨rfl, rfl⟩
                    have hS5 := hS
                    refine hK.out _ _ hS5 (fun _ => ?_)
                    refine wpAnyH_take (i := 7) (oi := { dst := some 213, op := Go.Op.binOp Go.BinOp.neq 9 (Go.Operand.tmp 211) (Go.Operand.tmp 212) 9, type := 4, pos := "law.go:103", after := #[{ on := 5, ground := Go.Ground.data }, { on := 6, ground := Go.Ground.data }, { on := 3, ground := Go.Ground.guard }], guard := some (3, false) }) (v := ?v7) rfl (by kernel_rfl) (by kernel_rfl) (by kernel_rfl) (fun _ _ _ h => h) (Or.inl ⟨by rfl, ?hy7⟩) (by assumption) ?rest7
                    case hy7 => (intro w hSw; (try dsimp only at hSw); have hs0 := hSw.cell hs'.out id; go_simp <;> with_reducible rfl)
                    try simp only [Act.put, List.setIfInBounds_toArray, List.set_cons_zero, List.set_cons_succ]
                    refine wpAnyH_take (i := 8) (oi := { dst := some 214, op := Go.Op.pick (Go.Operand.tmp 209) (Go.Operand.const (Go.Value.bool true)) (Go.Operand.tmp 213), type := 4, pos := "law.go:103", after := #[{ on := 3, ground := Go.Ground.data }, { on := 7, ground := Go.Ground.data }], guard := none }) (v := ?v8) rfl (by kernel_rfl) (by kernel_rfl) (by kernel_rfl) (fun _ _ _ h => h) (Or.inl ⟨by rfl, ?hy8⟩) (by assumption) ?rest8
                    case hy8 => (intro w hSw; (try dsimp only at hSw); have hs0 := hSw.cell hs'.out id; go_simp <;> with_reducible rfl)
                    try simp only [Act.put, List.setIfInBounds_toArray, List.set_cons_zero, List.set_cons_succ]
                    refine wpAnyH_take (i := 9) (oi := { dst := some 215, op := Go.Op.move (Go.Operand.tmp 214), type := 4, pos := "law.go:103", after := #[{ on := 8, ground := Go.Ground.data }, { on := 5, ground := Go.Ground.chain }], guard := none }) (v := ?v9) rfl (by kernel_rfl) (by kernel_rfl) (by kernel_rfl) (fun _ _ _ h => h) (Or.inl ⟨by rfl, ?hy9⟩) (by assumption) ?rest9
                    case hy9 => (intro w hSw; (try dsimp only at hSw); have hs0 := hSw.cell hs'.out id; go_simp <;> with_reducible rfl)
                    try simp only [Act.put, List.setIfInBounds_toArray, List.set_cons_zero, List.set_cons_succ]
                    refine wpAnyH_take (i := 10) (oi := { dst := some 216, op := Go.Op.move (Go.Operand.tmp 7), type := 24, pos := "law.go:103", after := #[{ on := 9, ground := Go.Ground.guard }], guard := some (9, false) }) (v := ?v10) rfl (by kernel_rfl) (by kernel_rfl) (by kernel_rfl) (fun _ _ _ h => h) (Or.inl ⟨by rfl, ?hy10⟩) (by assumption) ?rest10
                    case hy10 => (intro w hSw; (try dsimp only at hSw); have hs0 := hSw.cell hs'.out id; go_simp <;> with_reducible rfl)
                    try simp only [Act.put, List.setIfInBounds_toArray, List.set_cons_zero, List.set_cons_succ]
                    refine wpAnyH_take (i := 12) (oi := { dst := some 218, op := Go.Op.move (Go.Operand.tmp 8), type := 63, pos := "law.go:103", after := #[{ on := 9, ground := Go.Ground.guard }], guard := some (9, false) }) (v := ?v11) rfl (by kernel_rfl) (by kernel_rfl) (by kernel_rfl) (fun _ _ _ h => h) (Or.inl ⟨by rfl, ?hy11⟩) (by assumption) ?rest11
                    case hy11 => (intro w hSw; (try dsimp only at hSw); have hs0 := hSw.cell hs'.out id; go_simp <;> with_reducible rfl)
                    try simp only [Act.put, List.setIfInBounds_toArray, List.set_cons_zero, List.set_cons_succ]
                    refine wpAnyH_take (i := 13) (oi := { dst := some 219, op := Go.Op.nilCheck (Go.Operand.tmp 218), type := 0, pos := "law.go:103", after := #[{ on := 12, ground := Go.Ground.data }, { on := 9, ground := Go.Ground.guard }], guard := some (9, false) }) (v := ?v12) rfl (by kernel_rfl) (by kernel_rfl) (by kernel_rfl) (fun _ _ _ h => h) (Or.inl ⟨by rfl, ?hy12⟩) (by assumption) ?rest12
                    case hy12 => (intro w hSw; (try dsimp only at hSw); have hs0 := hSw.cell hs'.out id; go_simp <;> with_reducible rfl)
                    try simp only [Act.put, List.setIfInBounds_toArray, List.set_cons_zero, List.set_cons_succ]
                    refine wpAnyH_take (i := 14) (oi := { dst := some 220, op := Go.Op.fieldAddr 65 (Go.Operand.tmp 219) 0, type := 0, pos := "law.go:103", after := #[{ on := 13, ground := Go.Ground.data }, { on := 9, ground := Go.Ground.guard }], guard := some (9, false) }) (v := ?v13) rfl (by kernel_rfl) (by kernel_rfl) (by kernel_rfl) (fun _ _ _ h => h) (Or.inl ⟨by rfl, ?hy13⟩) (by assumption) ?rest13
                    case hy13 => (intro w hSw; (try dsimp only at hSw); have hs0 := hSw.cell hs'.out id; go_simp <;> with_reducible rfl)
                    try simp only [Act.put, List.setIfInBounds_toArray, List.set_cons_zero, List.set_cons_succ]
                    refine wpAnyH_take (i := 15) (oi := { dst := some 221, op := Go.Op.load 9 (Go.Operand.tmp 220), type := 9, pos := "law.go:103", after := #[{ on := 14, ground := Go.Ground.data }, { on := 9, ground := Go.Ground.guard }], guard := some (9, false) }) (v := ?v14) rfl (by kernel_rfl) (by kernel_rfl) (by kernel_rfl) (fun _ _ _ h => h) (Or.inl ⟨by rfl, ?hy14⟩) (by assumption) ?rest14
                    case hy14 => (intro w hSw; (try dsimp only at hSw); have hs0 := hSw.cell hs'.out id; go_simp <;> with_reducible rfl)
                    try simp only [Act.put, List.setIfInBounds_toArray, List.set_cons_zero, List.set_cons_succ]
                    refine wpAnyH_take (i := 16) (oi := { dst := some 222, op := Go.Op.call { callee := Go.Callee.builtin Go.Builtin.len, args := #[Go.Operand.tmp 221], argTypes := #[9] }, type := 3, pos := "law.go:103", after := #[{ on := 15, ground := Go.Ground.data }, { on := 9, ground := Go.Ground.guard }], guard := some (9, false) }) (v := ?v15) rfl (by kernel_rfl) (by kernel_rfl) (by kernel_rfl) (fun _ _ _ h => h) (Or.inl ⟨by rfl, ?hy15⟩) (by assumption) ?rest15
                    case hy15 => (intro w hSw; (try dsimp only at hSw); have hs0 := hSw.cell hs'.out id; go_simp <;> with_reducible rfl)
                    try simp only [Act.put, List.setIfInBounds_toArray, List.set_cons_zero, List.set_cons_succ]
                    refine wpAnyH_ready (rs := [11]) (by kernel_rfl) (by simp) ?_
                    refine AllReadyH.cons (o := { dst := some 217, op := Go.Op.call { callee := Go.Callee.value (Go.Operand.func 27), args := #[Go.Operand.tmp 216], argTypes := #[24] }, type := 3, pos := "law.go:103", after := #[{ on := 10, ground := Go.Ground.data }, { on := 9, ground := Go.Ground.chain }, { on := 9, ground := Go.Ground.guard }], guard := some (9, false) }) rfl (fun K hK => ?_) AllReadyH.nil
                    go_simp
                    refine (left_any rp g o' R' _ (hr'.out.keep hS5 id (fun _ => id))).mono ?_
                    rintro e w' ⟨rfl, rfl⟩
                    refine hK.out _ _ hS5 (fun _ => ?_)
                    refine wpAnyH_take (i := 17) (oi := { dst := some 223, op := Go.Op.binOp Go.BinOp.neq 3 (Go.Operand.tmp 217) (Go.Operand.tmp 222) 3, type := 4, pos := "law.go:103", after := #[{ on := 11, ground := Go.Ground.data }, { on := 16, ground := Go.Ground.data }, { on := 9, ground := Go.Ground.guard }], guard := some (9, false) }) (v := ?v16) rfl (by kernel_rfl) (by kernel_rfl) (by kernel_rfl) (fun _ _ _ h => h) (Or.inl ⟨by rfl, ?hy16⟩) (by assumption) ?rest16
                    case hy16 => (intro w hSw; (try dsimp only at hSw); have hs0 := hSw.cell hs'.out id; go_simp <;> with_reducible rfl)
                    try simp only [Act.put, List.setIfInBounds_toArray, List.set_cons_zero, List.set_cons_succ]
                    refine wpAnyH_take (i := 18) (oi := { dst := some 224, op := Go.Op.pick (Go.Operand.tmp 215) (Go.Operand.const (Go.Value.bool true)) (Go.Operand.tmp 223), type := 4, pos := "law.go:103", after := #[{ on := 9, ground := Go.Ground.data }, { on := 17, ground := Go.Ground.data }], guard := none }) (v := ?v17) rfl (by kernel_rfl) (by kernel_rfl) (by kernel_rfl) (fun _ _ _ h => h) (Or.inl ⟨by rfl, ?hy17⟩) (by assumption) ?rest17
                    case hy17 => (intro w hSw; (try dsimp only at hSw); have hs0 := hSw.cell hs'.out id; go_simp <;> with_reducible rfl)
                    try simp only [Act.put, List.setIfInBounds_toArray, List.set_cons_zero, List.set_cons_succ]
                    refine wpAnyH_done (by kernel_rfl) ?_ _
                    go_wp2_with fail
                    go_roundw
                    case rel => exact ⟨k + 1, o', R', by omega, by omega, by go_num, Lib.hid (hr'.out.keep hS5 id (fun _ => id)), Lib.hid (hS5.cell hs'.out id), Lib.hid ((hS5.frozen (p := ⟨s, 0, none⟩) (World.block_lt_of_cell? wc _ hs'.out) id).trans hf'.out), Lib.hid (fun hn x => (hS5.frozen (p := ⟨g, x, none⟩) (hr'.out.ltg (List.length_pos_iff.2 hn)) id).trans (hz'.out hn x)), hgs2, Lib.hid (hx'.out.trans hS5)⟩
                    case measure => simp [intOf]; omega

                · have HEC := Lib.hid hec
                  obtain ⟨ty6, y6, rfl⟩ := hec.shape
                  clear hec
                  have htl : (etx [lay1] kk).length ≤ 1000 := by
                    have := num_len kk
                    simp [etx, lay1]; omega
                  go_upto_region 61 with fail
                  as_aux_lemma =>
                    refine wp_region_held_drew (S := fun W => Ex (fun _ => False) wc W) (by kernel_rfl) hS (fun _ => ?_)
                    refine wpAnyH_take (i := 0) (oi := { dst := some 206, op := Go.Op.move (Go.Operand.tmp 11), type := 9, pos := "law.go:103", after := #[], guard := none }) (v := ?v18) rfl (by kernel_rfl) (by kernel_rfl) (by kernel_rfl) (fun _ _ _ h => h) (Or.inl ⟨by rfl, ?hy18⟩) (by assumption) ?rest18
                    case hy18 => (intro w hSw; (try dsimp only at hSw); have hs0 := hSw.cell hs'.out id; go_simp <;> with_reducible rfl)
                    try simp only [Act.put, List.setIfInBounds_toArray, List.set_cons_zero, List.set_cons_succ]
                    refine wpAnyH_take (i := 1) (oi := { dst := some 207, op := Go.Op.move (Go.Operand.tmp 13), type := 9, pos := "law.go:103", after := #[], guard := none }) (v := ?v19) rfl (by kernel_rfl) (by kernel_rfl) (by kernel_rfl) (fun _ _ _ h => h) (Or.inl ⟨by rfl, ?hy19⟩) (by assumption) ?rest19
                    case hy19 => (intro w hSw; (try dsimp only at hSw); have hs0 := hSw.cell hs'.out id; go_simp <;> with_reducible rfl)
                    try simp only [Act.put, List.setIfInBounds_toArray, List.set_cons_zero, List.set_cons_succ]
                    refine wpAnyH_take (i := 2) (oi := { dst := some 208, op := Go.Op.binOp Go.BinOp.neq 9 (Go.Operand.tmp 206) (Go.Operand.tmp 207) 9, type := 4, pos := "law.go:103", after := #[{ on := 0, ground := Go.Ground.data }, { on := 1, ground := Go.Ground.data }], guard := none }) (v := ?v20) rfl (by kernel_rfl) (by kernel_rfl) (by kernel_rfl) (fun _ _ _ h => h) (Or.inl ⟨by rfl, ?hy20⟩) (by assumption) ?rest20
                    case hy20 => (intro w hSw; (try dsimp only at hSw); have hs0 := hSw.cell hs'.out id; go_simp <;> with_reducible rfl)
                    try simp only [Act.put, List.setIfInBounds_toArray, List.set_cons_zero, List.set_cons_succ]
                    refine wpAnyH_take (i := 3) (oi := { dst := some 209, op := Go.Op.move (Go.Operand.tmp 208), type := 4, pos := "law.go:103", after := #[{ on := 2, ground := Go.Ground.data }], guard := none }) (v := ?v21) rfl (by kernel_rfl) (by kernel_rfl) (by kernel_rfl) (fun _ _ _ h => h) (Or.inl ⟨by rfl, ?hy21⟩) (by assumption) ?rest21
                    case hy21 => (intro w hSw; (try dsimp only at hSw); have hs0 := hSw.cell hs'.out id; go_simp <;> with_reducible rfl)
                    try simp only [Act.put, List.setIfInBounds_toArray, List.set_cons_zero, List.set_cons_succ]
                    refine wpAnyH_take (i := 4) (oi := { dst := some 210, op := Go.Op.move (Go.Operand.tmp 12), type := 28, pos := "law.go:103", after := #[{ on := 3, ground := Go.Ground.guard }], guard := some (3, false) }) (v := ?v22) rfl (by kernel_rfl) (by kernel_rfl) (by kernel_rfl) (fun _ _ _ h => h) (Or.inl ⟨by rfl, ?hy22⟩) (by assumption) ?rest22
                    case hy22 => (intro w hSw; (try dsimp only at hSw); have hs0 := hSw.cell hs'.out id; go_simp <;> with_reducible rfl)
                    try simp only [Act.put, List.setIfInBounds_toArray, List.set_cons_zero, List.set_cons_succ]
                    refine wpAnyH_take (i := 6) (oi := { dst := some 212, op := Go.Op.move (Go.Operand.tmp 14), type := 9, pos := "law.go:103", after := #[{ on := 3, ground := Go.Ground.guard }], guard := some (3, false) }) (v := ?v23) rfl (by kernel_rfl) (by kernel_rfl) (by kernel_rfl) (fun _ _ _ h => h) (Or.inl ⟨by rfl, ?hy23⟩) (by assumption) ?rest23
                    case hy23 => (intro w hSw; (try dsimp only at hSw); have hs0 := hSw.cell hs'.out id; go_simp <;> with_reducible rfl)
                    try simp only [Act.put, List.setIfInBounds_toArray, List.set_cons_zero, List.set_cons_succ]
                    refine wpAnyH_ready (rs := [5]) (by kernel_rfl) (by simp) ?_
                    refine AllReadyH.cons (o := { dst := some 211, op := Go.Op.call { callee := Go.Callee.value (Go.Operand.func 32), args := #[Go.Operand.tmp 210], argTypes := #[28] }, type := 9, pos := "law.go:103", after := #[{ on := 4, ground := Go.Ground.data }, { on := 3, ground := Go.Ground.chain }, { on := 3, ground := Go.Ground.guard }], guard := some (3, false) }) rfl (fun K hK => ?_) AllReadyH.nil
                    go_simp
                    refine (told1_any _ _ kk _ _ (HEC.out.keep hS (fun _ _ => id)) hkk htl).mono ?_
                    rintro e w6 ⟨rfl, hx6⟩
                    have hS5 := hS.trans hx6
                    refine hK.out _ _ hS5 (fun _ => ?_)
                    refine wpAnyH_take (i := 7) (oi := { dst := some 213, op := Go.Op.binOp Go.BinOp.neq 9 (Go.Operand.tmp 211) (Go.Operand.tmp 212) 9, type := 4, pos := "law.go:103", after := #[{ on := 5, ground := Go.Ground.data }, { on := 6, ground := Go.Ground.data }, { on := 3, ground := Go.Ground.guard }], guard := some (3, false) }) (v := ?v24) rfl (by kernel_rfl) (by kernel_rfl) (by kernel_rfl) (fun _ _ _ h => h) (Or.inl ⟨by rfl, ?hy24⟩) (by assumption) ?rest24
                    case hy24 => (intro w hSw; (try dsimp only at hSw); have hs0 := hSw.cell hs'.out id; go_simp <;> with_reducible rfl)
                    try simp only [Act.put, List.setIfInBounds_toArray, List.set_cons_zero, List.set_cons_succ]
                    refine wpAnyH_take (i := 8) (oi := { dst := some 214, op := Go.Op.pick (Go.Operand.tmp 209) (Go.Operand.const (Go.Value.bool true)) (Go.Operand.tmp 213), type := 4, pos := "law.go:103", after := #[{ on := 3, ground := Go.Ground.data }, { on := 7, ground := Go.Ground.data }], guard := none }) (v := ?v25) rfl (by kernel_rfl) (by kernel_rfl) (by kernel_rfl) (fun _ _ _ h => h) (Or.inl ⟨by rfl, ?hy25⟩) (by assumption) ?rest25
                    case hy25 => (intro w hSw; (try dsimp only at hSw); have hs0 := hSw.cell hs'.out id; go_simp <;> with_reducible rfl)
                    try simp only [Act.put, List.setIfInBounds_toArray, List.set_cons_zero, List.set_cons_succ]
                    refine wpAnyH_take (i := 9) (oi := { dst := some 215, op := Go.Op.move (Go.Operand.tmp 214), type := 4, pos := "law.go:103", after := #[{ on := 8, ground := Go.Ground.data }, { on := 5, ground := Go.Ground.chain }], guard := none }) (v := ?v26) rfl (by kernel_rfl) (by kernel_rfl) (by kernel_rfl) (fun _ _ _ h => h) (Or.inl ⟨by rfl, ?hy26⟩) (by assumption) ?rest26
                    case hy26 => (intro w hSw; (try dsimp only at hSw); have hs0 := hSw.cell hs'.out id; go_simp <;> with_reducible rfl)
                    try simp only [Act.put, List.setIfInBounds_toArray, List.set_cons_zero, List.set_cons_succ]
                    refine wpAnyH_take (i := 10) (oi := { dst := some 216, op := Go.Op.move (Go.Operand.tmp 7), type := 24, pos := "law.go:103", after := #[{ on := 9, ground := Go.Ground.guard }], guard := some (9, false) }) (v := ?v27) rfl (by kernel_rfl) (by kernel_rfl) (by kernel_rfl) (fun _ _ _ h => h) (Or.inl ⟨by rfl, ?hy27⟩) (by assumption) ?rest27
                    case hy27 => (intro w hSw; (try dsimp only at hSw); have hs0 := hSw.cell hs'.out id; go_simp <;> with_reducible rfl)
                    try simp only [Act.put, List.setIfInBounds_toArray, List.set_cons_zero, List.set_cons_succ]
                    refine wpAnyH_take (i := 12) (oi := { dst := some 218, op := Go.Op.move (Go.Operand.tmp 8), type := 63, pos := "law.go:103", after := #[{ on := 9, ground := Go.Ground.guard }], guard := some (9, false) }) (v := ?v28) rfl (by kernel_rfl) (by kernel_rfl) (by kernel_rfl) (fun _ _ _ h => h) (Or.inl ⟨by rfl, ?hy28⟩) (by assumption) ?rest28
                    case hy28 => (intro w hSw; (try dsimp only at hSw); have hs0 := hSw.cell hs'.out id; go_simp <;> with_reducible rfl)
                    try simp only [Act.put, List.setIfInBounds_toArray, List.set_cons_zero, List.set_cons_succ]
                    refine wpAnyH_take (i := 13) (oi := { dst := some 219, op := Go.Op.nilCheck (Go.Operand.tmp 218), type := 0, pos := "law.go:103", after := #[{ on := 12, ground := Go.Ground.data }, { on := 9, ground := Go.Ground.guard }], guard := some (9, false) }) (v := ?v29) rfl (by kernel_rfl) (by kernel_rfl) (by kernel_rfl) (fun _ _ _ h => h) (Or.inl ⟨by rfl, ?hy29⟩) (by assumption) ?rest29
                    case hy29 => (intro w hSw; (try dsimp only at hSw); have hs0 := hSw.cell hs'.out id; go_simp <;> with_reducible rfl)
                    try simp only [Act.put, List.setIfInBounds_toArray, List.set_cons_zero, List.set_cons_succ]
                    refine wpAnyH_take (i := 14) (oi := { dst := some 220, op := Go.Op.fieldAddr 65 (Go.Operand.tmp 219) 0, type := 0, pos := "law.go:103", after := #[{ on := 13, ground := Go.Ground.data }, { on := 9, ground := Go.Ground.guard }], guard := some (9, false) }) (v := ?v30) rfl (by kernel_rfl) (by kernel_rfl) (by kernel_rfl) (fun _ _ _ h => h) (Or.inl ⟨by rfl, ?hy30⟩) (by assumption) ?rest30
                    case hy30 => (intro w hSw; (try dsimp only at hSw); have hs0 := hSw.cell hs'.out id; go_simp <;> with_reducible rfl)
                    try simp only [Act.put, List.setIfInBounds_toArray, List.set_cons_zero, List.set_cons_succ]
                    refine wpAnyH_take (i := 15) (oi := { dst := some 221, op := Go.Op.load 9 (Go.Operand.tmp 220), type := 9, pos := "law.go:103", after := #[{ on := 14, ground := Go.Ground.data }, { on := 9, ground := Go.Ground.guard }], guard := some (9, false) }) (v := ?v31) rfl (by kernel_rfl) (by kernel_rfl) (by kernel_rfl) (fun _ _ _ h => h) (Or.inl ⟨by rfl, ?hy31⟩) (by assumption) ?rest31
                    case hy31 => (intro w hSw; (try dsimp only at hSw); have hs0 := hSw.cell hs'.out id; go_simp <;> with_reducible rfl)
                    try simp only [Act.put, List.setIfInBounds_toArray, List.set_cons_zero, List.set_cons_succ]
                    refine wpAnyH_take (i := 16) (oi := { dst := some 222, op := Go.Op.call { callee := Go.Callee.builtin Go.Builtin.len, args := #[Go.Operand.tmp 221], argTypes := #[9] }, type := 3, pos := "law.go:103", after := #[{ on := 15, ground := Go.Ground.data }, { on := 9, ground := Go.Ground.guard }], guard := some (9, false) }) (v := ?v32) rfl (by kernel_rfl) (by kernel_rfl) (by kernel_rfl) (fun _ _ _ h => h) (Or.inl ⟨by rfl, ?hy32⟩) (by assumption) ?rest32
                    case hy32 => (intro w hSw; (try dsimp only at hSw); have hs0 := hSw.cell hs'.out id; go_simp <;> with_reducible rfl)
                    try simp only [Act.put, List.setIfInBounds_toArray, List.set_cons_zero, List.set_cons_succ]
                    refine wpAnyH_ready (rs := [11]) (by kernel_rfl) (by simp) ?_
                    refine AllReadyH.cons (o := { dst := some 217, op := Go.Op.call { callee := Go.Callee.value (Go.Operand.func 27), args := #[Go.Operand.tmp 216], argTypes := #[24] }, type := 3, pos := "law.go:103", after := #[{ on := 10, ground := Go.Ground.data }, { on := 9, ground := Go.Ground.chain }, { on := 9, ground := Go.Ground.guard }], guard := some (9, false) }) rfl (fun K hK => ?_) AllReadyH.nil
                    go_simp
                    refine (left_any rp g o' R' _ (hr'.out.keep hS5 id (fun _ => id))).mono ?_
                    rintro e w' ⟨rfl, rfl⟩
                    refine hK.out _ _ hS5 (fun _ => ?_)
                    refine wpAnyH_take (i := 17) (oi := { dst := some 223, op := Go.Op.binOp Go.BinOp.neq 3 (Go.Operand.tmp 217) (Go.Operand.tmp 222) 3, type := 4, pos := "law.go:103", after := #[{ on := 11, ground := Go.Ground.data }, { on := 16, ground := Go.Ground.data }, { on := 9, ground := Go.Ground.guard }], guard := some (9, false) }) (v := ?v33) rfl (by kernel_rfl) (by kernel_rfl) (by kernel_rfl) (fun _ _ _ h => h) (Or.inl ⟨by rfl, ?hy33⟩) (by assumption) ?rest33
                    case hy33 => (intro w hSw; (try dsimp only at hSw); have hs0 := hSw.cell hs'.out id; go_simp <;> with_reducible rfl)
                    try simp only [Act.put, List.setIfInBounds_toArray, List.set_cons_zero, List.set_cons_succ]
                    refine wpAnyH_take (i := 18) (oi := { dst := some 224, op := Go.Op.pick (Go.Operand.tmp 215) (Go.Operand.const (Go.Value.bool true)) (Go.Operand.tmp 223), type := 4, pos := "law.go:103", after := #[{ on := 9, ground := Go.Ground.data }, { on := 17, ground := Go.Ground.data }], guard := none }) (v := ?v34) rfl (by kernel_rfl) (by kernel_rfl) (by kernel_rfl) (fun _ _ _ h => h) (Or.inl ⟨by rfl, ?hy34⟩) (by assumption) ?rest34
                    case hy34 => (intro w hSw; (try dsimp only at hSw); have hs0 := hSw.cell hs'.out id; go_simp <;> with_reducible rfl)
                    try simp only [Act.put, List.setIfInBounds_toArray, List.set_cons_zero, List.set_cons_succ]
                    refine wpAnyH_done (by kernel_rfl) ?_ _
                    go_wp2_with fail
                    go_roundw
                    case rel => exact ⟨k + 1, o', R', by omega, by omega, by go_num, Lib.hid (hr'.out.keep hS5 id (fun _ => id)), Lib.hid (hS5.cell hs'.out id), Lib.hid ((hS5.frozen (p := ⟨s, 0, none⟩) (World.block_lt_of_cell? wc _ hs'.out) id).trans hf'.out), Lib.hid (fun hn x => (hS5.frozen (p := ⟨g, x, none⟩) (hr'.out.ltg (List.length_pos_iff.2 hn)) id).trans (hz'.out hn x)), hgs2, Lib.hid (hx'.out.trans hS5)⟩
                    case measure => simp [intOf]; omega

            · go_wp2_with fail
              go_ret
              exact ⟨rfl, hx.out⟩
          · go_wp2_with fail
            go_ret
            exact ⟨rfl, hx.out⟩
end Go.Proofs.YtkgieciamophkaaDoor
