/-
  The walk of FragBounds. By an AI agent.
-/
import Derived.Test.YtabjihchcmjdmaaDoorGh10
import Derived.Test.YtabjihchcmjdmaaDoorGi10
import Derived.Test.YtabjihchcmjdmaaDoorGb10
import Derived.Test.YtabjihchcmjdmaaDoorOpenSt10
namespace Go.Proofs.YtabjihchcmjdmaaDoor
open Go.RowKit

theorem msrB {n i k : Nat} (h : n - i ≤ k) (hl : i < n) : n - (i + 1) < k := by omega
/-- what waits between two rounds of FragBounds -/
structure BG (w : World) (B rb bm : Nat) (tm nw : Int) (G : List Hp) (i : Nat) : Prop where
  rs : RS w B rb bm tm G
  len : G.length ≤ 8
  bgs : ∀ h ∈ G, 0 ≤ h.bg ∧ h.bg ≤ nw
  os : ∀ h ∈ G, h.os.length ≤ i
  nb : 0 ≤ nw ∧ nw ≤ 20 * (i : Int)
theorem BG.keep {w w' : World} {B rb bm : Nat} {tm nw : Int} {G : List Hp} {i : Nat} (h : BG w B rb bm tm nw G i) (hx : Ex (fun _ => False) w w') : BG w' B rb bm tm nw G i := ⟨h.rs.keep hx, h.len, h.bgs, h.os, h.nb⟩
theorem rem_20 {n : Int} (h : 0 ≤ n) : ∃ r : Nat, n.tmod 20 = (r : Int) ∧ r < 20 := by
  obtain ⟨k, rfl⟩ := Int.eq_ofNat_of_zero_le h
  exact rem_nat k 20 (by omega)
theorem rem_51 {n : Int} (h : 0 ≤ n) : ∃ r : Nat, n.tmod 51 = (r : Int) ∧ r < 51 := by
  obtain ⟨k, rfl⟩ := Int.eq_ofNat_of_zero_le h
  exact rem_nat k 51 (by omega)
theorem now_add {nw : Int} {r i : Nat} (h : 0 ≤ nw ∧ nw ≤ 20 * (i : Int)) (hr : r < 20) (hi : i < 60) : ∃ nw2 : Int, IntKind.u64.wrap (nw + (r : Int)) = nw2 ∧ nw ≤ nw2 ∧ (0 ≤ nw2 ∧ nw2 ≤ 20 * ((i + 1 : Nat) : Int)) := ⟨nw + r, by rw [IntKind.wrap_u64]; omega, by omega, by omega⟩
theorem b_u64 {nw : Int} {i : Nat} (h : 0 ≤ nw ∧ nw ≤ 20 * ((i + 1 : Nat) : Int)) (hi : i < 60) : nw < 18446744073709551616 := by omega
theorem wrap_b1 {i : Nat} (h : i < 60) : wrap64 ((i : Int) + 1) = (i : Int) + 1 := by unfold wrap64; omega
theorem wrap_b12 {i : Nat} (h : i < 60) : wrap64 ((i : Int) + 1) = ((i + 1 : Nat) : Int) := by unfold wrap64; omega
theorem i_ltb {i l : Nat} (h : (i : Int) < (l : Int)) : i < l := by omega
theorem bnd {L m : Nat} (_hL : L ≤ 8) (hm : m ≤ 8) (h1 : m ≤ L + 1) (h2 : L ≤ m + 1) : ∃ a b : Int, wrap64 ((L : Int) + 1) = a ∧ wrap64 ((L : Int) - 1) = b ∧ decide ((8 : Int) < (m : Int)) = false ∧ decide (a < (m : Int)) = false ∧ decide ((m : Int) < b) = false ∧ (((m : Int) == a) = decide (m = L + 1)) ∧ (((m : Int) == b) = decide (m + 1 = L)) := by
  refine ⟨(L : Int) + 1, (L : Int) - 1, by unfold wrap64; omega, by unfold wrap64; omega, decide_eq_false (by omega), decide_eq_false (by omega), decide_eq_false (by omega), ?_, ?_⟩
  · by_cases e : m = L + 1
    · rw [decide_eq_true e]; simp; omega
    · rw [decide_eq_false e, beq_eq_false_iff_ne]; omega
  · by_cases e : m + 1 = L
    · rw [decide_eq_true e]; simp; omega
    · rw [decide_eq_false e, beq_eq_false_iff_ne]; omega
theorem end_u64 {nw : Int} {i u : Nat} (h : 0 ≤ nw ∧ nw ≤ 20 * (i : Int)) (hi : i ≤ 60) (hu : u < 51) : ∃ n : Int, IntKind.u64.wrap (nw + (u : Int)) = n ∧ n < 18446744073709551616 ∧ n = nw + (u : Int) := ⟨nw + u, by rw [IntKind.wrap_u64]; omega, by omega, rfl⟩
theorem tick_all {G : List Hp} {u : Nat} {nw n : Int} (h : ∀ h ∈ G, h.bg ≤ nw) (hn : n = nw + (u : Int)) : (G.filter fun h => !oldB (u : Int) n h.bg) = [] := by
  rw [List.filter_eq_nil_iff]
  intro x hx
  have h1 := h x hx
  unfold oldB
  rw [decide_eq_true (show x.bg ≤ n by omega), decide_eq_true (show (u : Int) ≤ n - x.bg by omega)]
  decide
theorem tick_len {L L2 : Nat} (h : L2 ≤ L) (h8 : L ≤ 8) : ∃ D : Nat, (L : Int) - (L2 : Int) = (D : Int) ∧ wrap64 ((L : Int) - (D : Int)) = (L2 : Int) := ⟨L - L2, by omega, by unfold wrap64; omega⟩
theorem BG.tick {w w' : World} {B rb bm : Nat} {tm nw nw2 : Int} {G G2 : List Hp} {i : Nat} (h : BG w B rb bm tm nw G i) (hr : RS w' B rb bm tm G2) (hs : ∀ h ∈ G2, h ∈ G) (hl : G2.length ≤ G.length) (hn : nw ≤ nw2 ∧ (0 ≤ nw2 ∧ nw2 ≤ 20 * ((i + 1 : Nat) : Int))) : BG w' B rb bm tm nw2 G2 (i + 1) :=
  ⟨hr, Nat.le_trans hl h.len, fun x hx => ⟨(h.bgs x (hs x hx)).1, Int.le_trans (h.bgs x (hs x hx)).2 hn.1⟩, fun x hx => Nat.le_succ_of_le (h.os x (hs x hx)), hn.2⟩
theorem BG.take {w w' : World} {B rb bm : Nat} {tm nw nw2 : Int} {G G2 : List Hp} {i : Nat} (h : BG w B rb bm tm nw G i) (hr : RS w' B rb bm tm G2) (h8 : G2.length ≤ 8) (ho : ∀ h ∈ G2, h.os.length ≤ i + 1) (hb : ∀ h ∈ G2, h.bg = nw2 ∨ ∃ h0 ∈ G, h.bg = h0.bg) (hn : nw ≤ nw2 ∧ (0 ≤ nw2 ∧ nw2 ≤ 20 * ((i + 1 : Nat) : Int))) : BG w' B rb bm tm nw2 G2 (i + 1) := by
  refine ⟨hr, h8, fun x hx => ?_, ho, hn.2⟩
  rcases hb x hx with e | ⟨y, hy, e⟩
  · rw [e]
    exact ⟨hn.2.1, Int.le_refl _⟩
  · rw [e]
    exact ⟨(h.bgs y hy).1, Int.le_trans (h.bgs y hy).2 hn.1⟩
set_option maxRecDepth 100000 in
set_option maxHeartbeats 16000000 in
theorem bounds10_any (t0 : Int) (l : List (Int × Pk × Int)) (A : Option Addr) (n c : Nat) (w : World) (ht0 : 0 ≤ t0) (hl : RSt w (.slice A n c) l) (hg : ET w) :
    Calls Tryd.prog 6 #[.int .u64 t0, .slice A n c] w fun e w' => e = .returned (.bool true) ∧ Ex (fun _ => False) w w' := by
  obtain ⟨u, hu, hub⟩ := rem_51 ht0
  have HUB := Lib.hid hub
  have hln : n = l.length := by obtain ⟨_, _, _, e, _⟩ := hl; injection e
  subst hln
  have HLS := Lib.hid hl
  have HG := Lib.hid hg
  clear hl hg ht0 hub
  go_enter Tryd.func6, Tryd.ntmps6
  go_wp2_with fail
  refine (shown10_any w HG.out).mono ?_
  rintro e w1 ⟨rfl, hx⟩
  have HX_w1 := Lib.hid hx
  clear hx
  go_wp2_with fail
  refine (new_any (u : Int) w1).mono ?_
  rintro e w2 ⟨rb, bm, rfl, hrs, hx⟩
  obtain ⟨B, hBe⟩ : ∃ B, B = w1.heap.size := ⟨_, rfl⟩
  rw [← hBe] at hrs
  have HRS0 := Lib.hid hrs
  have HBE := Lib.hid hBe
  clear hrs hBe hu
  have HX_w2 := Lib.hid hx
  clear hx
  have HG1 : Hid (ET w1) := HG.out.keep HX_w1.out id
  have HU0 : Hid (Up B w1 w2) := HX_w2.out.mono (fun _ _ h => h.elim)
  have HB0 : Hid (BG w2 B rb bm (u : Int) 0 [] 0) := ⟨HRS0.out, by simp, fun _ h => by simp at h, fun _ h => by simp at h, by simp⟩
  clear HRS0
  go_wp2_with fail
  go_loopg [7, 8, 9, 10, 11, 12, 13, 14] 60 (fun kx s7 s8 _ _ _ _ _ _ wr => ∃ (i : Nat) (nw : Int) (G : List Hp), s7 = .int .u64 nw ∧ s8 = .int .i64 i ∧ i ≤ 60 ∧ 60 - i ≤ kx ∧ Hid (BG wr B rb bm (u : Int) nw G i) ∧ Hid (Up B w1 wr))
  case atStart => exact ⟨0, 0, [], rfl, rfl, Nat.zero_le _, Nat.le_refl _, HB0, HU0⟩
  case round =>
    clear HU0 HB0
    obtain ⟨i, nw, G, rfl, rfl, hi6, hkx, HBG, HU⟩ := hrel
    by_cases hlt : (i : Int) < (l.length : Int)
    · by_cases h60 : (i : Int) < 60
      ·
        have hil := i_ltb hlt
        have HI60 : Hid (i < 60) := i_ltb (l := 60) h60
        have hlr := HLS.out.keep (HX_w1.out.andThen HU.out (fun k h1 h2 => by have h3 := HBE.out; have h4 := HX_w1.out.size; omega))
        obtain ⟨_, A9, c9, e9, _, hrow⟩ := hlr
        injection e9 with e9 _ e10
        subst e9 e10
        obtain ⟨b, off, A', c', rfl, hst⟩ := hrow i hil
        clear hrow
        obtain ⟨o, ho⟩ : ∃ o, o = l[i] := ⟨_, rfl⟩
        rw [← ho] at hst
        clear ho
        obtain ⟨kd, ⟨xtos, xid, xdf, xmf, xoff, xttl, xpr, xsrc, xdst, xb⟩, tnw⟩ := o
        simp only at hst
        have ck := hst.kind
        have cn := hst.now
        have HST := Lib.hid hst
        obtain ⟨r, hr, hrb⟩ := rem_20 hst.nb.1
        clear hst
        obtain ⟨nw2, hnw, hle, hnb⟩ := now_add HBG.out.nb hrb HI60.out
        have HNW := Lib.hid (And.intro hle hnb)
        clear hle hnb hrb
        go_wp2_with fail
        refine (len_any B rb bm (u : Int) G wr HBG.out.rs).mono ?_
        rintro e wl ⟨rfl, hwl⟩
        obtain rfl : wr = wl := hwl.symm
        obtain ⟨L, hL⟩ : ∃ L, G.length = L := ⟨_, rfl⟩
        rw [hL]
        have HL := Lib.hid hL
        clear hL cn hr hnw
        by_cases hk : kd = 2
        · subst hk
          go_wp2_with fail
          refine (tick_any nw2 (u : Int) B rb bm G wr HBG.out.rs (fun h hh => (HBG.out.bgs h hh).1) (b_u64 HNW.out.2 HI60.out) (Nat.le_trans HBG.out.len (by decide))).mono ?_
          rintro e wt ⟨rfl, hrs, hx⟩
          obtain ⟨G2, hG2⟩ : ∃ G2, G2 = G.filter fun h => !oldB (u : Int) nw2 h.bg := ⟨_, rfl⟩
          rw [← hG2] at hrs ⊢
          have hsub : ∀ h ∈ G2, h ∈ G := fun h hh => by rw [hG2] at hh; exact (List.mem_filter.1 hh).1
          have hle : G2.length ≤ G.length := by rw [hG2]; exact List.length_filter_le _ _
          obtain ⟨L2, hL2⟩ : ∃ L2, G2.length = L2 := ⟨_, rfl⟩
          obtain ⟨D, hD, hwd⟩ := tick_len (L := L) (L2 := L2) (by rw [← hL2, ← HL.out]; exact hle) (by rw [← HL.out]; exact HBG.out.len)
          rw [HL.out, hL2, hD]
          have HBG2 := Lib.hid (HBG.out.tick hrs hsub hle HNW.out)
          have HUT : Hid (Up B w1 wt) := HU.out.trans (hx.mono (fun k _ e => by have e : k = bm := e; have := HBG.out.rs.lo.2; omega))
          have HL2 := Lib.hid hL2
          clear hrs hx hG2 hsub hle hL2 hD ck
          go_wp2_with fail
          refine (len_any B rb bm (u : Int) G2 wt HBG2.out.rs).mono ?_
          rintro e wl ⟨rfl, hwl⟩
          obtain rfl : wt = wl := hwl.symm
          rw [HL2.out]
          have hwi := wrap_b1 HI60.out
          go_wp2_with fail
          go_roundg (60 - (i + 1))
          case measure => exact msrB hkx HI60.out
          case rel => exact ⟨i + 1, nw2, G2, rfl, by first | (simp; done) | (rw [wrap_b12 HI60.out]), HI60.out, Nat.le_refl _, HBG2, HUT⟩
        · have hkb : (kd == 2) = false := beq_eq_false_iff_ne.2 hk
          have lc0 : wr.cell? ⟨b, off + i * 12 + 1, none⟩ = some (.int .u8 xtos) := HST.out.pk.cells 0 _ rfl
          have lc1 : wr.cell? ⟨b, off + i * 12 + 1 + 1, none⟩ = some (.int .u16 xid) := HST.out.pk.cells 1 _ rfl
          have lc2 : wr.cell? ⟨b, off + i * 12 + 1 + 2, none⟩ = some (.bool xdf) := HST.out.pk.cells 2 _ rfl
          have lc3 : wr.cell? ⟨b, off + i * 12 + 1 + 3, none⟩ = some (.bool xmf) := HST.out.pk.cells 3 _ rfl
          have lc4 : wr.cell? ⟨b, off + i * 12 + 1 + 4, none⟩ = some (.int .i64 xoff) := HST.out.pk.cells 4 _ rfl
          have lc5 : wr.cell? ⟨b, off + i * 12 + 1 + 5, none⟩ = some (.int .u8 xttl) := HST.out.pk.cells 5 _ rfl
          have lc6 : wr.cell? ⟨b, off + i * 12 + 1 + 6, none⟩ = some (.int .u8 xpr) := HST.out.pk.cells 6 _ rfl
          have lc7 : wr.cell? ⟨b, off + i * 12 + 1 + 7, none⟩ = some (.int .u32 xsrc) := HST.out.pk.cells 7 _ rfl
          have lc8 : wr.cell? ⟨b, off + i * 12 + 1 + 8, none⟩ = some (.int .u32 xdst) := HST.out.pk.cells 8 _ rfl
          have lc9 : wr.cell? ⟨b, off + i * 12 + 1 + 9, none⟩ = some (.slice A' xb.length c') := HST.out.pk.cells 9 _ rfl
          go_wp2_with fail
          refine (few10_any (fun _ => True) (⟨xtos, xid, xdf, xmf, xoff, xttl, xpr, xsrc, xdst, xb⟩ : Pk) A' c' wr HST.out.pk.bytes).mono ?_
          rintro e w3 ⟨xA, xc, rfl, ho, hx⟩
          obtain ⟨xl, hxl⟩ : ∃ l, l = xb.take 2000 := ⟨_, rfl⟩
          have hfw : (⟨xtos, xid, xdf, xmf, xoff, xttl, xpr, xsrc, xdst, xb⟩ : Pk).few 2000 = (⟨xtos, xid, xdf, xmf, xoff, xttl, xpr, xsrc, xdst, xl⟩ : Pk) := by rw [hxl]; rfl
          rw [hfw] at ho ⊢
          have hxn : xl.length ≤ 2000 := by rw [hxl, List.length_take]; exact Nat.min_le_left _ _
          have hv : pkv (⟨xtos, xid, xdf, xmf, xoff, xttl, xpr, xsrc, xdst, xl⟩ : Pk) (.slice (some xA) (⟨xtos, xid, xdf, xmf, xoff, xttl, xpr, xsrc, xdst, xl⟩ : Pk).b.length xc) = .agg #[.int .u8 xtos, .int .u16 xid, .bool xdf, .bool xmf, .int .i64 xoff, .int .u8 xttl, .int .u8 xpr, .int .u32 xsrc, .int .u32 xdst, .slice (some xA) xl.length xc] := rfl
          rw [hv]
          have HO := Lib.hid (show OB w3 wr.heap.size (.slice (some xA) xl.length xc) xl from ho)
          have HX3 := Lib.hid hx
          have HOK := Lib.hid (show (⟨xtos, xid, xdf, xmf, xoff, xttl, xpr, xsrc, xdst, xl⟩ : Pk).ok from HST.out.pk.ok)
          have HXN := Lib.hid hxn
          clear hv hfw hxl ho hx hxn ck hk lc0 lc1 lc2 lc3 lc4 lc5 lc6 lc7 lc8 lc9
          have hcall := take_any (⟨xtos, xid, xdf, xmf, xoff, xttl, xpr, xsrc, xdst, xl⟩ : Pk) (some xA) xc nw2 B rb bm (u : Int) G w3 (HBG.out.rs.keep HX3.out) HOK.out (RB.any HO.out.rb) (fun h => by cases h) (Nat.le_trans HXN.out (by decide)) i HBG.out.os (Nat.lt_trans HI60.out (by decide))
          have HC := Lib.hid hcall
          clear hcall
          go_wp2_with fail
          refine HC.out.mono ?_
          rintro e w4 ⟨G2, ⟨q0, q1, q2, q3, q4, q5, q6, q7, q8, q9⟩, qA, qn, qc, d, ev, hrs, hup, hos, hbg, rfl, hcase⟩
          have hv : pkv ⟨q0, q1, q2, q3, q4, q5, q6, q7, q8, q9⟩ (.slice qA qn qc) = .agg #[.int .u8 q0, .int .u16 q1, .bool q2, .bool q3, .int .i64 q4, .int .u8 q5, .int .u8 q6, .int .u32 q7, .int .u32 q8, .slice qA qn qc] := rfl
          rw [hv]
          obtain ⟨m, hm⟩ : ∃ m, G2.length = m := ⟨_, rfl⟩
          rw [hm, HL.out] at hcase
          have hL8 : L ≤ 8 := by rw [← HL.out]; exact HBG.out.len
          have hmm : m ≤ 8 ∧ m ≤ L + 1 ∧ L ≤ m + 1 := by
            rcases hcase with ⟨_, _, h | h⟩ | ⟨_, _, h | h⟩ | ⟨_, _, _, _, _, _, _, h | h⟩ <;> omega
          obtain ⟨a, bb, ha, hb, f1, f2, f3, f4, f5⟩ := bnd hL8 hmm.1 hmm.2.1 hmm.2.2
          have HBG2 := Lib.hid (HBG.out.take hrs (by rw [hm]; exact hmm.1) hos hbg HNW.out)
          have HUT : Hid (Up B w1 w4) := (HU.out.andThen HX3.out (fun k _ h => h.elim)).trans hup
          have HM := Lib.hid hm
          have hgt : ∀ W, Ex (fun _ => False) w4 W → ET W := fun W h => ET.up HG1.out (HUT.out.andThen h (fun k _ h => h.elim)) (Nat.le_of_eq HBE.out.symm)
          have HGT := Lib.hid hgt
          have HLM := Lib.hid hL8
          clear hv hmm hL8 hrs hup hos hbg hm HC HO hgt
          rcases hcase with ⟨rfl, rfl, h | h⟩ | ⟨rfl, rfl, h | ⟨h, h7⟩⟩ | ⟨rfl, t9, y9, ls, k9, rfl, hec, h | ⟨h, rfl⟩⟩
          ·
            rw [decide_eq_false (by omega)] at f4
            rw [decide_eq_false (by omega)] at f5
            have HAB := Lib.hid (And.intro ha hb)
            clear h
            clear ha hb
            go_wp2_with fail
            refine (len_any B rb bm (u : Int) G2 _ (HBG2.out.rs.keep ((Ex.refl _ _).alloc _))).mono ?_
            rintro e wl ⟨rfl, hwl⟩
            rw [HM.out]
            have HXL : Hid (Ex (fun _ => False) w4 wl) := by rw [hwl]; exact (Ex.refl (fun _ => False) _).alloc _
            clear hwl
            obtain ⟨ha, hb⟩ := HAB.out
            have hwi := wrap_b1 HI60.out
            go_wp2_with fail
            clear ha hb f1 f2 f3 f4 f5
            go_roundg (60 - (i + 1))
            case measure => exact msrB hkx HI60.out
            case rel => exact ⟨i + 1, nw2, G2, rfl, by first | (simp; done) | (rw [wrap_b12 HI60.out]), HI60.out, Nat.le_refl _, HBG2.out.keep HXL.out, HUT.out.andThen HXL.out (fun k _ h => h.elim)⟩
          ·
            rw [decide_eq_false (by omega)] at f4
            rw [decide_eq_true (by omega)] at f5
            have HAB := Lib.hid (And.intro ha hb)
            clear h
            clear ha hb
            go_wp2_with fail
            refine (len_any B rb bm (u : Int) G2 _ (HBG2.out.rs.keep ((Ex.refl _ _).alloc _))).mono ?_
            rintro e wl ⟨rfl, hwl⟩
            rw [HM.out]
            have HXL : Hid (Ex (fun _ => False) w4 wl) := by rw [hwl]; exact (Ex.refl (fun _ => False) _).alloc _
            clear hwl
            obtain ⟨ha, hb⟩ := HAB.out
            have hwi := wrap_b1 HI60.out
            go_wp2_with fail
            clear ha hb f1 f2 f3 f4 f5
            go_roundg (60 - (i + 1))
            case measure => exact msrB hkx HI60.out
            case rel => exact ⟨i + 1, nw2, G2, rfl, by first | (simp; done) | (rw [wrap_b12 HI60.out]), HI60.out, Nat.le_refl _, HBG2.out.keep HXL.out, HUT.out.andThen HXL.out (fun k _ h => h.elim)⟩
          ·
            rw [decide_eq_false (by omega)] at f4
            rw [decide_eq_false (by omega)] at f5
            have HAB := Lib.hid (And.intro ha hb)
            clear h
            clear ha hb
            go_wp2_with fail
            refine (len_any B rb bm (u : Int) G2 _ (HBG2.out.rs.keep ((Ex.refl _ _).alloc _))).mono ?_
            rintro e wl ⟨rfl, hwl⟩
            rw [HM.out]
            have HXL : Hid (Ex (fun _ => False) w4 wl) := by rw [hwl]; exact (Ex.refl (fun _ => False) _).alloc _
            clear hwl
            obtain ⟨ha, hb⟩ := HAB.out
            have hwi := wrap_b1 HI60.out
            go_wp2_with fail
            clear ha hb f1 f2 f3 f4 f5
            go_roundg (60 - (i + 1))
            case measure => exact msrB hkx HI60.out
            case rel => exact ⟨i + 1, nw2, G2, rfl, by first | (simp; done) | (rw [wrap_b12 HI60.out]), HI60.out, Nat.le_refl _, HBG2.out.keep HXL.out, HUT.out.andThen HXL.out (fun k _ h => h.elim)⟩
          ·
            rw [decide_eq_true (by omega)] at f4
            rw [decide_eq_false (by omega)] at f5
            have HAB := Lib.hid (And.intro ha hb)
            clear h h7
            clear ha hb
            go_wp2_with fail
            refine (len_any B rb bm (u : Int) G2 _ (HBG2.out.rs.keep ((Ex.refl _ _).alloc _))).mono ?_
            rintro e wl ⟨rfl, hwl⟩
            rw [HM.out]
            have HXL : Hid (Ex (fun _ => False) w4 wl) := by rw [hwl]; exact (Ex.refl (fun _ => False) _).alloc _
            clear hwl
            obtain ⟨ha, hb⟩ := HAB.out
            have hwi := wrap_b1 HI60.out
            go_wp2_with fail
            clear ha hb f1 f2 f3 f4 f5
            go_roundg (60 - (i + 1))
            case measure => exact msrB hkx HI60.out
            case rel => exact ⟨i + 1, nw2, G2, rfl, by first | (simp; done) | (rw [wrap_b12 HI60.out]), HI60.out, Nat.le_refl _, HBG2.out.keep HXL.out, HUT.out.andThen HXL.out (fun k _ h => h.elim)⟩
          ·
            rw [decide_eq_false (by omega)] at f4
            rw [decide_eq_false (by omega)] at f5
            have HAB := Lib.hid (And.intro ha hb)
            clear h
            have HEC := Lib.hid (fun W (h : Ex (fun _ => False) w4 W) => EC.keep h (fun _ _ => id) hec)
            clear hec
            clear ha hb
            go_wp2_with fail
            refine (len_any B rb bm (u : Int) G2 _ (HBG2.out.rs.keep ((Ex.refl _ _).alloc _))).mono ?_
            rintro e wl ⟨rfl, hwl⟩
            rw [HM.out]
            have HXL : Hid (Ex (fun _ => False) w4 wl) := by rw [hwl]; exact (Ex.refl (fun _ => False) _).alloc _
            clear hwl
            obtain ⟨ha, hb⟩ := HAB.out
            have hwi := wrap_b1 HI60.out
            go_wp2_with fail
            clear ha hb f1 f2 f3 f4 f5
            go_roundg (60 - (i + 1))
            case measure => exact msrB hkx HI60.out
            case rel => exact ⟨i + 1, nw2, G2, rfl, by first | (simp; done) | (rw [wrap_b12 HI60.out]), HI60.out, Nat.le_refl _, HBG2.out.keep HXL.out, HUT.out.andThen HXL.out (fun k _ h => h.elim)⟩
          ·
            rw [decide_eq_false (by omega)] at f4
            rw [decide_eq_true (by omega)] at f5
            have HAB := Lib.hid (And.intro ha hb)
            clear h
            have HEC := Lib.hid (fun W (h : Ex (fun _ => False) w4 W) => EC.keep h (fun _ _ => id) hec)
            clear hec
            clear ha hb
            go_wp2_with fail
            refine (len_any B rb bm (u : Int) G2 _ (HBG2.out.rs.keep ((Ex.refl _ _).alloc _))).mono ?_
            rintro e wl ⟨rfl, hwl⟩
            rw [HM.out]
            have HXL : Hid (Ex (fun _ => False) w4 wl) := by rw [hwl]; exact (Ex.refl (fun _ => False) _).alloc _
            clear hwl
            obtain ⟨ha, hb⟩ := HAB.out
            have hwi := wrap_b1 HI60.out
            go_wp2_with fail
            refine (code_any _ _ _ _ _ (HEC.out _ HXL.out) (HGT.out _ HXL.out)).mono ?_
            rintro e wc ⟨rfl, hx⟩
            have HXC : Hid (Ex (fun _ => False) w4 wc) := HXL.out.trans hx
            clear hx
            go_wp2_with fail
            clear ha hb f1 f2 f3 f4 f5
            go_roundg (60 - (i + 1))
            case measure => exact msrB hkx HI60.out
            case rel => exact ⟨i + 1, nw2, G2, rfl, by first | (simp; done) | (rw [wrap_b12 HI60.out]), HI60.out, Nat.le_refl _, HBG2.out.keep HXC.out, HUT.out.andThen HXC.out (fun k _ h => h.elim)⟩
      ·
        have h60d : decide ((i : Int) < 60) = false := decide_eq_false h60
        have hw9 := end_u64 HBG.out.nb hi6 HUB.out
        obtain ⟨nw9, hnw9, hn9⟩ := hw9
        have HN9 := Lib.hid hn9
        clear hn9 hi6 hkx
        go_wp2_with fail
        refine (tick_any nw9 (u : Int) B rb bm G wr HBG.out.rs (fun h hh => (HBG.out.bgs h hh).1) (HN9.out.1) (Nat.le_trans HBG.out.len (by decide))).mono ?_
        rintro e wt ⟨rfl, hrs, hx⟩
        have hG2 : (G.filter fun h => !oldB (u : Int) nw9 h.bg) = [] := tick_all (fun h hh => (HBG.out.bgs h hh).2) HN9.out.2
        rw [hG2] at hrs ⊢
        have HRST := Lib.hid hrs
        have HUT : Hid (Up B w1 wt) := HU.out.trans (hx.mono (fun k _ e => by have e : k = bm := e; have := HBG.out.rs.lo.2; omega))
        clear hrs hx hG2
        go_wp2_with fail
        refine (len_any B rb bm (u : Int) [] wt HRST.out).mono ?_
        rintro e wl ⟨rfl, hwl⟩
        obtain rfl : wt = wl := hwl.symm
        rw [show ((([] : List Hp).length : Int)) = 0 from rfl]
        go_wp2_with fail
        go_ret
        refine ⟨rfl, HX_w1.out.andThen HUT.out (fun k h1 h2 => ?_)⟩
        have h3 := HBE.out
        have h4 := HX_w1.out.size
        omega
    ·
      have hltd : decide ((i : Int) < (l.length : Int)) = false := decide_eq_false hlt
      have hw9 := end_u64 HBG.out.nb hi6 HUB.out
      obtain ⟨nw9, hnw9, hn9⟩ := hw9
      have HN9 := Lib.hid hn9
      clear hn9 hi6 hkx
      go_wp2_with fail
      refine (tick_any nw9 (u : Int) B rb bm G wr HBG.out.rs (fun h hh => (HBG.out.bgs h hh).1) (HN9.out.1) (Nat.le_trans HBG.out.len (by decide))).mono ?_
      rintro e wt ⟨rfl, hrs, hx⟩
      have hG2 : (G.filter fun h => !oldB (u : Int) nw9 h.bg) = [] := tick_all (fun h hh => (HBG.out.bgs h hh).2) HN9.out.2
      rw [hG2] at hrs ⊢
      have HRST := Lib.hid hrs
      have HUT : Hid (Up B w1 wt) := HU.out.trans (hx.mono (fun k _ e => by have e : k = bm := e; have := HBG.out.rs.lo.2; omega))
      clear hrs hx hG2
      go_wp2_with fail
      refine (len_any B rb bm (u : Int) [] wt HRST.out).mono ?_
      rintro e wl ⟨rfl, hwl⟩
      obtain rfl : wt = wl := hwl.symm
      rw [show ((([] : List Hp).length : Int)) = 0 from rfl]
      go_wp2_with fail
      go_ret
      refine ⟨rfl, HX_w1.out.andThen HUT.out (fun k h1 h2 => ?_)⟩
      have h3 := HBE.out
      have h4 := HX_w1.out.size
      omega
end Go.Proofs.YtabjihchcmjdmaaDoor
