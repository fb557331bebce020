/-
  The walk of EtherTells. By an AI agent.
-/
import Derived.Test.YtkgieciamophkaaDoorShown03
import Derived.Test.YtkgieciamophkaaDoorRfEq
import Derived.Test.YtkgieciamophkaaDoorRefP03
import Derived.Deep.DeepCutAuto
import Derived.Deep.CutBlock
import Derived.HandedShaped
namespace Go.Proofs.YtkgieciamophkaaDoor
open Go.RowKit

theorem t3_cut (r : List UInt8) : ∃ s : List UInt8, (if 10000 < (r.length : Int) then (10000 : Int) else (r.length : Int)) = (s.length : Int) ∧ s.length ≤ r.length ∧ s.length ≤ 10000 ∧ s = r.take 10000 := by
  refine ⟨r.take 10000, ?_, by simp; omega, by simp; omega, rfl⟩
  rw [List.length_take]; split <;> omega
theorem mod_two (a : UInt8) : ((a.toNat : Int) % 2 == 1) = decide (a.toNat % 2 = 1) := by
  by_cases h : a.toNat % 2 = 1
  · rw [decide_eq_true h, beq_iff_eq]; omega
  · rw [decide_eq_false h, beq_eq_false_iff_ne]; omega
set_option maxRecDepth 100000 in
set_option maxHeartbeats 16000000 in
theorem tells3_any (f : Fr) (A : Option Addr) (c : Nat) (B : Option Addr) (nb cb : Nat) (r : List UInt8) (w : World) (ok : f.ok) (hm : RB w (fun _ => True) (.slice A f.b.length c) f.b) (hr : RB w (fun _ => True) (.slice B nb cb) r) (hg : ET w) (hal : AL w) :
    Calls Tryd.prog 9 #[.slice B nb cb, frv f (.slice A f.b.length c)] w fun e w' => e = .returned (.bool true) ∧ Ex (fun _ => False) w w' := by
  obtain ⟨fd, fs, xvl, xty, xb⟩ := f
  obtain ⟨h1, h2, h3, h4, h5⟩ := ok
  simp only at h1 h2 h3 h4 h5 hm
  obtain ⟨xd0, xd1, xd2, xd3, xd4, xd5, rfl⟩ := six_is h1
  obtain ⟨xs0, xs1, xs2, xs3, xs4, xs5, rfl⟩ := six_is h2
  obtain rfl : nb = r.length := by obtain ⟨_, _, _, e, _⟩ := hr; injection e
  obtain ⟨i0, hi, hz0, hz1, hz2⟩ := info_parts Tryd.info5
  obtain ⟨s, hk, hk1, hk2, hs1⟩ := t3_cut r
  obtain ⟨xl, gk, gk1, gk2, hxl⟩ := t3_cut xb
  have hrc : r.length ≤ cb := by obtain ⟨_, _, _, e, h, _⟩ := hr; injection e with _ _ e3; rw [e3]; exact h
  have hmc : xb.length ≤ c := by obtain ⟨_, _, _, e, h, _⟩ := hm; injection e with _ _ e3; rw [e3]; exact h
  have hki : (s.length : Int) ≤ (r.length : Int) := by omega
  have hkc : s.length ≤ cb := by omega
  have gki : (xl.length : Int) ≤ (xb.length : Int) := by omega
  have gkc : xl.length ≤ c := by omega
  have hrt := hr.take 10000
  rw [← hs1] at hrt
  have hmt := hm.take 10000
  rw [← hxl] at hmt
  have okx : (⟨[xd0, xd1, xd2, xd3, xd4, xd5], [xs0, xs1, xs2, xs3, xs4, xs5], xvl, xty, xl⟩ : Fr).ok := ⟨rfl, rfl, h3, h4, h5⟩
  have HR := Lib.hid hrt
  have HM := Lib.hid hmt
  have OKX := Lib.hid okx
  have HG := Lib.hid hg
  have HAL := Lib.hid hal
  have HGK := Lib.hid gk
  clear hm hr hrt hmt hg hal okx hs1 hxl hrc hmc gk h1 h2 h3 h4 h5
  show Calls Tryd.prog 9 #[.slice B r.length cb, .agg #[.int .u8 (xd0.toNat : Int), .int .u8 (xd1.toNat : Int), .int .u8 (xd2.toNat : Int), .int .u8 (xd3.toNat : Int), .int .u8 (xd4.toNat : Int), .int .u8 (xd5.toNat : Int), .int .u8 (xs0.toNat : Int), .int .u8 (xs1.toNat : Int), .int .u8 (xs2.toNat : Int), .int .u8 (xs3.toNat : Int), .int .u8 (xs4.toNat : Int), .int .u8 (xs5.toNat : Int), .int .i64 xvl, .int .u16 (xty : Int), .slice A xb.length c]] w _
  go_enter Tryd.func9, Tryd.ntmps9
  go_upto_region 1 with fail
  have hx : Ex (fun _ => False) w (w.alloc (.cells #[.int .u8 (xd0.toNat : Int), .int .u8 (xd1.toNat : Int), .int .u8 (xd2.toNat : Int), .int .u8 (xd3.toNat : Int), .int .u8 (xd4.toNat : Int), .int .u8 (xd5.toNat : Int), .int .u8 (xs0.toNat : Int), .int .u8 (xs1.toNat : Int), .int .u8 (xs2.toNat : Int), .int .u8 (xs3.toNat : Int), .int .u8 (xs4.toNat : Int), .int .u8 (xs5.toNat : Int), .int .i64 xvl, .int .u16 (xty : Int), .slice A xb.length c] 76)) := (Ex.refl _ w).alloc _
  have hb : (w.alloc (.cells #[.int .u8 (xd0.toNat : Int), .int .u8 (xd1.toNat : Int), .int .u8 (xd2.toNat : Int), .int .u8 (xd3.toNat : Int), .int .u8 (xd4.toNat : Int), .int .u8 (xd5.toNat : Int), .int .u8 (xs0.toNat : Int), .int .u8 (xs1.toNat : Int), .int .u8 (xs2.toNat : Int), .int .u8 (xs3.toNat : Int), .int .u8 (xs4.toNat : Int), .int .u8 (xs5.toNat : Int), .int .i64 xvl, .int .u16 (xty : Int), .slice A xb.length c] 76)).heap[w.heap.size]? = some (.cells #[.int .u8 (xd0.toNat : Int), .int .u8 (xd1.toNat : Int), .int .u8 (xd2.toNat : Int), .int .u8 (xd3.toNat : Int), .int .u8 (xd4.toNat : Int), .int .u8 (xd5.toNat : Int), .int .u8 (xs0.toNat : Int), .int .u8 (xs1.toNat : Int), .int .u8 (xs2.toNat : Int), .int .u8 (xs3.toNat : Int), .int .u8 (xs4.toNat : Int), .int .u8 (xs5.toNat : Int), .int .i64 xvl, .int .u16 (xty : Int), .slice A xb.length c] 76) := heap_alloc_new w _
  obtain ⟨bp, hbp⟩ : ∃ bp, bp = w.heap.size := ⟨_, rfl⟩
  have hb_bp : w.heap.size ≤ bp := by omega
  rw [← hbp] at hb
  try simp only [← hbp]
  generalize w.alloc (.cells #[.int .u8 (xd0.toNat : Int), .int .u8 (xd1.toNat : Int), .int .u8 (xd2.toNat : Int), .int .u8 (xd3.toNat : Int), .int .u8 (xd4.toNat : Int), .int .u8 (xd5.toNat : Int), .int .u8 (xs0.toNat : Int), .int .u8 (xs1.toNat : Int), .int .u8 (xs2.toNat : Int), .int .u8 (xs3.toNat : Int), .int .u8 (xs4.toNat : Int), .int .u8 (xs5.toNat : Int), .int .i64 xvl, .int .u16 (xty : Int), .slice A xb.length c] 76) = w1 at hx hb ⊢
  clear hbp
  have HX_w1 := Lib.hid hx
  clear hx
  have B_bp := Lib.hid hb
  clear hb
  have hlp := row_lt B_bp.out
  go_wp2_with fail
  refine (shown3_any w1 (HG.out.keep HX_w1.out id) (HAL.out.keep HX_w1.out id)).mono ?_
  rintro e w2 ⟨rfl, hx⟩
  have hz12 := hx.size
  have HX_w2 := Lib.hid hx
  clear hx
  have hrw := (RB.keep HR.out (HX_w1.out.trans HX_w2.out) (fun _ _ _ => id))
  have HRW := Lib.hid hrw
  clear hrw
  go_upto_region 3 with (at_builtin; refine wpList_append_ob i0 23 Tryd.underlying23 hi hz0 hz1 hz2 rfl (.tmp 20) (.tmp 25) rfl w2.heap.size (.slice (some ⟨w2.heap.size, 0, none⟩) 0 0) [] rfl (fun _ => True) (.slice B s.length cb) s rfl (OB.lit w2 w2.heap.size [] (Nat.le_refl _) (by simp)) (HRW.out.alloc _) (by simp; omega) (by simp) ?_; intro A3 c3 w3 ho3 hg3 hn3 hb3; have hx3 : Ex (fun _ => False) w2 w3 := ((Ex.refl _ w2).alloc _).grown hg3 (fun k hk => .inr (by obtain rfl := Option.some.inj hk; exact Nat.le_refl _)))
  cases A3 with
  | none => exact absurd (hn3.1 rfl).1 (by simp)
  | some A3 =>
    have hx := hx3
    have ho : OB w3 w2.heap.size (.slice (some A3) s.length c3) s := by simpa using ho3
    obtain ⟨g3, rfl, hb_g3, hg3'⟩ := ho.plain
    clear hx3 hg3 hn3 hb3 ho3 hk hki hkc hk1
    try simp only [List.length_nil, Nat.zero_add]
    have HX_w3 := Lib.hid hx
    clear hx
    have hb3 : RB w3 (fun j => j = g3) (.slice (some ⟨g3, 0, none⟩) s.length c3) s := ho.rb.mono (fun k _ h => by have := h.1; injection this with this; exact this.symm)
    have HB3 := Lib.hid hb3
    clear hb3
    have HO := Lib.hid ho
    clear ho
    have hcv := HO.out.rb.str (Pr := Tryd.prog) 23 9 5 Tryd.underlying23 Tryd.underlying5 Tryd.underlying9
    go_upto_region 4 with fail
    clear hcv
    go_wp2_with fail
    refine (eparse_tv _ (some ⟨g3, 0, none⟩) s.length c3 s w3 HO.out.rb (fun h => by cases h) (by omega)).mono ?_
    rintro e w4 ⟨A4, g4, o4, v4, rfl, hg4, hb4, hf4, htv, hx⟩
    have hql := efr_len s
    have hqo := efr_ok s
    have hno : eyes s = false → efr s = zf := efr_no
    have hrp : rpfv s = if eyes s then rfv (efr s) else zrf := rfl
    obtain ⟨Y, hY⟩ : ∃ Y, eyes s = Y := ⟨_, rfl⟩
    have hys : Y = true ↔ esays s = ⟨#[]⟩ := by rw [← hY]; exact esays_yes
    obtain ⟨Q, hQ⟩ : ∃ Q, efr s = Q := ⟨_, rfl⟩
    obtain ⟨T, hT⟩ : ∃ T, esays s = T := ⟨_, rfl⟩
    rw [hY, hQ] at hno hrp
    rw [hQ] at hb4 hf4 hql hqo ⊢
    rw [hT] at htv hys
    have hrs := fun w => rp3_any s w
    rw [hT, hrp] at hrs
    have HRS := Lib.hid hrs
    have OKQ := Lib.hid hqo
    obtain ⟨qd, qs, qvl, qty, qb⟩ := Q
    have h1 : qd.length = 6 := hqo.d
    have h2 : qs.length = 6 := hqo.s
    obtain ⟨qd0, qd1, qd2, qd3, qd4, qd5, rfl⟩ := six_is h1
    obtain ⟨qs0, qs1, qs2, qs3, qs4, qs5, rfl⟩ := six_is h2
    have hql' : qb.length ≤ s.length := hql
    have hv : frv (⟨[qd0, qd1, qd2, qd3, qd4, qd5], [qs0, qs1, qs2, qs3, qs4, qs5], qvl, qty, qb⟩ : Fr) (.slice A4 (⟨[qd0, qd1, qd2, qd3, qd4, qd5], [qs0, qs1, qs2, qs3, qs4, qs5], qvl, qty, qb⟩ : Fr).b.length (⟨[qd0, qd1, qd2, qd3, qd4, qd5], [qs0, qs1, qs2, qs3, qs4, qs5], qvl, qty, qb⟩ : Fr).b.length) = .agg #[.int .u8 (qd0.toNat : Int), .int .u8 (qd1.toNat : Int), .int .u8 (qd2.toNat : Int), .int .u8 (qd3.toNat : Int), .int .u8 (qd4.toNat : Int), .int .u8 (qd5.toNat : Int), .int .u8 (qs0.toNat : Int), .int .u8 (qs1.toNat : Int), .int .u8 (qs2.toNat : Int), .int .u8 (qs3.toNat : Int), .int .u8 (qs4.toNat : Int), .int .u8 (qs5.toNat : Int), .int .i64 qvl, .int .u16 (qty : Int), .slice A4 qb.length qb.length] := rfl
    rw [hv]
    have hb4' : RB w4 (fun j => j = g4) (.slice A4 qb.length qb.length) qb := hb4
    have hf4' : qb ≠ [] → A4 = some ⟨g4, o4, none⟩ ∧ ∀ x, w4.frozen? ⟨g4, x, none⟩ = false := hf4
    have HF4 := Lib.hid hf4'
    have HNO := Lib.hid hno
    have HYS := Lib.hid hys
    clear hv hb4 hf4 hf4' hrs hqo hql hQ hT hY hrp hno hys h1 h2
    have HX_w4 := Lib.hid hx
    clear hx
    have HB0 := Lib.hid hb4'
    have HB4 := Lib.hid hb4'
    clear hb4'
    have TV4 := Lib.hid htv
    clear htv
    go_upto_region 5 with fail
    have hx : Ex (fun _ => False) w4 (w4.alloc (.cells #[.int .u8 (qd0.toNat : Int), .int .u8 (qd1.toNat : Int), .int .u8 (qd2.toNat : Int), .int .u8 (qd3.toNat : Int), .int .u8 (qd4.toNat : Int), .int .u8 (qd5.toNat : Int), .int .u8 (qs0.toNat : Int), .int .u8 (qs1.toNat : Int), .int .u8 (qs2.toNat : Int), .int .u8 (qs3.toNat : Int), .int .u8 (qs4.toNat : Int), .int .u8 (qs5.toNat : Int), .int .i64 qvl, .int .u16 (qty : Int), .slice A4 qb.length qb.length] 76)) := (Ex.refl _ w4).alloc _
    have hb : (w4.alloc (.cells #[.int .u8 (qd0.toNat : Int), .int .u8 (qd1.toNat : Int), .int .u8 (qd2.toNat : Int), .int .u8 (qd3.toNat : Int), .int .u8 (qd4.toNat : Int), .int .u8 (qd5.toNat : Int), .int .u8 (qs0.toNat : Int), .int .u8 (qs1.toNat : Int), .int .u8 (qs2.toNat : Int), .int .u8 (qs3.toNat : Int), .int .u8 (qs4.toNat : Int), .int .u8 (qs5.toNat : Int), .int .i64 qvl, .int .u16 (qty : Int), .slice A4 qb.length qb.length] 76)).heap[w4.heap.size]? = some (.cells #[.int .u8 (qd0.toNat : Int), .int .u8 (qd1.toNat : Int), .int .u8 (qd2.toNat : Int), .int .u8 (qd3.toNat : Int), .int .u8 (qd4.toNat : Int), .int .u8 (qd5.toNat : Int), .int .u8 (qs0.toNat : Int), .int .u8 (qs1.toNat : Int), .int .u8 (qs2.toNat : Int), .int .u8 (qs3.toNat : Int), .int .u8 (qs4.toNat : Int), .int .u8 (qs5.toNat : Int), .int .i64 qvl, .int .u16 (qty : Int), .slice A4 qb.length qb.length] 76) := heap_alloc_new w4 _
    obtain ⟨xb0, hxb0⟩ : ∃ xb0, xb0 = w4.heap.size := ⟨_, rfl⟩
    have hb_xb0 : w4.heap.size ≤ xb0 := by omega
    rw [← hxb0] at hb
    try simp only [← hxb0]
    generalize w4.alloc (.cells #[.int .u8 (qd0.toNat : Int), .int .u8 (qd1.toNat : Int), .int .u8 (qd2.toNat : Int), .int .u8 (qd3.toNat : Int), .int .u8 (qd4.toNat : Int), .int .u8 (qd5.toNat : Int), .int .u8 (qs0.toNat : Int), .int .u8 (qs1.toNat : Int), .int .u8 (qs2.toNat : Int), .int .u8 (qs3.toNat : Int), .int .u8 (qs4.toNat : Int), .int .u8 (qs5.toNat : Int), .int .i64 qvl, .int .u16 (qty : Int), .slice A4 qb.length qb.length] 76) = w5 at hx hb ⊢
    clear hxb0
    have HX_w5 := Lib.hid hx
    clear hx
    have B_xb0 := Lib.hid hb
    clear hb
    go_wp2_with fail
    refine (HRS.out w5).mono ?_
    rintro e w6 ⟨rfl, hx⟩
    have HX_w6 := Lib.hid hx
    clear hx
    obtain ⟨y0, y1, y2, y3, y4, hyc, hyr⟩ : ∃ (y0 y1 : ByteArray) (y2 y3 : Int) (y4 : ByteArray), (if Y then rfv (⟨[qd0, qd1, qd2, qd3, qd4, qd5], [qs0, qs1, qs2, qs3, qs4, qs5], qvl, qty, qb⟩ : Fr) else zrf) = .agg #[.string y0, .string y1, .int .i64 y2, .int .u32 y3, .string y4] ∧ (Y = true → Value.agg #[.string y0, .string y1, .int .i64 y2, .int .u32 y3, .string y4] = rfv (⟨[qd0, qd1, qd2, qd3, qd4, qd5], [qs0, qs1, qs2, qs3, qs4, qs5], qvl, qty, qb⟩ : Fr)) := by
      cases Y
      · exact ⟨_, _, _, _, _, rfl, fun h => by cases h⟩
      · exact ⟨_, _, _, _, _, rfl, fun _ => rfl⟩
    rw [hyc]
    clear hyc
    have HYR := Lib.hid hyr
    clear hyr
    go_upto_region 6 with fail
    have hx : Ex (fun _ => False) w6 (w6.alloc (.cells #[.string y0, .string y1, .int .i64 y2, .int .u32 y3, .string y4] 80)) := (Ex.refl _ w6).alloc _
    have hb : (w6.alloc (.cells #[.string y0, .string y1, .int .i64 y2, .int .u32 y3, .string y4] 80)).heap[w6.heap.size]? = some (.cells #[.string y0, .string y1, .int .i64 y2, .int .u32 y3, .string y4] 80) := heap_alloc_new w6 _
    obtain ⟨yb, hyb⟩ : ∃ yb, yb = w6.heap.size := ⟨_, rfl⟩
    have hb_yb : w6.heap.size ≤ yb := by omega
    rw [← hyb] at hb
    try simp only [← hyb]
    generalize w6.alloc (.cells #[.string y0, .string y1, .int .i64 y2, .int .u32 y3, .string y4] 80) = w7 at hx hb ⊢
    clear hyb
    have HX_w7 := Lib.hid hx
    clear hx
    have B_yb := Lib.hid hb
    clear hb
    replace TV4 := Lib.hid (TV4.out.keep ((HX_w5.out.trans HX_w6.out).trans HX_w7.out))
    replace HB4 := Lib.hid (RB.keep HB4.out ((HX_w5.out.trans HX_w6.out).trans HX_w7.out) (fun _ _ _ => id))
    go_cut [63] (fun x wx => x = .bool false ∧ Hid (Ex (fun _ => False) w7 wx))
    case first =>
      cases Y with
      | false =>
        replace B_xb0 := Lib.hid (((HX_w6.out.trans HX_w7.out).block xb0 (row_lt B_xb0.out) id).trans B_xb0.out)
        have cx0 := row_cell (k := 0) (v := .int .u8 (qd0.toNat : Int)) B_xb0.out rfl
        have cx1 := row_cell (k := 1) (v := .int .u8 (qd1.toNat : Int)) B_xb0.out rfl
        have cx2 := row_cell (k := 2) (v := .int .u8 (qd2.toNat : Int)) B_xb0.out rfl
        have cx3 := row_cell (k := 3) (v := .int .u8 (qd3.toNat : Int)) B_xb0.out rfl
        have cx4 := row_cell (k := 4) (v := .int .u8 (qd4.toNat : Int)) B_xb0.out rfl
        have cx5 := row_cell (k := 5) (v := .int .u8 (qd5.toNat : Int)) B_xb0.out rfl
        have cx6 := row_cell (k := 6) (v := .int .u8 (qs0.toNat : Int)) B_xb0.out rfl
        have cx7 := row_cell (k := 7) (v := .int .u8 (qs1.toNat : Int)) B_xb0.out rfl
        have cx8 := row_cell (k := 8) (v := .int .u8 (qs2.toNat : Int)) B_xb0.out rfl
        have cx9 := row_cell (k := 9) (v := .int .u8 (qs3.toNat : Int)) B_xb0.out rfl
        have cx10 := row_cell (k := 10) (v := .int .u8 (qs4.toNat : Int)) B_xb0.out rfl
        have cx11 := row_cell (k := 11) (v := .int .u8 (qs5.toNat : Int)) B_xb0.out rfl
        have cx12 := row_cell (k := 12) (v := .int .i64 qvl) B_xb0.out rfl
        have cx13 := row_cell (k := 13) (v := .int .u16 (qty : Int)) B_xb0.out rfl
        have cx14 := row_cell (k := 14) (v := .slice A4 qb.length qb.length) B_xb0.out rfl
        have cy0 := row_cell (k := 0) (v := .string y0) B_yb.out rfl
        have cy1 := row_cell (k := 1) (v := .string y1) B_yb.out rfl
        have cy2 := row_cell (k := 2) (v := .int .i64 y2) B_yb.out rfl
        have cy3 := row_cell (k := 3) (v := .int .u32 y3) B_yb.out rfl
        have cy4 := row_cell (k := 4) (v := .string y4) B_yb.out rfl
        have hne : T ≠ ⟨#[]⟩ := fun h => absurd (HYS.out.2 h) (by simp)
        have hn1 : ((T.toList == ([] : List UInt8))) = false := by
          rw [beq_eq_false_iff_ne]
          intro h
          refine hne (ByteArray.ext (Array.toList_inj.1 ?_))
          simpa [ByteArray.toList_eq] using h
        have hzf : (⟨[qd0, qd1, qd2, qd3, qd4, qd5], [qs0, qs1, qs2, qs3, qs4, qs5], qvl, qty, qb⟩ : Fr) = zf := HNO.out rfl
        have e1 : rfv (⟨[qd0, qd1, qd2, qd3, qd4, qd5], [qs0, qs1, qs2, qs3, qs4, qs5], qvl, qty, qb⟩ : Fr) = rfv zf := by rw [hzf]
        have z1 : ∀ w, (binOp .neq 80 (rfv (⟨[qd0, qd1, qd2, qd3, qd4, qd5], [qs0, qs1, qs2, qs3, qs4, qs5], qvl, qty, qb⟩ : Fr)) (rfv zf)).run Tryd.prog w = .ok (.bool false) w := fun w => by rw [e1]; exact rfv_neq zf w
        have z2 : ∀ w, (eqGuard .neq 80 (.tmp 58) (.tmp 60) (rfv (⟨[qd0, qd1, qd2, qd3, qd4, qd5], [qs0, qs1, qs2, qs3, qs4, qs5], qvl, qty, qb⟩ : Fr)) (rfv zf)).run Tryd.prog w = .ok () w := fun w => rfv_guard .neq (.tmp 58) (.tmp 60) (⟨[qd0, qd1, qd2, qd3, qd4, qd5], [qs0, qs1, qs2, qs3, qs4, qs5], qvl, qty, qb⟩ : Fr) zf w
        have Z1 := Lib.hid z1
        have Z2 := Lib.hid z2
        clear z1 z2 e1 hzf
        have hS0 : Ex (fun _ => False) w7 w7.drew := (Ex.refl _ w7).drew
        refine wp_region_held_drew (S := fun W => Ex (fun _ => False) w7 W) (by kernel_rfl) hS0 (fun _ => ?_)
        refine wpAnyH_take (i := 0) (oi := { dst := some 39, op := Go.Op.move (Go.Operand.tmp 8), type := 28, pos := "law.go:40", after := #[], guard := none }) (v := ?v1) rfl (by kernel_rfl) (by kernel_rfl) (by kernel_rfl) (fun _ _ _ h => h) (Or.inl ⟨by rfl, ?hy1⟩) (by assumption) ?rest1
        case hy1 => (intro w hSw; (try dsimp only at hSw); have ecx0 := hSw.cell cx0 id; have ecx1 := hSw.cell cx1 id; have ecx2 := hSw.cell cx2 id; have ecx3 := hSw.cell cx3 id; have ecx4 := hSw.cell cx4 id; have ecx5 := hSw.cell cx5 id; have ecx6 := hSw.cell cx6 id; have ecx7 := hSw.cell cx7 id; have ecx8 := hSw.cell cx8 id; have ecx9 := hSw.cell cx9 id; have ecx10 := hSw.cell cx10 id; have ecx11 := hSw.cell cx11 id; have ecx12 := hSw.cell cx12 id; have ecx13 := hSw.cell cx13 id; have ecx14 := hSw.cell cx14 id; have ecy0 := hSw.cell cy0 id; have ecy1 := hSw.cell cy1 id; have ecy2 := hSw.cell cy2 id; have ecy3 := hSw.cell cy3 id; have ecy4 := hSw.cell cy4 id; have z1 := Z1.out; have z2 := Z2.out; go_simp <;> with_reducible rfl)
        try simp only [Act.put, List.setIfInBounds_toArray, List.set_cons_zero, List.set_cons_succ]
        refine wpAnyH_take (i := 2) (oi := { dst := some 41, op := Go.Op.move (Go.Operand.tmp 10), type := 9, pos := "law.go:40", after := #[], guard := none }) (v := ?v2) rfl (by kernel_rfl) (by kernel_rfl) (by kernel_rfl) (fun _ _ _ h => h) (Or.inl ⟨by rfl, ?hy2⟩) (by assumption) ?rest2
        case hy2 => (intro w hSw; (try dsimp only at hSw); have ecx0 := hSw.cell cx0 id; have ecx1 := hSw.cell cx1 id; have ecx2 := hSw.cell cx2 id; have ecx3 := hSw.cell cx3 id; have ecx4 := hSw.cell cx4 id; have ecx5 := hSw.cell cx5 id; have ecx6 := hSw.cell cx6 id; have ecx7 := hSw.cell cx7 id; have ecx8 := hSw.cell cx8 id; have ecx9 := hSw.cell cx9 id; have ecx10 := hSw.cell cx10 id; have ecx11 := hSw.cell cx11 id; have ecx12 := hSw.cell cx12 id; have ecx13 := hSw.cell cx13 id; have ecx14 := hSw.cell cx14 id; have ecy0 := hSw.cell cy0 id; have ecy1 := hSw.cell cy1 id; have ecy2 := hSw.cell cy2 id; have ecy3 := hSw.cell cy3 id; have ecy4 := hSw.cell cy4 id; have z1 := Z1.out; have z2 := Z2.out; go_simp <;> with_reducible rfl)
        try simp only [Act.put, List.setIfInBounds_toArray, List.set_cons_zero, List.set_cons_succ]
        refine wpAnyH_ready (rs := [1]) (by kernel_rfl) (by simp) ?_
        refine AllReadyH.cons (o := { dst := some 40, op := Go.Op.call { callee := Go.Callee.value (Go.Operand.func 36), args := #[Go.Operand.tmp 39], argTypes := #[28] }, type := 9, pos := "law.go:40", after := #[{ on := 0, ground := Go.Ground.data }], guard := none }) rfl (fun K hK => ?_) AllReadyH.nil
        go_simp
        refine (told3_tv (TV4.out.keep hS0)).mono ?_
        rintro e w8 ⟨rfl, hx⟩
        have hS1 := hS0.trans hx
        clear hx
        refine hK.out _ _ hS1 (fun _ => ?_)
        refine wpAnyH_take (i := 3) (oi := { dst := some 42, op := Go.Op.binOp Go.BinOp.neq 9 (Go.Operand.tmp 40) (Go.Operand.tmp 41) 9, type := 4, pos := "law.go:40", after := #[{ on := 1, ground := Go.Ground.data }, { on := 2, ground := Go.Ground.data }], guard := none }) (v := ?v3) rfl (by kernel_rfl) (by kernel_rfl) (by kernel_rfl) (fun _ _ _ h => h) (Or.inl ⟨by rfl, ?hy3⟩) (by assumption) ?rest3
        case hy3 => (intro w hSw; (try dsimp only at hSw); have ecx0 := hSw.cell cx0 id; have ecx1 := hSw.cell cx1 id; have ecx2 := hSw.cell cx2 id; have ecx3 := hSw.cell cx3 id; have ecx4 := hSw.cell cx4 id; have ecx5 := hSw.cell cx5 id; have ecx6 := hSw.cell cx6 id; have ecx7 := hSw.cell cx7 id; have ecx8 := hSw.cell cx8 id; have ecx9 := hSw.cell cx9 id; have ecx10 := hSw.cell cx10 id; have ecx11 := hSw.cell cx11 id; have ecx12 := hSw.cell cx12 id; have ecx13 := hSw.cell cx13 id; have ecx14 := hSw.cell cx14 id; have ecy0 := hSw.cell cy0 id; have ecy1 := hSw.cell cy1 id; have ecy2 := hSw.cell cy2 id; have ecy3 := hSw.cell cy3 id; have ecy4 := hSw.cell cy4 id; have z1 := Z1.out; have z2 := Z2.out; go_simp <;> with_reducible rfl)
        try simp only [Act.put, List.setIfInBounds_toArray, List.set_cons_zero, List.set_cons_succ]
        refine wpAnyH_take (i := 4) (oi := { dst := some 43, op := Go.Op.move (Go.Operand.tmp 42), type := 4, pos := "law.go:40", after := #[{ on := 3, ground := Go.Ground.data }, { on := 1, ground := Go.Ground.chain }], guard := none }) (v := ?v4) rfl (by kernel_rfl) (by kernel_rfl) (by kernel_rfl) (fun _ _ _ h => h) (Or.inl ⟨by rfl, ?hy4⟩) (by assumption) ?rest4
        case hy4 => (intro w hSw; (try dsimp only at hSw); have ecx0 := hSw.cell cx0 id; have ecx1 := hSw.cell cx1 id; have ecx2 := hSw.cell cx2 id; have ecx3 := hSw.cell cx3 id; have ecx4 := hSw.cell cx4 id; have ecx5 := hSw.cell cx5 id; have ecx6 := hSw.cell cx6 id; have ecx7 := hSw.cell cx7 id; have ecx8 := hSw.cell cx8 id; have ecx9 := hSw.cell cx9 id; have ecx10 := hSw.cell cx10 id; have ecx11 := hSw.cell cx11 id; have ecx12 := hSw.cell cx12 id; have ecx13 := hSw.cell cx13 id; have ecx14 := hSw.cell cx14 id; have ecy0 := hSw.cell cy0 id; have ecy1 := hSw.cell cy1 id; have ecy2 := hSw.cell cy2 id; have ecy3 := hSw.cell cy3 id; have ecy4 := hSw.cell cy4 id; have z1 := Z1.out; have z2 := Z2.out; go_simp <;> with_reducible rfl)
        try simp only [Act.put, List.setIfInBounds_toArray, List.set_cons_zero, List.set_cons_succ]
        refine wpAnyH_take (i := 5) (oi := { dst := some 44, op := Go.Op.move (Go.Operand.tmp 10), type := 9, pos := "law.go:40", after := #[{ on := 4, ground := Go.Ground.guard }], guard := some (4, false) }) (v := ?v5) rfl (by kernel_rfl) (by kernel_rfl) (by kernel_rfl) (fun _ _ _ h => h) (Or.inl ⟨by rfl, ?hy5⟩) (by assumption) ?rest5
        case hy5 => (intro w hSw; (try dsimp only at hSw); have ecx0 := hSw.cell cx0 id; have ecx1 := hSw.cell cx1 id; have ecx2 := hSw.cell cx2 id; have ecx3 := hSw.cell cx3 id; have ecx4 := hSw.cell cx4 id; have ecx5 := hSw.cell cx5 id; have ecx6 := hSw.cell cx6 id; have ecx7 := hSw.cell cx7 id; have ecx8 := hSw.cell cx8 id; have ecx9 := hSw.cell cx9 id; have ecx10 := hSw.cell cx10 id; have ecx11 := hSw.cell cx11 id; have ecx12 := hSw.cell cx12 id; have ecx13 := hSw.cell cx13 id; have ecx14 := hSw.cell cx14 id; have ecy0 := hSw.cell cy0 id; have ecy1 := hSw.cell cy1 id; have ecy2 := hSw.cell cy2 id; have ecy3 := hSw.cell cy3 id; have ecy4 := hSw.cell cy4 id; have z1 := Z1.out; have z2 := Z2.out; go_simp <;> with_reducible rfl)
        try simp only [Act.put, List.setIfInBounds_toArray, List.set_cons_zero, List.set_cons_succ]
        refine wpAnyH_take (i := 6) (oi := { dst := some 45, op := Go.Op.binOp Go.BinOp.eql 9 (Go.Operand.tmp 44) (Go.Operand.const (Go.Value.string { data := #[] })) 9, type := 4, pos := "law.go:40", after := #[{ on := 5, ground := Go.Ground.data }, { on := 4, ground := Go.Ground.guard }], guard := some (4, false) }) (v := ?v6) rfl (by kernel_rfl) (by kernel_rfl) (by kernel_rfl) (fun _ _ _ h => h) (Or.inl ⟨by rfl, ?hy6⟩) (by assumption) ?rest6
        case hy6 => (intro w hSw; (try dsimp only at hSw); have ecx0 := hSw.cell cx0 id; have ecx1 := hSw.cell cx1 id; have ecx2 := hSw.cell cx2 id; have ecx3 := hSw.cell cx3 id; have ecx4 := hSw.cell cx4 id; have ecx5 := hSw.cell cx5 id; have ecx6 := hSw.cell cx6 id; have ecx7 := hSw.cell cx7 id; have ecx8 := hSw.cell cx8 id; have ecx9 := hSw.cell cx9 id; have ecx10 := hSw.cell cx10 id; have ecx11 := hSw.cell cx11 id; have ecx12 := hSw.cell cx12 id; have ecx13 := hSw.cell cx13 id; have ecx14 := hSw.cell cx14 id; have ecy0 := hSw.cell cy0 id; have ecy1 := hSw.cell cy1 id; have ecy2 := hSw.cell cy2 id; have ecy3 := hSw.cell cy3 id; have ecy4 := hSw.cell cy4 id; have z1 := Z1.out; have z2 := Z2.out; go_simp <;> with_reducible rfl)
        try simp only [Act.put, List.setIfInBounds_toArray, List.set_cons_zero, List.set_cons_succ]
        refine wpAnyH_take (i := 7) (oi := { dst := some 46, op := Go.Op.move (Go.Operand.tmp 45), type := 4, pos := "law.go:40", after := #[{ on := 6, ground := Go.Ground.data }, { on := 4, ground := Go.Ground.chain }, { on := 4, ground := Go.Ground.guard }], guard := some (4, false) }) (v := ?v7) rfl (by kernel_rfl) (by kernel_rfl) (by kernel_rfl) (fun _ _ _ h => h) (Or.inl ⟨by rfl, ?hy7⟩) (by assumption) ?rest7
        case hy7 => (intro w hSw; (try dsimp only at hSw); have ecx0 := hSw.cell cx0 id; have ecx1 := hSw.cell cx1 id; have ecx2 := hSw.cell cx2 id; have ecx3 := hSw.cell cx3 id; have ecx4 := hSw.cell cx4 id; have ecx5 := hSw.cell cx5 id; have ecx6 := hSw.cell cx6 id; have ecx7 := hSw.cell cx7 id; have ecx8 := hSw.cell cx8 id; have ecx9 := hSw.cell cx9 id; have ecx10 := hSw.cell cx10 id; have ecx11 := hSw.cell cx11 id; have ecx12 := hSw.cell cx12 id; have ecx13 := hSw.cell cx13 id; have ecx14 := hSw.cell cx14 id; have ecy0 := hSw.cell cy0 id; have ecy1 := hSw.cell cy1 id; have ecy2 := hSw.cell cy2 id; have ecy3 := hSw.cell cy3 id; have ecy4 := hSw.cell cy4 id; have z1 := Z1.out; have z2 := Z2.out; go_simp <;> with_reducible rfl)
        try simp only [Act.put, List.setIfInBounds_toArray, List.set_cons_zero, List.set_cons_succ]
        refine wpAnyH_take (i := 8) (oi := { dst := some 47, op := Go.Op.load 76 (Go.Operand.tmp 7), type := 76, pos := "law.go:40", after := #[{ on := 7, ground := Go.Ground.guard }], guard := some (7, true) }) (v := undef) rfl (by kernel_rfl) (by kernel_rfl) (by kernel_rfl) (fun _ _ _ h => h) (Or.inr ⟨by rfl, rfl⟩) (by assumption) ?rest8
        try simp only [Act.put, List.setIfInBounds_toArray, List.set_cons_zero, List.set_cons_succ]
        refine wpAnyH_take (i := 9) (oi := { dst := some 48, op := Go.Op.call { callee := Go.Callee.value (Go.Operand.func 37), args := #[Go.Operand.tmp 47], argTypes := #[76] }, type := 80, pos := "law.go:40", after := #[{ on := 8, ground := Go.Ground.data }, { on := 7, ground := Go.Ground.chain }, { on := 7, ground := Go.Ground.guard }], guard := some (7, true) }) (v := undef) rfl (by kernel_rfl) (by kernel_rfl) (by kernel_rfl) (fun _ _ _ h => h) (Or.inr ⟨by rfl, rfl⟩) (by assumption) ?rest9
        try simp only [Act.put, List.setIfInBounds_toArray, List.set_cons_zero, List.set_cons_succ]
        refine wpAnyH_take (i := 10) (oi := { dst := some 49, op := Go.Op.load 80 (Go.Operand.tmp 9), type := 80, pos := "law.go:40", after := #[{ on := 7, ground := Go.Ground.guard }], guard := some (7, true) }) (v := undef) rfl (by kernel_rfl) (by kernel_rfl) (by kernel_rfl) (fun _ _ _ h => h) (Or.inr ⟨by rfl, rfl⟩) (by assumption) ?rest10
        try simp only [Act.put, List.setIfInBounds_toArray, List.set_cons_zero, List.set_cons_succ]
        refine wpAnyH_take (i := 11) (oi := { dst := some 50, op := Go.Op.binOp Go.BinOp.neq 80 (Go.Operand.tmp 48) (Go.Operand.tmp 49) 80, type := 4, pos := "law.go:40", after := #[{ on := 9, ground := Go.Ground.data }, { on := 10, ground := Go.Ground.data }, { on := 7, ground := Go.Ground.guard }], guard := some (7, true) }) (v := undef) rfl (by kernel_rfl) (by kernel_rfl) (by kernel_rfl) (fun _ _ _ h => h) (Or.inr ⟨by rfl, rfl⟩) (by assumption) ?rest11
        try simp only [Act.put, List.setIfInBounds_toArray, List.set_cons_zero, List.set_cons_succ]
        refine wpAnyH_take (i := 12) (oi := { dst := some 51, op := Go.Op.pick (Go.Operand.tmp 46) (Go.Operand.tmp 50) (Go.Operand.const (Go.Value.bool false)), type := 4, pos := "law.go:40", after := #[{ on := 7, ground := Go.Ground.data }, { on := 11, ground := Go.Ground.data }, { on := 4, ground := Go.Ground.guard }], guard := some (4, false) }) (v := ?v12) rfl (by kernel_rfl) (by kernel_rfl) (by kernel_rfl) (fun _ _ _ h => h) (Or.inl ⟨by rfl, ?hy12⟩) (by assumption) ?rest12
        case hy12 => (intro w hSw; (try dsimp only at hSw); have ecx0 := hSw.cell cx0 id; have ecx1 := hSw.cell cx1 id; have ecx2 := hSw.cell cx2 id; have ecx3 := hSw.cell cx3 id; have ecx4 := hSw.cell cx4 id; have ecx5 := hSw.cell cx5 id; have ecx6 := hSw.cell cx6 id; have ecx7 := hSw.cell cx7 id; have ecx8 := hSw.cell cx8 id; have ecx9 := hSw.cell cx9 id; have ecx10 := hSw.cell cx10 id; have ecx11 := hSw.cell cx11 id; have ecx12 := hSw.cell cx12 id; have ecx13 := hSw.cell cx13 id; have ecx14 := hSw.cell cx14 id; have ecy0 := hSw.cell cy0 id; have ecy1 := hSw.cell cy1 id; have ecy2 := hSw.cell cy2 id; have ecy3 := hSw.cell cy3 id; have ecy4 := hSw.cell cy4 id; have z1 := Z1.out; have z2 := Z2.out; go_simp <;> with_reducible rfl)
        try simp only [Act.put, List.setIfInBounds_toArray, List.set_cons_zero, List.set_cons_succ]
        refine wpAnyH_take (i := 13) (oi := { dst := some 52, op := Go.Op.pick (Go.Operand.tmp 43) (Go.Operand.const (Go.Value.bool true)) (Go.Operand.tmp 51), type := 4, pos := "law.go:40", after := #[{ on := 4, ground := Go.Ground.data }, { on := 12, ground := Go.Ground.data }], guard := none }) (v := ?v13) rfl (by kernel_rfl) (by kernel_rfl) (by kernel_rfl) (fun _ _ _ h => h) (Or.inl ⟨by rfl, ?hy13⟩) (by assumption) ?rest13
        case hy13 => (intro w hSw; (try dsimp only at hSw); have ecx0 := hSw.cell cx0 id; have ecx1 := hSw.cell cx1 id; have ecx2 := hSw.cell cx2 id; have ecx3 := hSw.cell cx3 id; have ecx4 := hSw.cell cx4 id; have ecx5 := hSw.cell cx5 id; have ecx6 := hSw.cell cx6 id; have ecx7 := hSw.cell cx7 id; have ecx8 := hSw.cell cx8 id; have ecx9 := hSw.cell cx9 id; have ecx10 := hSw.cell cx10 id; have ecx11 := hSw.cell cx11 id; have ecx12 := hSw.cell cx12 id; have ecx13 := hSw.cell cx13 id; have ecx14 := hSw.cell cx14 id; have ecy0 := hSw.cell cy0 id; have ecy1 := hSw.cell cy1 id; have ecy2 := hSw.cell cy2 id; have ecy3 := hSw.cell cy3 id; have ecy4 := hSw.cell cy4 id; have z1 := Z1.out; have z2 := Z2.out; go_simp <;> with_reducible rfl)
        try simp only [Act.put, List.setIfInBounds_toArray, List.set_cons_zero, List.set_cons_succ]
        refine wpAnyH_take (i := 14) (oi := { dst := some 53, op := Go.Op.move (Go.Operand.tmp 52), type := 4, pos := "law.go:40", after := #[{ on := 13, ground := Go.Ground.data }, { on := 9, ground := Go.Ground.chain }], guard := none }) (v := ?v14) rfl (by kernel_rfl) (by kernel_rfl) (by kernel_rfl) (fun _ _ _ h => h) (Or.inl ⟨by rfl, ?hy14⟩) (by assumption) ?rest14
        case hy14 => (intro w hSw; (try dsimp only at hSw); have ecx0 := hSw.cell cx0 id; have ecx1 := hSw.cell cx1 id; have ecx2 := hSw.cell cx2 id; have ecx3 := hSw.cell cx3 id; have ecx4 := hSw.cell cx4 id; have ecx5 := hSw.cell cx5 id; have ecx6 := hSw.cell cx6 id; have ecx7 := hSw.cell cx7 id; have ecx8 := hSw.cell cx8 id; have ecx9 := hSw.cell cx9 id; have ecx10 := hSw.cell cx10 id; have ecx11 := hSw.cell cx11 id; have ecx12 := hSw.cell cx12 id; have ecx13 := hSw.cell cx13 id; have ecx14 := hSw.cell cx14 id; have ecy0 := hSw.cell cy0 id; have ecy1 := hSw.cell cy1 id; have ecy2 := hSw.cell cy2 id; have ecy3 := hSw.cell cy3 id; have ecy4 := hSw.cell cy4 id; have z1 := Z1.out; have z2 := Z2.out; go_simp <;> with_reducible rfl)
        try simp only [Act.put, List.setIfInBounds_toArray, List.set_cons_zero, List.set_cons_succ]
        refine wpAnyH_take (i := 15) (oi := { dst := some 54, op := Go.Op.move (Go.Operand.tmp 10), type := 9, pos := "law.go:40", after := #[{ on := 14, ground := Go.Ground.guard }], guard := some (14, false) }) (v := ?v15) rfl (by kernel_rfl) (by kernel_rfl) (by kernel_rfl) (fun _ _ _ h => h) (Or.inl ⟨by rfl, ?hy15⟩) (by assumption) ?rest15
        case hy15 => (intro w hSw; (try dsimp only at hSw); have ecx0 := hSw.cell cx0 id; have ecx1 := hSw.cell cx1 id; have ecx2 := hSw.cell cx2 id; have ecx3 := hSw.cell cx3 id; have ecx4 := hSw.cell cx4 id; have ecx5 := hSw.cell cx5 id; have ecx6 := hSw.cell cx6 id; have ecx7 := hSw.cell cx7 id; have ecx8 := hSw.cell cx8 id; have ecx9 := hSw.cell cx9 id; have ecx10 := hSw.cell cx10 id; have ecx11 := hSw.cell cx11 id; have ecx12 := hSw.cell cx12 id; have ecx13 := hSw.cell cx13 id; have ecx14 := hSw.cell cx14 id; have ecy0 := hSw.cell cy0 id; have ecy1 := hSw.cell cy1 id; have ecy2 := hSw.cell cy2 id; have ecy3 := hSw.cell cy3 id; have ecy4 := hSw.cell cy4 id; have z1 := Z1.out; have z2 := Z2.out; go_simp <;> with_reducible rfl)
        try simp only [Act.put, List.setIfInBounds_toArray, List.set_cons_zero, List.set_cons_succ]
        refine wpAnyH_take (i := 16) (oi := { dst := some 55, op := Go.Op.binOp Go.BinOp.neq 9 (Go.Operand.tmp 54) (Go.Operand.const (Go.Value.string { data := #[] })) 9, type := 4, pos := "law.go:40", after := #[{ on := 15, ground := Go.Ground.data }, { on := 14, ground := Go.Ground.guard }], guard := some (14, false) }) (v := ?v16) rfl (by kernel_rfl) (by kernel_rfl) (by kernel_rfl) (fun _ _ _ h => h) (Or.inl ⟨by rfl, ?hy16⟩) (by assumption) ?rest16
        case hy16 => (intro w hSw; (try dsimp only at hSw); have ecx0 := hSw.cell cx0 id; have ecx1 := hSw.cell cx1 id; have ecx2 := hSw.cell cx2 id; have ecx3 := hSw.cell cx3 id; have ecx4 := hSw.cell cx4 id; have ecx5 := hSw.cell cx5 id; have ecx6 := hSw.cell cx6 id; have ecx7 := hSw.cell cx7 id; have ecx8 := hSw.cell cx8 id; have ecx9 := hSw.cell cx9 id; have ecx10 := hSw.cell cx10 id; have ecx11 := hSw.cell cx11 id; have ecx12 := hSw.cell cx12 id; have ecx13 := hSw.cell cx13 id; have ecx14 := hSw.cell cx14 id; have ecy0 := hSw.cell cy0 id; have ecy1 := hSw.cell cy1 id; have ecy2 := hSw.cell cy2 id; have ecy3 := hSw.cell cy3 id; have ecy4 := hSw.cell cy4 id; have z1 := Z1.out; have z2 := Z2.out; go_simp <;> with_reducible rfl)
        try simp only [Act.put, List.setIfInBounds_toArray, List.set_cons_zero, List.set_cons_succ]
        refine wpAnyH_take (i := 17) (oi := { dst := some 56, op := Go.Op.move (Go.Operand.tmp 55), type := 4, pos := "law.go:40", after := #[{ on := 16, ground := Go.Ground.data }, { on := 14, ground := Go.Ground.chain }, { on := 14, ground := Go.Ground.guard }], guard := some (14, false) }) (v := ?v17) rfl (by kernel_rfl) (by kernel_rfl) (by kernel_rfl) (fun _ _ _ h => h) (Or.inl ⟨by rfl, ?hy17⟩) (by assumption) ?rest17
        case hy17 => (intro w hSw; (try dsimp only at hSw); have ecx0 := hSw.cell cx0 id; have ecx1 := hSw.cell cx1 id; have ecx2 := hSw.cell cx2 id; have ecx3 := hSw.cell cx3 id; have ecx4 := hSw.cell cx4 id; have ecx5 := hSw.cell cx5 id; have ecx6 := hSw.cell cx6 id; have ecx7 := hSw.cell cx7 id; have ecx8 := hSw.cell cx8 id; have ecx9 := hSw.cell cx9 id; have ecx10 := hSw.cell cx10 id; have ecx11 := hSw.cell cx11 id; have ecx12 := hSw.cell cx12 id; have ecx13 := hSw.cell cx13 id; have ecx14 := hSw.cell cx14 id; have ecy0 := hSw.cell cy0 id; have ecy1 := hSw.cell cy1 id; have ecy2 := hSw.cell cy2 id; have ecy3 := hSw.cell cy3 id; have ecy4 := hSw.cell cy4 id; have z1 := Z1.out; have z2 := Z2.out; go_simp <;> with_reducible rfl)
        try simp only [Act.put, List.setIfInBounds_toArray, List.set_cons_zero, List.set_cons_succ]
        refine wpAnyH_take (i := 18) (oi := { dst := some 57, op := Go.Op.load 76 (Go.Operand.tmp 7), type := 76, pos := "law.go:40", after := #[{ on := 17, ground := Go.Ground.guard }], guard := some (17, true) }) (v := ?v18) rfl (by kernel_rfl) (by kernel_rfl) (by kernel_rfl) (fun _ _ _ h => h) (Or.inl ⟨by rfl, ?hy18⟩) (by assumption) ?rest18
        case hy18 => (intro w hSw; (try dsimp only at hSw); have ecx0 := hSw.cell cx0 id; have ecx1 := hSw.cell cx1 id; have ecx2 := hSw.cell cx2 id; have ecx3 := hSw.cell cx3 id; have ecx4 := hSw.cell cx4 id; have ecx5 := hSw.cell cx5 id; have ecx6 := hSw.cell cx6 id; have ecx7 := hSw.cell cx7 id; have ecx8 := hSw.cell cx8 id; have ecx9 := hSw.cell cx9 id; have ecx10 := hSw.cell cx10 id; have ecx11 := hSw.cell cx11 id; have ecx12 := hSw.cell cx12 id; have ecx13 := hSw.cell cx13 id; have ecx14 := hSw.cell cx14 id; have ecy0 := hSw.cell cy0 id; have ecy1 := hSw.cell cy1 id; have ecy2 := hSw.cell cy2 id; have ecy3 := hSw.cell cy3 id; have ecy4 := hSw.cell cy4 id; have z1 := Z1.out; have z2 := Z2.out; go_simp <;> with_reducible rfl)
        try simp only [Act.put, List.setIfInBounds_toArray, List.set_cons_zero, List.set_cons_succ]
        refine wpAnyH_take (i := 20) (oi := { dst := some 59, op := Go.Op.build 76 #[], type := 76, pos := "law.go:40", after := #[{ on := 17, ground := Go.Ground.guard }], guard := some (17, true) }) (v := ?v19) rfl (by kernel_rfl) (by kernel_rfl) (by kernel_rfl) (fun _ _ _ h => h) (Or.inl ⟨by rfl, ?hy19⟩) (by assumption) ?rest19
        case hy19 => (intro w hSw; (try dsimp only at hSw); have ecx0 := hSw.cell cx0 id; have ecx1 := hSw.cell cx1 id; have ecx2 := hSw.cell cx2 id; have ecx3 := hSw.cell cx3 id; have ecx4 := hSw.cell cx4 id; have ecx5 := hSw.cell cx5 id; have ecx6 := hSw.cell cx6 id; have ecx7 := hSw.cell cx7 id; have ecx8 := hSw.cell cx8 id; have ecx9 := hSw.cell cx9 id; have ecx10 := hSw.cell cx10 id; have ecx11 := hSw.cell cx11 id; have ecx12 := hSw.cell cx12 id; have ecx13 := hSw.cell cx13 id; have ecx14 := hSw.cell cx14 id; have ecy0 := hSw.cell cy0 id; have ecy1 := hSw.cell cy1 id; have ecy2 := hSw.cell cy2 id; have ecy3 := hSw.cell cy3 id; have ecy4 := hSw.cell cy4 id; have z1 := Z1.out; have z2 := Z2.out; go_simp <;> with_reducible rfl)
        try simp only [Act.put, List.setIfInBounds_toArray, List.set_cons_zero, List.set_cons_succ]
        refine wpAnyH_ready (rs := [19]) (by kernel_rfl) (by simp) ?_
        refine AllReadyH.cons (o := { dst := some 58, op := Go.Op.call { callee := Go.Callee.value (Go.Operand.func 37), args := #[Go.Operand.tmp 57], argTypes := #[76] }, type := 80, pos := "law.go:40", after := #[{ on := 18, ground := Go.Ground.data }, { on := 17, ground := Go.Ground.chain }, { on := 17, ground := Go.Ground.guard }], guard := some (17, true) }) rfl (fun K hK => ?_) AllReadyH.nil
        go_simp
        refine (of_any _ (⟨[qd0, qd1, qd2, qd3, qd4, qd5], [qs0, qs1, qs2, qs3, qs4, qs5], qvl, qty, qb⟩ : Fr) A4 qb.length qb.length _ OKQ.out (HB4.out.keep hS1 (fun _ _ _ => id))).mono ?_
        rintro e w9 ⟨rfl, hx⟩
        have hS2 := hS1.trans hx
        clear hx
        refine hK.out _ _ hS2 (fun _ => ?_)
        refine wpAnyH_ready (rs := [21]) (by kernel_rfl) (by simp) ?_
        refine AllReadyH.cons (o := { dst := some 60, op := Go.Op.call { callee := Go.Callee.value (Go.Operand.func 37), args := #[Go.Operand.tmp 59], argTypes := #[76] }, type := 80, pos := "law.go:40", after := #[{ on := 20, ground := Go.Ground.data }, { on := 19, ground := Go.Ground.chain }, { on := 17, ground := Go.Ground.guard }], guard := some (17, true) }) rfl (fun K hK => ?_) AllReadyH.nil
        go_simp
        refine (of_any (fun _ => True) zf none 0 0 _ zf_ok (RB.nil _ _)).mono ?_
        rintro e w10 ⟨rfl, hx⟩
        have hS3 := hS2.trans hx
        clear hx
        refine hK.out _ _ hS3 (fun _ => ?_)
        refine wpAnyH_take (i := 22) (oi := { dst := some 61, op := Go.Op.binOp Go.BinOp.neq 80 (Go.Operand.tmp 58) (Go.Operand.tmp 60) 80, type := 4, pos := "law.go:40", after := #[{ on := 19, ground := Go.Ground.data }, { on := 21, ground := Go.Ground.data }, { on := 17, ground := Go.Ground.guard }], guard := some (17, true) }) (v := ?v20) rfl (by kernel_rfl) (by kernel_rfl) (by kernel_rfl) (fun _ _ _ h => h) (Or.inl ⟨by rfl, ?hy20⟩) (by assumption) ?rest20
        case hy20 => (intro w hSw; (try dsimp only at hSw); have ecx0 := hSw.cell cx0 id; have ecx1 := hSw.cell cx1 id; have ecx2 := hSw.cell cx2 id; have ecx3 := hSw.cell cx3 id; have ecx4 := hSw.cell cx4 id; have ecx5 := hSw.cell cx5 id; have ecx6 := hSw.cell cx6 id; have ecx7 := hSw.cell cx7 id; have ecx8 := hSw.cell cx8 id; have ecx9 := hSw.cell cx9 id; have ecx10 := hSw.cell cx10 id; have ecx11 := hSw.cell cx11 id; have ecx12 := hSw.cell cx12 id; have ecx13 := hSw.cell cx13 id; have ecx14 := hSw.cell cx14 id; have ecy0 := hSw.cell cy0 id; have ecy1 := hSw.cell cy1 id; have ecy2 := hSw.cell cy2 id; have ecy3 := hSw.cell cy3 id; have ecy4 := hSw.cell cy4 id; have z1 := Z1.out; have z2 := Z2.out; go_simp <;> with_reducible rfl)
        try simp only [Act.put, List.setIfInBounds_toArray, List.set_cons_zero, List.set_cons_succ]
        refine wpAnyH_take (i := 23) (oi := { dst := some 62, op := Go.Op.pick (Go.Operand.tmp 56) (Go.Operand.tmp 61) (Go.Operand.const (Go.Value.bool false)), type := 4, pos := "law.go:40", after := #[{ on := 17, ground := Go.Ground.data }, { on := 22, ground := Go.Ground.data }, { on := 14, ground := Go.Ground.guard }], guard := some (14, false) }) (v := ?v21) rfl (by kernel_rfl) (by kernel_rfl) (by kernel_rfl) (fun _ _ _ h => h) (Or.inl ⟨by rfl, ?hy21⟩) (by assumption) ?rest21
        case hy21 => (intro w hSw; (try dsimp only at hSw); have ecx0 := hSw.cell cx0 id; have ecx1 := hSw.cell cx1 id; have ecx2 := hSw.cell cx2 id; have ecx3 := hSw.cell cx3 id; have ecx4 := hSw.cell cx4 id; have ecx5 := hSw.cell cx5 id; have ecx6 := hSw.cell cx6 id; have ecx7 := hSw.cell cx7 id; have ecx8 := hSw.cell cx8 id; have ecx9 := hSw.cell cx9 id; have ecx10 := hSw.cell cx10 id; have ecx11 := hSw.cell cx11 id; have ecx12 := hSw.cell cx12 id; have ecx13 := hSw.cell cx13 id; have ecx14 := hSw.cell cx14 id; have ecy0 := hSw.cell cy0 id; have ecy1 := hSw.cell cy1 id; have ecy2 := hSw.cell cy2 id; have ecy3 := hSw.cell cy3 id; have ecy4 := hSw.cell cy4 id; have z1 := Z1.out; have z2 := Z2.out; go_simp <;> with_reducible rfl)
        try simp only [Act.put, List.setIfInBounds_toArray, List.set_cons_zero, List.set_cons_succ]
        refine wpAnyH_take (i := 24) (oi := { dst := some 63, op := Go.Op.pick (Go.Operand.tmp 53) (Go.Operand.const (Go.Value.bool true)) (Go.Operand.tmp 62), type := 4, pos := "law.go:40", after := #[{ on := 14, ground := Go.Ground.data }, { on := 23, ground := Go.Ground.data }], guard := none }) (v := ?v22) rfl (by kernel_rfl) (by kernel_rfl) (by kernel_rfl) (fun _ _ _ h => h) (Or.inl ⟨by rfl, ?hy22⟩) (by assumption) ?rest22
        case hy22 => (intro w hSw; (try dsimp only at hSw); have ecx0 := hSw.cell cx0 id; have ecx1 := hSw.cell cx1 id; have ecx2 := hSw.cell cx2 id; have ecx3 := hSw.cell cx3 id; have ecx4 := hSw.cell cx4 id; have ecx5 := hSw.cell cx5 id; have ecx6 := hSw.cell cx6 id; have ecx7 := hSw.cell cx7 id; have ecx8 := hSw.cell cx8 id; have ecx9 := hSw.cell cx9 id; have ecx10 := hSw.cell cx10 id; have ecx11 := hSw.cell cx11 id; have ecx12 := hSw.cell cx12 id; have ecx13 := hSw.cell cx13 id; have ecx14 := hSw.cell cx14 id; have ecy0 := hSw.cell cy0 id; have ecy1 := hSw.cell cy1 id; have ecy2 := hSw.cell cy2 id; have ecy3 := hSw.cell cy3 id; have ecy4 := hSw.cell cy4 id; have z1 := Z1.out; have z2 := Z2.out; go_simp <;> with_reducible rfl)
        try simp only [Act.put, List.setIfInBounds_toArray, List.set_cons_zero, List.set_cons_succ]
        refine wpAnyH_done (by kernel_rfl) ?_ _
        go_wp2_with fail
        go_meet
        exact ⟨rfl, Lib.hid hS3⟩
      | true =>
        replace B_xb0 := Lib.hid (((HX_w6.out.trans HX_w7.out).block xb0 (row_lt B_xb0.out) id).trans B_xb0.out)
        have cx0 := row_cell (k := 0) (v := .int .u8 (qd0.toNat : Int)) B_xb0.out rfl
        have cx1 := row_cell (k := 1) (v := .int .u8 (qd1.toNat : Int)) B_xb0.out rfl
        have cx2 := row_cell (k := 2) (v := .int .u8 (qd2.toNat : Int)) B_xb0.out rfl
        have cx3 := row_cell (k := 3) (v := .int .u8 (qd3.toNat : Int)) B_xb0.out rfl
        have cx4 := row_cell (k := 4) (v := .int .u8 (qd4.toNat : Int)) B_xb0.out rfl
        have cx5 := row_cell (k := 5) (v := .int .u8 (qd5.toNat : Int)) B_xb0.out rfl
        have cx6 := row_cell (k := 6) (v := .int .u8 (qs0.toNat : Int)) B_xb0.out rfl
        have cx7 := row_cell (k := 7) (v := .int .u8 (qs1.toNat : Int)) B_xb0.out rfl
        have cx8 := row_cell (k := 8) (v := .int .u8 (qs2.toNat : Int)) B_xb0.out rfl
        have cx9 := row_cell (k := 9) (v := .int .u8 (qs3.toNat : Int)) B_xb0.out rfl
        have cx10 := row_cell (k := 10) (v := .int .u8 (qs4.toNat : Int)) B_xb0.out rfl
        have cx11 := row_cell (k := 11) (v := .int .u8 (qs5.toNat : Int)) B_xb0.out rfl
        have cx12 := row_cell (k := 12) (v := .int .i64 qvl) B_xb0.out rfl
        have cx13 := row_cell (k := 13) (v := .int .u16 (qty : Int)) B_xb0.out rfl
        have cx14 := row_cell (k := 14) (v := .slice A4 qb.length qb.length) B_xb0.out rfl
        have cy0 := row_cell (k := 0) (v := .string y0) B_yb.out rfl
        have cy1 := row_cell (k := 1) (v := .string y1) B_yb.out rfl
        have cy2 := row_cell (k := 2) (v := .int .i64 y2) B_yb.out rfl
        have cy3 := row_cell (k := 3) (v := .int .u32 y3) B_yb.out rfl
        have cy4 := row_cell (k := 4) (v := .string y4) B_yb.out rfl
        obtain rfl : T = ⟨#[]⟩ := HYS.out.1 rfl
        have e1 := HYR.out rfl
        have z1 : ∀ w, (binOp .neq 80 (rfv (⟨[qd0, qd1, qd2, qd3, qd4, qd5], [qs0, qs1, qs2, qs3, qs4, qs5], qvl, qty, qb⟩ : Fr)) (.agg #[.string y0, .string y1, .int .i64 y2, .int .u32 y3, .string y4])).run Tryd.prog w = .ok (.bool false) w := fun w => by rw [e1]; exact rfv_neq (⟨[qd0, qd1, qd2, qd3, qd4, qd5], [qs0, qs1, qs2, qs3, qs4, qs5], qvl, qty, qb⟩ : Fr) w
        have z2 : ∀ w, (eqGuard .neq 80 (.tmp 48) (.tmp 49) (rfv (⟨[qd0, qd1, qd2, qd3, qd4, qd5], [qs0, qs1, qs2, qs3, qs4, qs5], qvl, qty, qb⟩ : Fr)) (.agg #[.string y0, .string y1, .int .i64 y2, .int .u32 y3, .string y4])).run Tryd.prog w = .ok () w := fun w => by rw [e1]; exact rfv_guard .neq (.tmp 48) (.tmp 49) (⟨[qd0, qd1, qd2, qd3, qd4, qd5], [qs0, qs1, qs2, qs3, qs4, qs5], qvl, qty, qb⟩ : Fr) (⟨[qd0, qd1, qd2, qd3, qd4, qd5], [qs0, qs1, qs2, qs3, qs4, qs5], qvl, qty, qb⟩ : Fr) w
        have Z1 := Lib.hid z1
        have Z2 := Lib.hid z2
        clear z1 z2 e1
        have hS0 : Ex (fun _ => False) w7 w7.drew := (Ex.refl _ w7).drew
        refine wp_region_held_drew (S := fun W => Ex (fun _ => False) w7 W) (by kernel_rfl) hS0 (fun _ => ?_)
        refine wpAnyH_take (i := 0) (oi := { dst := some 39, op := Go.Op.move (Go.Operand.tmp 8), type := 28, pos := "law.go:40", after := #[], guard := none }) (v := ?v23) rfl (by kernel_rfl) (by kernel_rfl) (by kernel_rfl) (fun _ _ _ h => h) (Or.inl ⟨by rfl, ?hy23⟩) (by assumption) ?rest23
        case hy23 => (intro w hSw; (try dsimp only at hSw); have ecx0 := hSw.cell cx0 id; have ecx1 := hSw.cell cx1 id; have ecx2 := hSw.cell cx2 id; have ecx3 := hSw.cell cx3 id; have ecx4 := hSw.cell cx4 id; have ecx5 := hSw.cell cx5 id; have ecx6 := hSw.cell cx6 id; have ecx7 := hSw.cell cx7 id; have ecx8 := hSw.cell cx8 id; have ecx9 := hSw.cell cx9 id; have ecx10 := hSw.cell cx10 id; have ecx11 := hSw.cell cx11 id; have ecx12 := hSw.cell cx12 id; have ecx13 := hSw.cell cx13 id; have ecx14 := hSw.cell cx14 id; have ecy0 := hSw.cell cy0 id; have ecy1 := hSw.cell cy1 id; have ecy2 := hSw.cell cy2 id; have ecy3 := hSw.cell cy3 id; have ecy4 := hSw.cell cy4 id; have z1 := Z1.out; have z2 := Z2.out; go_simp <;> with_reducible rfl)
        try simp only [Act.put, List.setIfInBounds_toArray, List.set_cons_zero, List.set_cons_succ]
        refine wpAnyH_take (i := 2) (oi := { dst := some 41, op := Go.Op.move (Go.Operand.tmp 10), type := 9, pos := "law.go:40", after := #[], guard := none }) (v := ?v24) rfl (by kernel_rfl) (by kernel_rfl) (by kernel_rfl) (fun _ _ _ h => h) (Or.inl ⟨by rfl, ?hy24⟩) (by assumption) ?rest24
        case hy24 => (intro w hSw; (try dsimp only at hSw); have ecx0 := hSw.cell cx0 id; have ecx1 := hSw.cell cx1 id; have ecx2 := hSw.cell cx2 id; have ecx3 := hSw.cell cx3 id; have ecx4 := hSw.cell cx4 id; have ecx5 := hSw.cell cx5 id; have ecx6 := hSw.cell cx6 id; have ecx7 := hSw.cell cx7 id; have ecx8 := hSw.cell cx8 id; have ecx9 := hSw.cell cx9 id; have ecx10 := hSw.cell cx10 id; have ecx11 := hSw.cell cx11 id; have ecx12 := hSw.cell cx12 id; have ecx13 := hSw.cell cx13 id; have ecx14 := hSw.cell cx14 id; have ecy0 := hSw.cell cy0 id; have ecy1 := hSw.cell cy1 id; have ecy2 := hSw.cell cy2 id; have ecy3 := hSw.cell cy3 id; have ecy4 := hSw.cell cy4 id; have z1 := Z1.out; have z2 := Z2.out; go_simp <;> with_reducible rfl)
        try simp only [Act.put, List.setIfInBounds_toArray, List.set_cons_zero, List.set_cons_succ]
        refine wpAnyH_ready (rs := [1]) (by kernel_rfl) (by simp) ?_
        refine AllReadyH.cons (o := { dst := some 40, op := Go.Op.call { callee := Go.Callee.value (Go.Operand.func 36), args := #[Go.Operand.tmp 39], argTypes := #[28] }, type := 9, pos := "law.go:40", after := #[{ on := 0, ground := Go.Ground.data }], guard := none }) rfl (fun K hK => ?_) AllReadyH.nil
        go_simp
        refine (told3_tv (TV4.out.keep hS0)).mono ?_
        rintro e w8 ⟨rfl, hx⟩
        have hS1 := hS0.trans hx
        clear hx
        refine hK.out _ _ hS1 (fun _ => ?_)
        refine wpAnyH_take (i := 3) (oi := { dst := some 42, op := Go.Op.binOp Go.BinOp.neq 9 (Go.Operand.tmp 40) (Go.Operand.tmp 41) 9, type := 4, pos := "law.go:40", after := #[{ on := 1, ground := Go.Ground.data }, { on := 2, ground := Go.Ground.data }], guard := none }) (v := ?v25) rfl (by kernel_rfl) (by kernel_rfl) (by kernel_rfl) (fun _ _ _ h => h) (Or.inl ⟨by rfl, ?hy25⟩) (by assumption) ?rest25
        case hy25 => (intro w hSw; (try dsimp only at hSw); have ecx0 := hSw.cell cx0 id; have ecx1 := hSw.cell cx1 id; have ecx2 := hSw.cell cx2 id; have ecx3 := hSw.cell cx3 id; have ecx4 := hSw.cell cx4 id; have ecx5 := hSw.cell cx5 id; have ecx6 := hSw.cell cx6 id; have ecx7 := hSw.cell cx7 id; have ecx8 := hSw.cell cx8 id; have ecx9 := hSw.cell cx9 id; have ecx10 := hSw.cell cx10 id; have ecx11 := hSw.cell cx11 id; have ecx12 := hSw.cell cx12 id; have ecx13 := hSw.cell cx13 id; have ecx14 := hSw.cell cx14 id; have ecy0 := hSw.cell cy0 id; have ecy1 := hSw.cell cy1 id; have ecy2 := hSw.cell cy2 id; have ecy3 := hSw.cell cy3 id; have ecy4 := hSw.cell cy4 id; have z1 := Z1.out; have z2 := Z2.out; go_simp <;> with_reducible rfl)
        try simp only [Act.put, List.setIfInBounds_toArray, List.set_cons_zero, List.set_cons_succ]
        refine wpAnyH_take (i := 4) (oi := { dst := some 43, op := Go.Op.move (Go.Operand.tmp 42), type := 4, pos := "law.go:40", after := #[{ on := 3, ground := Go.Ground.data }, { on := 1, ground := Go.Ground.chain }], guard := none }) (v := ?v26) rfl (by kernel_rfl) (by kernel_rfl) (by kernel_rfl) (fun _ _ _ h => h) (Or.inl ⟨by rfl, ?hy26⟩) (by assumption) ?rest26
        case hy26 => (intro w hSw; (try dsimp only at hSw); have ecx0 := hSw.cell cx0 id; have ecx1 := hSw.cell cx1 id; have ecx2 := hSw.cell cx2 id; have ecx3 := hSw.cell cx3 id; have ecx4 := hSw.cell cx4 id; have ecx5 := hSw.cell cx5 id; have ecx6 := hSw.cell cx6 id; have ecx7 := hSw.cell cx7 id; have ecx8 := hSw.cell cx8 id; have ecx9 := hSw.cell cx9 id; have ecx10 := hSw.cell cx10 id; have ecx11 := hSw.cell cx11 id; have ecx12 := hSw.cell cx12 id; have ecx13 := hSw.cell cx13 id; have ecx14 := hSw.cell cx14 id; have ecy0 := hSw.cell cy0 id; have ecy1 := hSw.cell cy1 id; have ecy2 := hSw.cell cy2 id; have ecy3 := hSw.cell cy3 id; have ecy4 := hSw.cell cy4 id; have z1 := Z1.out; have z2 := Z2.out; go_simp <;> with_reducible rfl)
        try simp only [Act.put, List.setIfInBounds_toArray, List.set_cons_zero, List.set_cons_succ]
        refine wpAnyH_take (i := 5) (oi := { dst := some 44, op := Go.Op.move (Go.Operand.tmp 10), type := 9, pos := "law.go:40", after := #[{ on := 4, ground := Go.Ground.guard }], guard := some (4, false) }) (v := ?v27) rfl (by kernel_rfl) (by kernel_rfl) (by kernel_rfl) (fun _ _ _ h => h) (Or.inl ⟨by rfl, ?hy27⟩) (by assumption) ?rest27
        case hy27 => (intro w hSw; (try dsimp only at hSw); have ecx0 := hSw.cell cx0 id; have ecx1 := hSw.cell cx1 id; have ecx2 := hSw.cell cx2 id; have ecx3 := hSw.cell cx3 id; have ecx4 := hSw.cell cx4 id; have ecx5 := hSw.cell cx5 id; have ecx6 := hSw.cell cx6 id; have ecx7 := hSw.cell cx7 id; have ecx8 := hSw.cell cx8 id; have ecx9 := hSw.cell cx9 id; have ecx10 := hSw.cell cx10 id; have ecx11 := hSw.cell cx11 id; have ecx12 := hSw.cell cx12 id; have ecx13 := hSw.cell cx13 id; have ecx14 := hSw.cell cx14 id; have ecy0 := hSw.cell cy0 id; have ecy1 := hSw.cell cy1 id; have ecy2 := hSw.cell cy2 id; have ecy3 := hSw.cell cy3 id; have ecy4 := hSw.cell cy4 id; have z1 := Z1.out; have z2 := Z2.out; go_simp <;> with_reducible rfl)
        try simp only [Act.put, List.setIfInBounds_toArray, List.set_cons_zero, List.set_cons_succ]
        refine wpAnyH_take (i := 6) (oi := { dst := some 45, op := Go.Op.binOp Go.BinOp.eql 9 (Go.Operand.tmp 44) (Go.Operand.const (Go.Value.string { data := #[] })) 9, type := 4, pos := "law.go:40", after := #[{ on := 5, ground := Go.Ground.data }, { on := 4, ground := Go.Ground.guard }], guard := some (4, false) }) (v := ?v28) rfl (by kernel_rfl) (by kernel_rfl) (by kernel_rfl) (fun _ _ _ h => h) (Or.inl ⟨by rfl, ?hy28⟩) (by assumption) ?rest28
        case hy28 => (intro w hSw; (try dsimp only at hSw); have ecx0 := hSw.cell cx0 id; have ecx1 := hSw.cell cx1 id; have ecx2 := hSw.cell cx2 id; have ecx3 := hSw.cell cx3 id; have ecx4 := hSw.cell cx4 id; have ecx5 := hSw.cell cx5 id; have ecx6 := hSw.cell cx6 id; have ecx7 := hSw.cell cx7 id; have ecx8 := hSw.cell cx8 id; have ecx9 := hSw.cell cx9 id; have ecx10 := hSw.cell cx10 id; have ecx11 := hSw.cell cx11 id; have ecx12 := hSw.cell cx12 id; have ecx13 := hSw.cell cx13 id; have ecx14 := hSw.cell cx14 id; have ecy0 := hSw.cell cy0 id; have ecy1 := hSw.cell cy1 id; have ecy2 := hSw.cell cy2 id; have ecy3 := hSw.cell cy3 id; have ecy4 := hSw.cell cy4 id; have z1 := Z1.out; have z2 := Z2.out; go_simp <;> with_reducible rfl)
        try simp only [Act.put, List.setIfInBounds_toArray, List.set_cons_zero, List.set_cons_succ]
        refine wpAnyH_take (i := 7) (oi := { dst := some 46, op := Go.Op.move (Go.Operand.tmp 45), type := 4, pos := "law.go:40", after := #[{ on := 6, ground := Go.Ground.data }, { on := 4, ground := Go.Ground.chain }, { on := 4, ground := Go.Ground.guard }], guard := some (4, false) }) (v := ?v29) rfl (by kernel_rfl) (by kernel_rfl) (by kernel_rfl) (fun _ _ _ h => h) (Or.inl ⟨by rfl, ?hy29⟩) (by assumption) ?rest29
        case hy29 => (intro w hSw; (try dsimp only at hSw); have ecx0 := hSw.cell cx0 id; have ecx1 := hSw.cell cx1 id; have ecx2 := hSw.cell cx2 id; have ecx3 := hSw.cell cx3 id; have ecx4 := hSw.cell cx4 id; have ecx5 := hSw.cell cx5 id; have ecx6 := hSw.cell cx6 id; have ecx7 := hSw.cell cx7 id; have ecx8 := hSw.cell cx8 id; have ecx9 := hSw.cell cx9 id; have ecx10 := hSw.cell cx10 id; have ecx11 := hSw.cell cx11 id; have ecx12 := hSw.cell cx12 id; have ecx13 := hSw.cell cx13 id; have ecx14 := hSw.cell cx14 id; have ecy0 := hSw.cell cy0 id; have ecy1 := hSw.cell cy1 id; have ecy2 := hSw.cell cy2 id; have ecy3 := hSw.cell cy3 id; have ecy4 := hSw.cell cy4 id; have z1 := Z1.out; have z2 := Z2.out; go_simp <;> with_reducible rfl)
        try simp only [Act.put, List.setIfInBounds_toArray, List.set_cons_zero, List.set_cons_succ]
        refine wpAnyH_take (i := 8) (oi := { dst := some 47, op := Go.Op.load 76 (Go.Operand.tmp 7), type := 76, pos := "law.go:40", after := #[{ on := 7, ground := Go.Ground.guard }], guard := some (7, true) }) (v := ?v30) rfl (by kernel_rfl) (by kernel_rfl) (by kernel_rfl) (fun _ _ _ h => h) (Or.inl ⟨by rfl, ?hy30⟩) (by assumption) ?rest30
        case hy30 => (intro w hSw; (try dsimp only at hSw); have ecx0 := hSw.cell cx0 id; have ecx1 := hSw.cell cx1 id; have ecx2 := hSw.cell cx2 id; have ecx3 := hSw.cell cx3 id; have ecx4 := hSw.cell cx4 id; have ecx5 := hSw.cell cx5 id; have ecx6 := hSw.cell cx6 id; have ecx7 := hSw.cell cx7 id; have ecx8 := hSw.cell cx8 id; have ecx9 := hSw.cell cx9 id; have ecx10 := hSw.cell cx10 id; have ecx11 := hSw.cell cx11 id; have ecx12 := hSw.cell cx12 id; have ecx13 := hSw.cell cx13 id; have ecx14 := hSw.cell cx14 id; have ecy0 := hSw.cell cy0 id; have ecy1 := hSw.cell cy1 id; have ecy2 := hSw.cell cy2 id; have ecy3 := hSw.cell cy3 id; have ecy4 := hSw.cell cy4 id; have z1 := Z1.out; have z2 := Z2.out; go_simp <;> with_reducible rfl)
        try simp only [Act.put, List.setIfInBounds_toArray, List.set_cons_zero, List.set_cons_succ]
        refine wpAnyH_take (i := 10) (oi := { dst := some 49, op := Go.Op.load 80 (Go.Operand.tmp 9), type := 80, pos := "law.go:40", after := #[{ on := 7, ground := Go.Ground.guard }], guard := some (7, true) }) (v := ?v31) rfl (by kernel_rfl) (by kernel_rfl) (by kernel_rfl) (fun _ _ _ h => h) (Or.inl ⟨by rfl, ?hy31⟩) (by assumption) ?rest31
        case hy31 => (intro w hSw; (try dsimp only at hSw); have ecx0 := hSw.cell cx0 id; have ecx1 := hSw.cell cx1 id; have ecx2 := hSw.cell cx2 id; have ecx3 := hSw.cell cx3 id; have ecx4 := hSw.cell cx4 id; have ecx5 := hSw.cell cx5 id; have ecx6 := hSw.cell cx6 id; have ecx7 := hSw.cell cx7 id; have ecx8 := hSw.cell cx8 id; have ecx9 := hSw.cell cx9 id; have ecx10 := hSw.cell cx10 id; have ecx11 := hSw.cell cx11 id; have ecx12 := hSw.cell cx12 id; have ecx13 := hSw.cell cx13 id; have ecx14 := hSw.cell cx14 id; have ecy0 := hSw.cell cy0 id; have ecy1 := hSw.cell cy1 id; have ecy2 := hSw.cell cy2 id; have ecy3 := hSw.cell cy3 id; have ecy4 := hSw.cell cy4 id; have z1 := Z1.out; have z2 := Z2.out; go_simp <;> with_reducible rfl)
        try simp only [Act.put, List.setIfInBounds_toArray, List.set_cons_zero, List.set_cons_succ]
        refine wpAnyH_ready (rs := [9]) (by kernel_rfl) (by simp) ?_
        refine AllReadyH.cons (o := { dst := some 48, op := Go.Op.call { callee := Go.Callee.value (Go.Operand.func 37), args := #[Go.Operand.tmp 47], argTypes := #[76] }, type := 80, pos := "law.go:40", after := #[{ on := 8, ground := Go.Ground.data }, { on := 7, ground := Go.Ground.chain }, { on := 7, ground := Go.Ground.guard }], guard := some (7, true) }) rfl (fun K hK => ?_) AllReadyH.nil
        go_simp
        refine (of_any _ (⟨[qd0, qd1, qd2, qd3, qd4, qd5], [qs0, qs1, qs2, qs3, qs4, qs5], qvl, qty, qb⟩ : Fr) A4 qb.length qb.length _ OKQ.out (HB4.out.keep hS1 (fun _ _ _ => id))).mono ?_
        rintro e w9 ⟨rfl, hx⟩
        have hS2 := hS1.trans hx
        clear hx
        refine hK.out _ _ hS2 (fun _ => ?_)
        refine wpAnyH_take (i := 11) (oi := { dst := some 50, op := Go.Op.binOp Go.BinOp.neq 80 (Go.Operand.tmp 48) (Go.Operand.tmp 49) 80, type := 4, pos := "law.go:40", after := #[{ on := 9, ground := Go.Ground.data }, { on := 10, ground := Go.Ground.data }, { on := 7, ground := Go.Ground.guard }], guard := some (7, true) }) (v := ?v32) rfl (by kernel_rfl) (by kernel_rfl) (by kernel_rfl) (fun _ _ _ h => h) (Or.inl ⟨by rfl, ?hy32⟩) (by assumption) ?rest32
        case hy32 => (intro w hSw; (try dsimp only at hSw); have ecx0 := hSw.cell cx0 id; have ecx1 := hSw.cell cx1 id; have ecx2 := hSw.cell cx2 id; have ecx3 := hSw.cell cx3 id; have ecx4 := hSw.cell cx4 id; have ecx5 := hSw.cell cx5 id; have ecx6 := hSw.cell cx6 id; have ecx7 := hSw.cell cx7 id; have ecx8 := hSw.cell cx8 id; have ecx9 := hSw.cell cx9 id; have ecx10 := hSw.cell cx10 id; have ecx11 := hSw.cell cx11 id; have ecx12 := hSw.cell cx12 id; have ecx13 := hSw.cell cx13 id; have ecx14 := hSw.cell cx14 id; have ecy0 := hSw.cell cy0 id; have ecy1 := hSw.cell cy1 id; have ecy2 := hSw.cell cy2 id; have ecy3 := hSw.cell cy3 id; have ecy4 := hSw.cell cy4 id; have z1 := Z1.out; have z2 := Z2.out; go_simp <;> with_reducible rfl)
        try simp only [Act.put, List.setIfInBounds_toArray, List.set_cons_zero, List.set_cons_succ]
        refine wpAnyH_take (i := 12) (oi := { dst := some 51, op := Go.Op.pick (Go.Operand.tmp 46) (Go.Operand.tmp 50) (Go.Operand.const (Go.Value.bool false)), type := 4, pos := "law.go:40", after := #[{ on := 7, ground := Go.Ground.data }, { on := 11, ground := Go.Ground.data }, { on := 4, ground := Go.Ground.guard }], guard := some (4, false) }) (v := ?v33) rfl (by kernel_rfl) (by kernel_rfl) (by kernel_rfl) (fun _ _ _ h => h) (Or.inl ⟨by rfl, ?hy33⟩) (by assumption) ?rest33
        case hy33 => (intro w hSw; (try dsimp only at hSw); have ecx0 := hSw.cell cx0 id; have ecx1 := hSw.cell cx1 id; have ecx2 := hSw.cell cx2 id; have ecx3 := hSw.cell cx3 id; have ecx4 := hSw.cell cx4 id; have ecx5 := hSw.cell cx5 id; have ecx6 := hSw.cell cx6 id; have ecx7 := hSw.cell cx7 id; have ecx8 := hSw.cell cx8 id; have ecx9 := hSw.cell cx9 id; have ecx10 := hSw.cell cx10 id; have ecx11 := hSw.cell cx11 id; have ecx12 := hSw.cell cx12 id; have ecx13 := hSw.cell cx13 id; have ecx14 := hSw.cell cx14 id; have ecy0 := hSw.cell cy0 id; have ecy1 := hSw.cell cy1 id; have ecy2 := hSw.cell cy2 id; have ecy3 := hSw.cell cy3 id; have ecy4 := hSw.cell cy4 id; have z1 := Z1.out; have z2 := Z2.out; go_simp <;> with_reducible rfl)
        try simp only [Act.put, List.setIfInBounds_toArray, List.set_cons_zero, List.set_cons_succ]
        refine wpAnyH_take (i := 13) (oi := { dst := some 52, op := Go.Op.pick (Go.Operand.tmp 43) (Go.Operand.const (Go.Value.bool true)) (Go.Operand.tmp 51), type := 4, pos := "law.go:40", after := #[{ on := 4, ground := Go.Ground.data }, { on := 12, ground := Go.Ground.data }], guard := none }) (v := ?v34) rfl (by kernel_rfl) (by kernel_rfl) (by kernel_rfl) (fun _ _ _ h => h) (Or.inl ⟨by rfl, ?hy34⟩) (by assumption) ?rest34
        case hy34 => (intro w hSw; (try dsimp only at hSw); have ecx0 := hSw.cell cx0 id; have ecx1 := hSw.cell cx1 id; have ecx2 := hSw.cell cx2 id; have ecx3 := hSw.cell cx3 id; have ecx4 := hSw.cell cx4 id; have ecx5 := hSw.cell cx5 id; have ecx6 := hSw.cell cx6 id; have ecx7 := hSw.cell cx7 id; have ecx8 := hSw.cell cx8 id; have ecx9 := hSw.cell cx9 id; have ecx10 := hSw.cell cx10 id; have ecx11 := hSw.cell cx11 id; have ecx12 := hSw.cell cx12 id; have ecx13 := hSw.cell cx13 id; have ecx14 := hSw.cell cx14 id; have ecy0 := hSw.cell cy0 id; have ecy1 := hSw.cell cy1 id; have ecy2 := hSw.cell cy2 id; have ecy3 := hSw.cell cy3 id; have ecy4 := hSw.cell cy4 id; have z1 := Z1.out; have z2 := Z2.out; go_simp <;> with_reducible rfl)
        try simp only [Act.put, List.setIfInBounds_toArray, List.set_cons_zero, List.set_cons_succ]
        refine wpAnyH_take (i := 14) (oi := { dst := some 53, op := Go.Op.move (Go.Operand.tmp 52), type := 4, pos := "law.go:40", after := #[{ on := 13, ground := Go.Ground.data }, { on := 9, ground := Go.Ground.chain }], guard := none }) (v := ?v35) rfl (by kernel_rfl) (by kernel_rfl) (by kernel_rfl) (fun _ _ _ h => h) (Or.inl ⟨by rfl, ?hy35⟩) (by assumption) ?rest35
        case hy35 => (intro w hSw; (try dsimp only at hSw); have ecx0 := hSw.cell cx0 id; have ecx1 := hSw.cell cx1 id; have ecx2 := hSw.cell cx2 id; have ecx3 := hSw.cell cx3 id; have ecx4 := hSw.cell cx4 id; have ecx5 := hSw.cell cx5 id; have ecx6 := hSw.cell cx6 id; have ecx7 := hSw.cell cx7 id; have ecx8 := hSw.cell cx8 id; have ecx9 := hSw.cell cx9 id; have ecx10 := hSw.cell cx10 id; have ecx11 := hSw.cell cx11 id; have ecx12 := hSw.cell cx12 id; have ecx13 := hSw.cell cx13 id; have ecx14 := hSw.cell cx14 id; have ecy0 := hSw.cell cy0 id; have ecy1 := hSw.cell cy1 id; have ecy2 := hSw.cell cy2 id; have ecy3 := hSw.cell cy3 id; have ecy4 := hSw.cell cy4 id; have z1 := Z1.out; have z2 := Z2.out; go_simp <;> with_reducible rfl)
        try simp only [Act.put, List.setIfInBounds_toArray, List.set_cons_zero, List.set_cons_succ]
        refine wpAnyH_take (i := 15) (oi := { dst := some 54, op := Go.Op.move (Go.Operand.tmp 10), type := 9, pos := "law.go:40", after := #[{ on := 14, ground := Go.Ground.guard }], guard := some (14, false) }) (v := ?v36) rfl (by kernel_rfl) (by kernel_rfl) (by kernel_rfl) (fun _ _ _ h => h) (Or.inl ⟨by rfl, ?hy36⟩) (by assumption) ?rest36
        case hy36 => (intro w hSw; (try dsimp only at hSw); have ecx0 := hSw.cell cx0 id; have ecx1 := hSw.cell cx1 id; have ecx2 := hSw.cell cx2 id; have ecx3 := hSw.cell cx3 id; have ecx4 := hSw.cell cx4 id; have ecx5 := hSw.cell cx5 id; have ecx6 := hSw.cell cx6 id; have ecx7 := hSw.cell cx7 id; have ecx8 := hSw.cell cx8 id; have ecx9 := hSw.cell cx9 id; have ecx10 := hSw.cell cx10 id; have ecx11 := hSw.cell cx11 id; have ecx12 := hSw.cell cx12 id; have ecx13 := hSw.cell cx13 id; have ecx14 := hSw.cell cx14 id; have ecy0 := hSw.cell cy0 id; have ecy1 := hSw.cell cy1 id; have ecy2 := hSw.cell cy2 id; have ecy3 := hSw.cell cy3 id; have ecy4 := hSw.cell cy4 id; have z1 := Z1.out; have z2 := Z2.out; go_simp <;> with_reducible rfl)
        try simp only [Act.put, List.setIfInBounds_toArray, List.set_cons_zero, List.set_cons_succ]
        refine wpAnyH_take (i := 16) (oi := { dst := some 55, op := Go.Op.binOp Go.BinOp.neq 9 (Go.Operand.tmp 54) (Go.Operand.const (Go.Value.string { data := #[] })) 9, type := 4, pos := "law.go:40", after := #[{ on := 15, ground := Go.Ground.data }, { on := 14, ground := Go.Ground.guard }], guard := some (14, false) }) (v := ?v37) rfl (by kernel_rfl) (by kernel_rfl) (by kernel_rfl) (fun _ _ _ h => h) (Or.inl ⟨by rfl, ?hy37⟩) (by assumption) ?rest37
        case hy37 => (intro w hSw; (try dsimp only at hSw); have ecx0 := hSw.cell cx0 id; have ecx1 := hSw.cell cx1 id; have ecx2 := hSw.cell cx2 id; have ecx3 := hSw.cell cx3 id; have ecx4 := hSw.cell cx4 id; have ecx5 := hSw.cell cx5 id; have ecx6 := hSw.cell cx6 id; have ecx7 := hSw.cell cx7 id; have ecx8 := hSw.cell cx8 id; have ecx9 := hSw.cell cx9 id; have ecx10 := hSw.cell cx10 id; have ecx11 := hSw.cell cx11 id; have ecx12 := hSw.cell cx12 id; have ecx13 := hSw.cell cx13 id; have ecx14 := hSw.cell cx14 id; have ecy0 := hSw.cell cy0 id; have ecy1 := hSw.cell cy1 id; have ecy2 := hSw.cell cy2 id; have ecy3 := hSw.cell cy3 id; have ecy4 := hSw.cell cy4 id; have z1 := Z1.out; have z2 := Z2.out; go_simp <;> with_reducible rfl)
        try simp only [Act.put, List.setIfInBounds_toArray, List.set_cons_zero, List.set_cons_succ]
        refine wpAnyH_take (i := 17) (oi := { dst := some 56, op := Go.Op.move (Go.Operand.tmp 55), type := 4, pos := "law.go:40", after := #[{ on := 16, ground := Go.Ground.data }, { on := 14, ground := Go.Ground.chain }, { on := 14, ground := Go.Ground.guard }], guard := some (14, false) }) (v := ?v38) rfl (by kernel_rfl) (by kernel_rfl) (by kernel_rfl) (fun _ _ _ h => h) (Or.inl ⟨by rfl, ?hy38⟩) (by assumption) ?rest38
        case hy38 => (intro w hSw; (try dsimp only at hSw); have ecx0 := hSw.cell cx0 id; have ecx1 := hSw.cell cx1 id; have ecx2 := hSw.cell cx2 id; have ecx3 := hSw.cell cx3 id; have ecx4 := hSw.cell cx4 id; have ecx5 := hSw.cell cx5 id; have ecx6 := hSw.cell cx6 id; have ecx7 := hSw.cell cx7 id; have ecx8 := hSw.cell cx8 id; have ecx9 := hSw.cell cx9 id; have ecx10 := hSw.cell cx10 id; have ecx11 := hSw.cell cx11 id; have ecx12 := hSw.cell cx12 id; have ecx13 := hSw.cell cx13 id; have ecx14 := hSw.cell cx14 id; have ecy0 := hSw.cell cy0 id; have ecy1 := hSw.cell cy1 id; have ecy2 := hSw.cell cy2 id; have ecy3 := hSw.cell cy3 id; have ecy4 := hSw.cell cy4 id; have z1 := Z1.out; have z2 := Z2.out; go_simp <;> with_reducible rfl)
        try simp only [Act.put, List.setIfInBounds_toArray, List.set_cons_zero, List.set_cons_succ]
        refine wpAnyH_take (i := 18) (oi := { dst := some 57, op := Go.Op.load 76 (Go.Operand.tmp 7), type := 76, pos := "law.go:40", after := #[{ on := 17, ground := Go.Ground.guard }], guard := some (17, true) }) (v := undef) rfl (by kernel_rfl) (by kernel_rfl) (by kernel_rfl) (fun _ _ _ h => h) (Or.inr ⟨by rfl, rfl⟩) (by assumption) ?rest39
        try simp only [Act.put, List.setIfInBounds_toArray, List.set_cons_zero, List.set_cons_succ]
        refine wpAnyH_take (i := 19) (oi := { dst := some 58, op := Go.Op.call { callee := Go.Callee.value (Go.Operand.func 37), args := #[Go.Operand.tmp 57], argTypes := #[76] }, type := 80, pos := "law.go:40", after := #[{ on := 18, ground := Go.Ground.data }, { on := 17, ground := Go.Ground.chain }, { on := 17, ground := Go.Ground.guard }], guard := some (17, true) }) (v := undef) rfl (by kernel_rfl) (by kernel_rfl) (by kernel_rfl) (fun _ _ _ h => h) (Or.inr ⟨by rfl, rfl⟩) (by assumption) ?rest40
        try simp only [Act.put, List.setIfInBounds_toArray, List.set_cons_zero, List.set_cons_succ]
        refine wpAnyH_take (i := 20) (oi := { dst := some 59, op := Go.Op.build 76 #[], type := 76, pos := "law.go:40", after := #[{ on := 17, ground := Go.Ground.guard }], guard := some (17, true) }) (v := undef) rfl (by kernel_rfl) (by kernel_rfl) (by kernel_rfl) (fun _ _ _ h => h) (Or.inr ⟨by rfl, rfl⟩) (by assumption) ?rest41
        try simp only [Act.put, List.setIfInBounds_toArray, List.set_cons_zero, List.set_cons_succ]
        refine wpAnyH_take (i := 21) (oi := { dst := some 60, op := Go.Op.call { callee := Go.Callee.value (Go.Operand.func 37), args := #[Go.Operand.tmp 59], argTypes := #[76] }, type := 80, pos := "law.go:40", after := #[{ on := 20, ground := Go.Ground.data }, { on := 19, ground := Go.Ground.chain }, { on := 17, ground := Go.Ground.guard }], guard := some (17, true) }) (v := undef) rfl (by kernel_rfl) (by kernel_rfl) (by kernel_rfl) (fun _ _ _ h => h) (Or.inr ⟨by rfl, rfl⟩) (by assumption) ?rest42
        try simp only [Act.put, List.setIfInBounds_toArray, List.set_cons_zero, List.set_cons_succ]
        refine wpAnyH_take (i := 22) (oi := { dst := some 61, op := Go.Op.binOp Go.BinOp.neq 80 (Go.Operand.tmp 58) (Go.Operand.tmp 60) 80, type := 4, pos := "law.go:40", after := #[{ on := 19, ground := Go.Ground.data }, { on := 21, ground := Go.Ground.data }, { on := 17, ground := Go.Ground.guard }], guard := some (17, true) }) (v := undef) rfl (by kernel_rfl) (by kernel_rfl) (by kernel_rfl) (fun _ _ _ h => h) (Or.inr ⟨by rfl, rfl⟩) (by assumption) ?rest43
        try simp only [Act.put, List.setIfInBounds_toArray, List.set_cons_zero, List.set_cons_succ]
        refine wpAnyH_take (i := 23) (oi := { dst := some 62, op := Go.Op.pick (Go.Operand.tmp 56) (Go.Operand.tmp 61) (Go.Operand.const (Go.Value.bool false)), type := 4, pos := "law.go:40", after := #[{ on := 17, ground := Go.Ground.data }, { on := 22, ground := Go.Ground.data }, { on := 14, ground := Go.Ground.guard }], guard := some (14, false) }) (v := ?v44) rfl (by kernel_rfl) (by kernel_rfl) (by kernel_rfl) (fun _ _ _ h => h) (Or.inl ⟨by rfl, ?hy44⟩) (by assumption) ?rest44
        case hy44 => (intro w hSw; (try dsimp only at hSw); have ecx0 := hSw.cell cx0 id; have ecx1 := hSw.cell cx1 id; have ecx2 := hSw.cell cx2 id; have ecx3 := hSw.cell cx3 id; have ecx4 := hSw.cell cx4 id; have ecx5 := hSw.cell cx5 id; have ecx6 := hSw.cell cx6 id; have ecx7 := hSw.cell cx7 id; have ecx8 := hSw.cell cx8 id; have ecx9 := hSw.cell cx9 id; have ecx10 := hSw.cell cx10 id; have ecx11 := hSw.cell cx11 id; have ecx12 := hSw.cell cx12 id; have ecx13 := hSw.cell cx13 id; have ecx14 := hSw.cell cx14 id; have ecy0 := hSw.cell cy0 id; have ecy1 := hSw.cell cy1 id; have ecy2 := hSw.cell cy2 id; have ecy3 := hSw.cell cy3 id; have ecy4 := hSw.cell cy4 id; have z1 := Z1.out; have z2 := Z2.out; go_simp <;> with_reducible rfl)
        try simp only [Act.put, List.setIfInBounds_toArray, List.set_cons_zero, List.set_cons_succ]
        refine wpAnyH_take (i := 24) (oi := { dst := some 63, op := Go.Op.pick (Go.Operand.tmp 53) (Go.Operand.const (Go.Value.bool true)) (Go.Operand.tmp 62), type := 4, pos := "law.go:40", after := #[{ on := 14, ground := Go.Ground.data }, { on := 23, ground := Go.Ground.data }], guard := none }) (v := ?v45) rfl (by kernel_rfl) (by kernel_rfl) (by kernel_rfl) (fun _ _ _ h => h) (Or.inl ⟨by rfl, ?hy45⟩) (by assumption) ?rest45
        case hy45 => (intro w hSw; (try dsimp only at hSw); have ecx0 := hSw.cell cx0 id; have ecx1 := hSw.cell cx1 id; have ecx2 := hSw.cell cx2 id; have ecx3 := hSw.cell cx3 id; have ecx4 := hSw.cell cx4 id; have ecx5 := hSw.cell cx5 id; have ecx6 := hSw.cell cx6 id; have ecx7 := hSw.cell cx7 id; have ecx8 := hSw.cell cx8 id; have ecx9 := hSw.cell cx9 id; have ecx10 := hSw.cell cx10 id; have ecx11 := hSw.cell cx11 id; have ecx12 := hSw.cell cx12 id; have ecx13 := hSw.cell cx13 id; have ecx14 := hSw.cell cx14 id; have ecy0 := hSw.cell cy0 id; have ecy1 := hSw.cell cy1 id; have ecy2 := hSw.cell cy2 id; have ecy3 := hSw.cell cy3 id; have ecy4 := hSw.cell cy4 id; have z1 := Z1.out; have z2 := Z2.out; go_simp <;> with_reducible rfl)
        try simp only [Act.put, List.setIfInBounds_toArray, List.set_cons_zero, List.set_cons_succ]
        refine wpAnyH_done (by kernel_rfl) ?_ _
        go_wp2_with fail
        go_meet
        exact ⟨rfl, Lib.hid hS2⟩
    case rest =>
      obtain ⟨rfl, hx⟩ := hcut
      have hx := hx.out
      clear HYR HYS HNO
      have HX_wc := Lib.hid hx
      clear hx
      replace B_xb0 := Lib.hid ((((HX_w6.out.trans HX_w7.out).trans HX_wc.out).block xb0 (row_lt B_xb0.out) id).trans B_xb0.out)
      replace HB4 := Lib.hid (RB.keep HB4.out HX_wc.out (fun _ _ _ => id))
      have hb_g4 := hg4
      have hlt4 : qb ≠ [] → g4 < w4.heap.size ∧ A4 = some ⟨g4, o4, none⟩ := fun hn => by
        have hp := List.length_pos_iff.2 hn
        obtain ⟨_, A', c', e', _, hcell⟩ := HB0.out
        obtain ⟨b', off', hA', hb', hc'⟩ := hcell 0 hp
        subst hb'
        exact ⟨World.block_lt_of_cell? w4 _ hc', (HF4.out hn).1⟩
      have hf9 : qb ≠ [] → ∀ x, wc.frozen? ⟨g4, x, none⟩ = false := fun hn x => ((((HX_w5.out.trans HX_w6.out).trans HX_w7.out).trans HX_wc.out).frozen (p := ⟨g4, x, none⟩) (hlt4 hn).1 id).trans ((HF4.out hn).2 x)
      have hc9 : ∀ x, x < qb.length → ∃ m, wc.cell? ⟨g4, o4 + x, none⟩ = some (.int .u8 m) := fun x hx => by
        obtain ⟨_, A', c', e', _, hcell⟩ := HB4.out
        injection e' with e1 e2 e3
        subst e1
        obtain ⟨b', off', hA', hb', hc'⟩ := hcell x hx
        have hA2 := (hlt4 (by intro h; rw [h] at hx; exact absurd hx (by simp))).2
        rw [hA2] at hA'
        injection hA' with hA'
        injection hA' with h1 h2
        subst h1 h2
        exact ⟨_, hc'⟩
      have HLT4 := Lib.hid hlt4
      have HF9 := Lib.hid hf9
      have HC9 := Lib.hid hc9
      have hx0 := Lib.hid (Ex.refl (fun x => qb ≠ [] ∧ x = g4) wc)
      clear hlt4 hf9 hc9
      have hz49 := (((HX_w5.out.trans HX_w6.out).trans HX_w7.out).trans HX_wc.out).size
      go_wp2_with fail
      go_loopw [11] (fun i wl => ∃ j : Nat, j ≤ qb.length ∧ i = .int .i64 (j : Int) ∧ Hid (∀ x, x < qb.length → ∃ m, wl.cell? ⟨g4, o4 + x, none⟩ = some (.int .u8 m)) ∧ Hid (qb ≠ [] → ∀ x, wl.frozen? ⟨g4, x, none⟩ = false) ∧ Hid (Ex (fun x => qb ≠ [] ∧ x = g4) wc wl)) (fun i _ => qb.length - (intOf i).toNat)
      case atStart => exact ⟨0, by omega, rfl, HC9, HF9, hx0⟩
      case round =>
        clear hx0
        obtain ⟨j, hj, rfl, hcj, hfj, hxj⟩ := hrel
        have hbx := (hxj.out.block xb0 (row_lt B_xb0.out) (fun h => by have := (HLT4.out h.1).1; have := h.2; omega)).trans B_xb0.out
        have c9 := row_cell (k := 14) (v := .slice A4 qb.length qb.length) hbx rfl
        clear hbx
        by_cases dj : j < qb.length
        ·
          have hne : qb ≠ [] := by intro h; rw [h] at dj; exact absurd dj (by simp)
          have hA := (HLT4.out hne).2
          rw [hA] at c9
          obtain ⟨m0, hm0⟩ := hcj.out j dj
          have hfz := hfj.out hne (o4 + j)
          go_wp2_with fail
          go_roundw
          case rel => exact ⟨j + 1, by omega, by go_num, Lib.hid (fun x hx => someInt_setCell (hcj.out x hx) _ _), Lib.hid (fun hn x => (World.frozen?_setCell _ _ _ _).trans (hfj.out hn x)), Lib.hid (hxj.out.setCell (p := ⟨g4, o4 + j, none⟩) (.inl ⟨hne, rfl⟩) _)⟩
          case measure => simp [intOf]; omega
        ·
          have hx : Ex (fun x => x = g4) wc wr := hxj.out.mono (fun _ _ h => h.2)
          clear hcj hfj hxj
          have HX_wr := Lib.hid hx
          clear hx
          have hsz3 := HX_w4.out.size
          have hsz03 := (HX_w2.out.trans HX_w3.out).size
          have ne_bp_g4 : bp ≠ g4 := by omega
          have ne_g3_g4 : g3 ≠ g4 := by omega
          have ne_bp_g3 : bp ≠ g3 := by omega
          replace B_bp := Lib.hid (((((((((HX_w2.out.trans HX_w3.out).trans HX_w4.out).trans HX_w5.out).trans HX_w6.out).trans HX_w7.out).trans HX_wc.out).andThen HX_wr.out (fun i hi e => by have := (HX_w2.out.trans HX_w3.out).size; have := hb_g4; omega)).block bp (row_lt B_bp.out) id).trans B_bp.out)
          have cbp14 := row_cell (k := 14) (v := .slice A xb.length c) B_bp.out rfl
          have fbp14 := row_frozen B_bp.out 14
          have hlbr := row_lt B_bp.out
          have hmw := (RB.keep HM.out ((((((((HX_w1.out.trans HX_w2.out).trans HX_w3.out).trans HX_w4.out).trans HX_w5.out).trans HX_w6.out).trans HX_w7.out).trans HX_wc.out).andThen HX_wr.out (fun i hi e => by have := ((HX_w1.out.trans HX_w2.out).trans HX_w3.out).size; have := hb_g4; omega)) (fun _ _ _ => id))
          have HMW := Lib.hid hmw
          have hk := HGK.out
          have hal : Ex (fun _ => False) wr (wr.alloc (.cells #[] 5)) := (Ex.refl _ wr).alloc _
          have qa3 := hal.cell cbp14 id
          clear hmw
          go_upto_region 13 with (at_builtin; refine wpList_append_ob i0 23 Tryd.underlying23 hi hz0 hz1 hz2 rfl (.tmp 75) (.tmp 82) rfl wr.heap.size (.slice (some ⟨wr.heap.size, 0, none⟩) 0 0) [] rfl (fun _ => True) (.slice A xl.length c) xl rfl (OB.lit wr wr.heap.size [] (Nat.le_refl _) (by simp)) (HMW.out.alloc _) (by simp; omega) (by simp) ?_; intro A5 c5 wf ho5 hg5 hn5 hb5; have hx5 : Ex (fun _ => False) wr wf := ((Ex.refl _ wr).alloc _).grown hg5 (fun k hk => .inr (by obtain rfl := Option.some.inj hk; exact Nat.le_refl _)); have qb3 := hx5.cell cbp14 id; have qf3 : wf.frozen? ⟨bp, 14, none⟩ = false := (hx5.frozen (p := ⟨bp, 14, none⟩) hlbr id).trans fbp14)
          cases A5 with
          | none => exact absurd (hn5.1 rfl).1 (by simp)
          | some A5 =>
            have hx := hx5
            have ho : OB wf wr.heap.size (.slice (some A5) xl.length c5) xl := by simpa using ho5
            clear hx5 hg5 hn5 hb5 ho5 hk qa3 qb3 qf3 hal gki gkc gk1 cbp14 fbp14 c9
            try simp only [List.length_nil, Nat.zero_add]
            have HX_wf := Lib.hid hx
            clear hx
            have HO_x := Lib.hid ho
            clear ho
            replace B_bp := Lib.hid ((HX_wf.out.block bp (row_lt B_bp.out) id).trans B_bp.out)
            have hb : (wf.setCell ⟨bp, 14, none⟩ (.slice (some A5) xl.length c5)).heap[bp]? = some (.cells #[.int .u8 (xd0.toNat : Int), .int .u8 (xd1.toNat : Int), .int .u8 (xd2.toNat : Int), .int .u8 (xd3.toNat : Int), .int .u8 (xd4.toNat : Int), .int .u8 (xd5.toNat : Int), .int .u8 (xs0.toNat : Int), .int .u8 (xs1.toNat : Int), .int .u8 (xs2.toNat : Int), .int .u8 (xs3.toNat : Int), .int .u8 (xs4.toNat : Int), .int .u8 (xs5.toNat : Int), .int .i64 xvl, .int .u16 (xty : Int), .slice (some A5) xl.length c5] 76) := (row_set B_bp.out 14 (.slice (some A5) xl.length c5))
            have hx : Ex (fun j => j = bp) wf (wf.setCell ⟨bp, 14, none⟩ (.slice (some A5) xl.length c5)) := ((Ex.refl (fun j => j = bp) wf).setCell (p := ⟨bp, 14, none⟩) (.inl rfl) (.slice (some A5) xl.length c5))
            generalize (wf.setCell ⟨bp, 14, none⟩ (.slice (some A5) xl.length c5)) = wg at hx hb ⊢
            clear B_bp
            have HX_wg := Lib.hid hx
            clear hx
            have B_bp := Lib.hid hb
            clear hb
            have hbpg := row_lt B_bp.out
            have cbp0 := row_cell (k := 0) (v := .int .u8 (xd0.toNat : Int)) B_bp.out rfl
            have cbp1 := row_cell (k := 1) (v := .int .u8 (xd1.toNat : Int)) B_bp.out rfl
            have cbp2 := row_cell (k := 2) (v := .int .u8 (xd2.toNat : Int)) B_bp.out rfl
            have cbp3 := row_cell (k := 3) (v := .int .u8 (xd3.toNat : Int)) B_bp.out rfl
            have cbp4 := row_cell (k := 4) (v := .int .u8 (xd4.toNat : Int)) B_bp.out rfl
            have cbp5 := row_cell (k := 5) (v := .int .u8 (xd5.toNat : Int)) B_bp.out rfl
            have cbp6 := row_cell (k := 6) (v := .int .u8 (xs0.toNat : Int)) B_bp.out rfl
            have cbp7 := row_cell (k := 7) (v := .int .u8 (xs1.toNat : Int)) B_bp.out rfl
            have cbp8 := row_cell (k := 8) (v := .int .u8 (xs2.toNat : Int)) B_bp.out rfl
            have cbp9 := row_cell (k := 9) (v := .int .u8 (xs3.toNat : Int)) B_bp.out rfl
            have cbp10 := row_cell (k := 10) (v := .int .u8 (xs4.toNat : Int)) B_bp.out rfl
            have cbp11 := row_cell (k := 11) (v := .int .u8 (xs5.toNat : Int)) B_bp.out rfl
            have cbp12 := row_cell (k := 12) (v := .int .i64 xvl) B_bp.out rfl
            have cbp13 := row_cell (k := 13) (v := .int .u16 (xty : Int)) B_bp.out rfl
            have cbp14 := row_cell (k := 14) (v := .slice (some A5) xl.length c5) B_bp.out rfl
            have hby := fun P w hr => ebytes_tv P (⟨[xd0, xd1, xd2, xd3, xd4, xd5], [xs0, xs1, xs2, xs3, xs4, xs5], xvl, xty, xl⟩ : Fr) (some A5) xl.length c5 w OKX.out hr (by show xl.length ≤ _; omega)
            have hrb := fun w => rb3_any (⟨[xd0, xd1, xd2, xd3, xd4, xd5], [xs0, xs1, xs2, xs3, xs4, xs5], xvl, xty, xl⟩ : Fr) w OKX.out (by show xl.length ≤ _; omega)
            have hbl := ebs_len (⟨[xd0, xd1, xd2, xd3, xd4, xd5], [xs0, xs1, xs2, xs3, xs4, xs5], xvl, xty, xl⟩ : Fr)
            obtain ⟨lB, hlB⟩ : ∃ l, ebs (⟨[xd0, xd1, xd2, xd3, xd4, xd5], [xs0, xs1, xs2, xs3, xs4, xs5], xvl, xty, xl⟩ : Fr) = l := ⟨_, rfl⟩
            obtain ⟨T2, hT2⟩ : ∃ t, ebsays (⟨[xd0, xd1, xd2, xd3, xd4, xd5], [xs0, xs1, xs2, xs3, xs4, xs5], xvl, xty, xl⟩ : Fr) = t := ⟨_, rfl⟩
            rw [hlB] at hby hrb hbl
            rw [hT2] at hby hrb
            have HBY := Lib.hid hby
            have HRB := Lib.hid hrb
            clear hby hrb hlB hT2
            go_wp2_with fail
            refine (HBY.out _ wg (OB.keepB HO_x.out HX_wg.out (by omega)).rb).mono ?_
            rintro e wb ⟨AB, gB, cB, vB, rfl, hgB, hbB, hfB, htB, hx⟩
            have HFB := Lib.hid hfB
            clear hfB cbp0 cbp1 cbp2 cbp3 cbp4 cbp5 cbp6 cbp7 cbp8 cbp9 cbp10 cbp11 cbp12 cbp13 cbp14
            have HX_wb := Lib.hid hx
            clear hx
            have HBB0 := Lib.hid hbB
            have HBB := Lib.hid hbB
            clear hbB
            have TVB := Lib.hid htB
            clear htB
            replace B_bp := Lib.hid ((HX_wb.out.block bp (row_lt B_bp.out) id).trans B_bp.out)
            have cbp0 := row_cell (k := 0) (v := .int .u8 (xd0.toNat : Int)) B_bp.out rfl
            have cbp1 := row_cell (k := 1) (v := .int .u8 (xd1.toNat : Int)) B_bp.out rfl
            have cbp2 := row_cell (k := 2) (v := .int .u8 (xd2.toNat : Int)) B_bp.out rfl
            have cbp3 := row_cell (k := 3) (v := .int .u8 (xd3.toNat : Int)) B_bp.out rfl
            have cbp4 := row_cell (k := 4) (v := .int .u8 (xd4.toNat : Int)) B_bp.out rfl
            have cbp5 := row_cell (k := 5) (v := .int .u8 (xd5.toNat : Int)) B_bp.out rfl
            have cbp6 := row_cell (k := 6) (v := .int .u8 (xs0.toNat : Int)) B_bp.out rfl
            have cbp7 := row_cell (k := 7) (v := .int .u8 (xs1.toNat : Int)) B_bp.out rfl
            have cbp8 := row_cell (k := 8) (v := .int .u8 (xs2.toNat : Int)) B_bp.out rfl
            have cbp9 := row_cell (k := 9) (v := .int .u8 (xs3.toNat : Int)) B_bp.out rfl
            have cbp10 := row_cell (k := 10) (v := .int .u8 (xs4.toNat : Int)) B_bp.out rfl
            have cbp11 := row_cell (k := 11) (v := .int .u8 (xs5.toNat : Int)) B_bp.out rfl
            have cbp12 := row_cell (k := 12) (v := .int .i64 xvl) B_bp.out rfl
            have cbp13 := row_cell (k := 13) (v := .int .u16 (xty : Int)) B_bp.out rfl
            have cbp14 := row_cell (k := 14) (v := .slice (some A5) xl.length c5) B_bp.out rfl
            go_upto_region 14 with fail
            go_wp2_with fail
            refine (of_any _ (⟨[xd0, xd1, xd2, xd3, xd4, xd5], [xs0, xs1, xs2, xs3, xs4, xs5], xvl, xty, xl⟩ : Fr) (some A5) xl.length c5 _ OKX.out (OB.keep (OB.keepB HO_x.out HX_wg.out (by omega)) HX_wb.out (fun _ _ _ _ => id)).rb).mono ?_
            rintro e wo ⟨rfl, hx⟩
            clear cbp0 cbp1 cbp2 cbp3 cbp4 cbp5 cbp6 cbp7 cbp8 cbp9 cbp10 cbp11 cbp12 cbp13 cbp14
            have HX_wo := Lib.hid hx
            clear hx
            go_wp2_with fail
            refine (HRB.out wo).mono ?_
            rintro e wq ⟨rfl, hx⟩
            have HX_wq := Lib.hid hx
            clear hx
            go_upto_region 15 with fail
            replace HB3 := Lib.hid (RB.keep (RB.keep (RB.keep HB3.out ((((((HX_w4.out.trans HX_w5.out).trans HX_w6.out).trans HX_w7.out).trans HX_wc.out).andThen HX_wr.out (fun i hi e => by have := hb_g4; omega)).trans HX_wf.out) (fun _ _ _ => id)) HX_wg.out (fun k _ hk e => ne_bp_g3.symm (hk.symm.trans e))) ((HX_wb.out.trans HX_wo.out).trans HX_wq.out) (fun _ _ _ => id))
            replace HBB := Lib.hid (RB.keep HBB.out (HX_wo.out.trans HX_wq.out) (fun _ _ _ => id))
            replace TVB := Lib.hid (TVB.out.keep (HX_wo.out.trans HX_wq.out))
            have hsT : (T2.toList == T2.toList) = true := by simp
            have hsS : ((bs s).toList == (bs s).toList) = true := by simp
            have hsL : ((bs lB).toList == (bs lB).toList) = true := by simp
            have hq3 := HB3.out.str (Pr := Tryd.prog) 23 9 5 Tryd.underlying23 Tryd.underlying5 Tryd.underlying9
            have hqB := HBB.out.str (Pr := Tryd.prog) 23 9 5 Tryd.underlying23 Tryd.underlying5 Tryd.underlying9
            go_wp2_with fail
            refine (told3_tv TVB.out).mono ?_
            rintro e wt ⟨rfl, hx⟩
            clear hq3 hqB
            have HX_wt := Lib.hid hx
            clear hx
            replace HBB := Lib.hid (RB.keep HBB.out HX_wt.out (fun _ _ _ => id))
            have hb_gB := hgB
            have hfN : lB ≠ [] → ∀ x, wt.frozen? ⟨gB, x, none⟩ = false := fun hn x => (((HX_wo.out.trans HX_wq.out).trans HX_wt.out).frozen (p := ⟨gB, x, none⟩) (HFB.out hn).2.1 id).trans ((HFB.out hn).2.2 x)
            have hcN : ∀ x, x < lB.length → ∃ m, wt.cell? ⟨gB, x, none⟩ = some (.int .u8 m) := fun x hx => by
              obtain ⟨_, A', c', e', _, hcell⟩ := HBB.out
              injection e' with e1 e2 e3
              subst e1
              obtain ⟨b', off', hA', hb', hc'⟩ := hcell x hx
              have hA2 := (HFB.out (by intro h; rw [h] at hx; exact absurd hx (by simp))).1
              rw [hA2] at hA'
              injection hA' with hA'
              injection hA' with h1 h2
              subst h1 h2
              rw [Nat.zero_add] at hc'
              exact ⟨_, hc'⟩
            have HFN := Lib.hid hfN
            have HCN := Lib.hid hcN
            have hx0 := Lib.hid (Ex.refl (fun x => lB ≠ [] ∧ x = gB) wt)
            clear hfN hcN
            go_wp2_with fail
            go_loopw [16] (fun i wl => ∃ j : Nat, j ≤ lB.length ∧ i = .int .i64 (j : Int) ∧ Hid (∀ x, x < lB.length → ∃ m, wl.cell? ⟨gB, x, none⟩ = some (.int .u8 m)) ∧ Hid (lB ≠ [] → ∀ x, wl.frozen? ⟨gB, x, none⟩ = false) ∧ Hid (Ex (fun x => lB ≠ [] ∧ x = gB) wt wl)) (fun i _ => lB.length - (intOf i).toNat)
            case atStart => exact ⟨0, by omega, rfl, HCN, HFN, hx0⟩
            case round =>
              clear hx0
              obtain ⟨j, hj, rfl, hcj, hfj, hxj⟩ := hrel
              by_cases dj : j < lB.length
              ·
                have hne : lB ≠ [] := by intro h; rw [h] at dj; exact absurd dj (by simp)
                have hA := (HFB.out hne).1
                subst hA
                obtain ⟨m0, hm0⟩ := hcj.out j dj
                have hfz := hfj.out hne j
                go_wp2_with fail
                go_roundw
                case rel => exact ⟨j + 1, by omega, by go_num, Lib.hid (fun x hx => someInt_setCell (hcj.out x hx) _ _), Lib.hid (fun hn x => (World.frozen?_setCell _ _ _ _).trans (hfj.out hn x)), Lib.hid (hxj.out.setCell (p := ⟨gB, j, none⟩) (.inl ⟨hne, rfl⟩) _)⟩
                case measure => simp [intOf]; omega
              ·
                obtain ⟨wr_1, rfl⟩ : ∃ x, x = wr := ⟨_, rfl⟩
                have hx : Ex (fun x => x = gB) wt wr_1 := hxj.out.mono (fun _ _ h => h.2)
                clear hcj hfj hxj
                have HX_wr_1 := Lib.hid hx
                clear hx
                have hltp := row_lt B_bp.out
                skip
                have ne_bp_gB : bp ≠ gB := by omega
                replace B_bp := Lib.hid ((HX_wr_1.out.block bp (row_lt ((((HX_wo.out.trans HX_wq.out).trans HX_wt.out).block bp (row_lt B_bp.out) id).trans B_bp.out)) ne_bp_gB).trans ((((HX_wo.out.trans HX_wq.out).trans HX_wt.out).block bp (row_lt B_bp.out) id).trans B_bp.out))
                have cbp0 := row_cell (k := 0) (v := .int .u8 (xd0.toNat : Int)) B_bp.out rfl
                have cbp1 := row_cell (k := 1) (v := .int .u8 (xd1.toNat : Int)) B_bp.out rfl
                have cbp2 := row_cell (k := 2) (v := .int .u8 (xd2.toNat : Int)) B_bp.out rfl
                have cbp3 := row_cell (k := 3) (v := .int .u8 (xd3.toNat : Int)) B_bp.out rfl
                have cbp4 := row_cell (k := 4) (v := .int .u8 (xd4.toNat : Int)) B_bp.out rfl
                have cbp5 := row_cell (k := 5) (v := .int .u8 (xd5.toNat : Int)) B_bp.out rfl
                have cbp6 := row_cell (k := 6) (v := .int .u8 (xs0.toNat : Int)) B_bp.out rfl
                have cbp7 := row_cell (k := 7) (v := .int .u8 (xs1.toNat : Int)) B_bp.out rfl
                have cbp8 := row_cell (k := 8) (v := .int .u8 (xs2.toNat : Int)) B_bp.out rfl
                have cbp9 := row_cell (k := 9) (v := .int .u8 (xs3.toNat : Int)) B_bp.out rfl
                have cbp10 := row_cell (k := 10) (v := .int .u8 (xs4.toNat : Int)) B_bp.out rfl
                have cbp11 := row_cell (k := 11) (v := .int .u8 (xs5.toNat : Int)) B_bp.out rfl
                have cbp12 := row_cell (k := 12) (v := .int .i64 xvl) B_bp.out rfl
                have cbp13 := row_cell (k := 13) (v := .int .u16 (xty : Int)) B_bp.out rfl
                have cbp14 := row_cell (k := 14) (v := .slice (some A5) xl.length c5) B_bp.out rfl
                go_upto_region 21 with fail
                go_wp2_with fail
                refine (HBY.out _ wr_1 (OB.keep (OB.keepB HO_x.out HX_wg.out (by omega)) ((((HX_wb.out.trans HX_wo.out).trans HX_wq.out).trans HX_wt.out).andThen HX_wr_1.out (fun i hi e => by have := hb_gB; omega)) (fun _ _ _ _ => id)).rb).mono ?_
                rintro e wk ⟨AC, gC, cC, vC, rfl, hgC, hbC, hfC, htC, hx⟩
                clear hfC htC cbp0 cbp1 cbp2 cbp3 cbp4 cbp5 cbp6 cbp7 cbp8 cbp9 cbp10 cbp11 cbp12 cbp13 cbp14
                have HX_wk := Lib.hid hx
                clear hx
                have HBC := Lib.hid hbC
                clear hbC
                replace B_bp := Lib.hid ((HX_wk.out.block bp (row_lt B_bp.out) id).trans B_bp.out)
                have cbp0 := row_cell (k := 0) (v := .int .u8 (xd0.toNat : Int)) B_bp.out rfl
                have cbp1 := row_cell (k := 1) (v := .int .u8 (xd1.toNat : Int)) B_bp.out rfl
                have cbp2 := row_cell (k := 2) (v := .int .u8 (xd2.toNat : Int)) B_bp.out rfl
                have cbp3 := row_cell (k := 3) (v := .int .u8 (xd3.toNat : Int)) B_bp.out rfl
                have cbp4 := row_cell (k := 4) (v := .int .u8 (xd4.toNat : Int)) B_bp.out rfl
                have cbp5 := row_cell (k := 5) (v := .int .u8 (xd5.toNat : Int)) B_bp.out rfl
                have cbp6 := row_cell (k := 6) (v := .int .u8 (xs0.toNat : Int)) B_bp.out rfl
                have cbp7 := row_cell (k := 7) (v := .int .u8 (xs1.toNat : Int)) B_bp.out rfl
                have cbp8 := row_cell (k := 8) (v := .int .u8 (xs2.toNat : Int)) B_bp.out rfl
                have cbp9 := row_cell (k := 9) (v := .int .u8 (xs3.toNat : Int)) B_bp.out rfl
                have cbp10 := row_cell (k := 10) (v := .int .u8 (xs4.toNat : Int)) B_bp.out rfl
                have cbp11 := row_cell (k := 11) (v := .int .u8 (xs5.toNat : Int)) B_bp.out rfl
                have cbp12 := row_cell (k := 12) (v := .int .i64 xvl) B_bp.out rfl
                have cbp13 := row_cell (k := 13) (v := .int .u16 (xty : Int)) B_bp.out rfl
                have cbp14 := row_cell (k := 14) (v := .slice (some A5) xl.length c5) B_bp.out rfl
                have hsC : ((bs lB).toList == (bs lB).toList) = true := by simp
                have hS0 : Ex (fun _ => False) wk wk.drew := (Ex.refl _ wk).drew
                go_upto_region 22 with fail
                refine wp_region_held_drew (S := fun W => Ex (fun _ => False) wk W) (by kernel_rfl) hS0 (fun _ => ?_)
                refine wpAnyH_take (i := 0) (oi := { dst := some 126, op := Go.Op.move (Go.Operand.tmp 5), type := 4, pos := "law.go:56", after := #[], guard := none }) (v := ?v46) rfl (by kernel_rfl) (by kernel_rfl) (by kernel_rfl) (fun _ _ _ h => h) (Or.inl ⟨by rfl, ?hy46⟩) (by assumption) ?rest46
                case hy46 => (intro w hSw; (try dsimp only at hSw); have ecbp0 := hSw.cell cbp0 id; have ecbp1 := hSw.cell cbp1 id; have ecbp2 := hSw.cell cbp2 id; have ecbp3 := hSw.cell cbp3 id; have ecbp4 := hSw.cell cbp4 id; have ecbp5 := hSw.cell cbp5 id; have ecbp6 := hSw.cell cbp6 id; have ecbp7 := hSw.cell cbp7 id; have ecbp8 := hSw.cell cbp8 id; have ecbp9 := hSw.cell cbp9 id; have ecbp10 := hSw.cell cbp10 id; have ecbp11 := hSw.cell cbp11 id; have ecbp12 := hSw.cell cbp12 id; have ecbp13 := hSw.cell cbp13 id; have ecbp14 := hSw.cell cbp14 id; go_simp <;> with_reducible rfl)
                try simp only [Act.put, List.setIfInBounds_toArray, List.set_cons_zero, List.set_cons_succ]
                refine wpAnyH_take (i := 1) (oi := { dst := some 127, op := Go.Op.move (Go.Operand.tmp 126), type := 4, pos := "law.go:56", after := #[{ on := 0, ground := Go.Ground.data }], guard := none }) (v := ?v47) rfl (by kernel_rfl) (by kernel_rfl) (by kernel_rfl) (fun _ _ _ h => h) (Or.inl ⟨by rfl, ?hy47⟩) (by assumption) ?rest47
                case hy47 => (intro w hSw; (try dsimp only at hSw); have ecbp0 := hSw.cell cbp0 id; have ecbp1 := hSw.cell cbp1 id; have ecbp2 := hSw.cell cbp2 id; have ecbp3 := hSw.cell cbp3 id; have ecbp4 := hSw.cell cbp4 id; have ecbp5 := hSw.cell cbp5 id; have ecbp6 := hSw.cell cbp6 id; have ecbp7 := hSw.cell cbp7 id; have ecbp8 := hSw.cell cbp8 id; have ecbp9 := hSw.cell cbp9 id; have ecbp10 := hSw.cell cbp10 id; have ecbp11 := hSw.cell cbp11 id; have ecbp12 := hSw.cell cbp12 id; have ecbp13 := hSw.cell cbp13 id; have ecbp14 := hSw.cell cbp14 id; go_simp <;> with_reducible rfl)
                try simp only [Act.put, List.setIfInBounds_toArray, List.set_cons_zero, List.set_cons_succ]
                refine wpAnyH_take (i := 2) (oi := { dst := some 128, op := Go.Op.move (Go.Operand.tmp 17), type := 23, pos := "law.go:56", after := #[{ on := 1, ground := Go.Ground.guard }], guard := some (1, true) }) (v := ?v48) rfl (by kernel_rfl) (by kernel_rfl) (by kernel_rfl) (fun _ _ _ h => h) (Or.inl ⟨by rfl, ?hy48⟩) (by assumption) ?rest48
                case hy48 => (intro w hSw; (try dsimp only at hSw); have ecbp0 := hSw.cell cbp0 id; have ecbp1 := hSw.cell cbp1 id; have ecbp2 := hSw.cell cbp2 id; have ecbp3 := hSw.cell cbp3 id; have ecbp4 := hSw.cell cbp4 id; have ecbp5 := hSw.cell cbp5 id; have ecbp6 := hSw.cell cbp6 id; have ecbp7 := hSw.cell cbp7 id; have ecbp8 := hSw.cell cbp8 id; have ecbp9 := hSw.cell cbp9 id; have ecbp10 := hSw.cell cbp10 id; have ecbp11 := hSw.cell cbp11 id; have ecbp12 := hSw.cell cbp12 id; have ecbp13 := hSw.cell cbp13 id; have ecbp14 := hSw.cell cbp14 id; go_simp <;> with_reducible rfl)
                try simp only [Act.put, List.setIfInBounds_toArray, List.set_cons_zero, List.set_cons_succ]
                refine wpAnyH_take (i := 3) (oi := { dst := some 129, op := Go.Op.convert 23 9 (Go.Operand.tmp 128), type := 9, pos := "law.go:56", after := #[{ on := 2, ground := Go.Ground.data }, { on := 1, ground := Go.Ground.guard }], guard := some (1, true) }) (v := ?v49) rfl (by kernel_rfl) (by kernel_rfl) (by kernel_rfl) (fun _ _ _ h => h) (Or.inl ⟨by rfl, ?hy49⟩) (by assumption) ?rest49
                case hy49 => (intro w hSw; (try dsimp only at hSw); have ecbp0 := hSw.cell cbp0 id; have ecbp1 := hSw.cell cbp1 id; have ecbp2 := hSw.cell cbp2 id; have ecbp3 := hSw.cell cbp3 id; have ecbp4 := hSw.cell cbp4 id; have ecbp5 := hSw.cell cbp5 id; have ecbp6 := hSw.cell cbp6 id; have ecbp7 := hSw.cell cbp7 id; have ecbp8 := hSw.cell cbp8 id; have ecbp9 := hSw.cell cbp9 id; have ecbp10 := hSw.cell cbp10 id; have ecbp11 := hSw.cell cbp11 id; have ecbp12 := hSw.cell cbp12 id; have ecbp13 := hSw.cell cbp13 id; have ecbp14 := hSw.cell cbp14 id; have eq := (RB.keep HBC.out hSw (fun _ _ _ => id)).str (Pr := Tryd.prog) 23 9 5 Tryd.underlying23 Tryd.underlying5 Tryd.underlying9; go_simp <;> with_reducible rfl)
                try simp only [Act.put, List.setIfInBounds_toArray, List.set_cons_zero, List.set_cons_succ]
                refine wpAnyH_take (i := 4) (oi := { dst := some 130, op := Go.Op.move (Go.Operand.tmp 14), type := 9, pos := "law.go:56", after := #[{ on := 1, ground := Go.Ground.guard }], guard := some (1, true) }) (v := ?v50) rfl (by kernel_rfl) (by kernel_rfl) (by kernel_rfl) (fun _ _ _ h => h) (Or.inl ⟨by rfl, ?hy50⟩) (by assumption) ?rest50
                case hy50 => (intro w hSw; (try dsimp only at hSw); have ecbp0 := hSw.cell cbp0 id; have ecbp1 := hSw.cell cbp1 id; have ecbp2 := hSw.cell cbp2 id; have ecbp3 := hSw.cell cbp3 id; have ecbp4 := hSw.cell cbp4 id; have ecbp5 := hSw.cell cbp5 id; have ecbp6 := hSw.cell cbp6 id; have ecbp7 := hSw.cell cbp7 id; have ecbp8 := hSw.cell cbp8 id; have ecbp9 := hSw.cell cbp9 id; have ecbp10 := hSw.cell cbp10 id; have ecbp11 := hSw.cell cbp11 id; have ecbp12 := hSw.cell cbp12 id; have ecbp13 := hSw.cell cbp13 id; have ecbp14 := hSw.cell cbp14 id; go_simp <;> with_reducible rfl)
                try simp only [Act.put, List.setIfInBounds_toArray, List.set_cons_zero, List.set_cons_succ]
                refine wpAnyH_take (i := 5) (oi := { dst := some 131, op := Go.Op.binOp Go.BinOp.eql 9 (Go.Operand.tmp 129) (Go.Operand.tmp 130) 9, type := 4, pos := "law.go:56", after := #[{ on := 3, ground := Go.Ground.data }, { on := 4, ground := Go.Ground.data }, { on := 1, ground := Go.Ground.guard }], guard := some (1, true) }) (v := ?v51) rfl (by kernel_rfl) (by kernel_rfl) (by kernel_rfl) (fun _ _ _ h => h) (Or.inl ⟨by rfl, ?hy51⟩) (by assumption) ?rest51
                case hy51 => (intro w hSw; (try dsimp only at hSw); have ecbp0 := hSw.cell cbp0 id; have ecbp1 := hSw.cell cbp1 id; have ecbp2 := hSw.cell cbp2 id; have ecbp3 := hSw.cell cbp3 id; have ecbp4 := hSw.cell cbp4 id; have ecbp5 := hSw.cell cbp5 id; have ecbp6 := hSw.cell cbp6 id; have ecbp7 := hSw.cell cbp7 id; have ecbp8 := hSw.cell cbp8 id; have ecbp9 := hSw.cell cbp9 id; have ecbp10 := hSw.cell cbp10 id; have ecbp11 := hSw.cell cbp11 id; have ecbp12 := hSw.cell cbp12 id; have ecbp13 := hSw.cell cbp13 id; have ecbp14 := hSw.cell cbp14 id; go_simp <;> with_reducible rfl)
                try simp only [Act.put, List.setIfInBounds_toArray, List.set_cons_zero, List.set_cons_succ]
                refine wpAnyH_take (i := 6) (oi := { dst := some 132, op := Go.Op.pick (Go.Operand.tmp 127) (Go.Operand.tmp 131) (Go.Operand.const (Go.Value.bool false)), type := 4, pos := "law.go:56", after := #[{ on := 1, ground := Go.Ground.data }, { on := 5, ground := Go.Ground.data }], guard := none }) (v := ?v52) rfl (by kernel_rfl) (by kernel_rfl) (by kernel_rfl) (fun _ _ _ h => h) (Or.inl ⟨by rfl, ?hy52⟩) (by assumption) ?rest52
                case hy52 => (intro w hSw; (try dsimp only at hSw); have ecbp0 := hSw.cell cbp0 id; have ecbp1 := hSw.cell cbp1 id; have ecbp2 := hSw.cell cbp2 id; have ecbp3 := hSw.cell cbp3 id; have ecbp4 := hSw.cell cbp4 id; have ecbp5 := hSw.cell cbp5 id; have ecbp6 := hSw.cell cbp6 id; have ecbp7 := hSw.cell cbp7 id; have ecbp8 := hSw.cell cbp8 id; have ecbp9 := hSw.cell cbp9 id; have ecbp10 := hSw.cell cbp10 id; have ecbp11 := hSw.cell cbp11 id; have ecbp12 := hSw.cell cbp12 id; have ecbp13 := hSw.cell cbp13 id; have ecbp14 := hSw.cell cbp14 id; go_simp <;> with_reducible rfl)
                try simp only [Act.put, List.setIfInBounds_toArray, List.set_cons_zero, List.set_cons_succ]
                refine wpAnyH_take (i := 7) (oi := { dst := some 133, op := Go.Op.move (Go.Operand.tmp 132), type := 4, pos := "law.go:56", after := #[{ on := 6, ground := Go.Ground.data }, { on := 1, ground := Go.Ground.chain }], guard := none }) (v := ?v53) rfl (by kernel_rfl) (by kernel_rfl) (by kernel_rfl) (fun _ _ _ h => h) (Or.inl ⟨by rfl, ?hy53⟩) (by assumption) ?rest53
                case hy53 => (intro w hSw; (try dsimp only at hSw); have ecbp0 := hSw.cell cbp0 id; have ecbp1 := hSw.cell cbp1 id; have ecbp2 := hSw.cell cbp2 id; have ecbp3 := hSw.cell cbp3 id; have ecbp4 := hSw.cell cbp4 id; have ecbp5 := hSw.cell cbp5 id; have ecbp6 := hSw.cell cbp6 id; have ecbp7 := hSw.cell cbp7 id; have ecbp8 := hSw.cell cbp8 id; have ecbp9 := hSw.cell cbp9 id; have ecbp10 := hSw.cell cbp10 id; have ecbp11 := hSw.cell cbp11 id; have ecbp12 := hSw.cell cbp12 id; have ecbp13 := hSw.cell cbp13 id; have ecbp14 := hSw.cell cbp14 id; go_simp <;> with_reducible rfl)
                try simp only [Act.put, List.setIfInBounds_toArray, List.set_cons_zero, List.set_cons_succ]
                refine wpAnyH_take (i := 8) (oi := { dst := some 134, op := Go.Op.fieldAddr 76 (Go.Operand.tmp 3) 0, type := 0, pos := "law.go:56", after := #[{ on := 7, ground := Go.Ground.guard }], guard := some (7, true) }) (v := ?v54) rfl (by kernel_rfl) (by kernel_rfl) (by kernel_rfl) (fun _ _ _ h => h) (Or.inl ⟨by rfl, ?hy54⟩) (by assumption) ?rest54
                case hy54 => (intro w hSw; (try dsimp only at hSw); have ecbp0 := hSw.cell cbp0 id; have ecbp1 := hSw.cell cbp1 id; have ecbp2 := hSw.cell cbp2 id; have ecbp3 := hSw.cell cbp3 id; have ecbp4 := hSw.cell cbp4 id; have ecbp5 := hSw.cell cbp5 id; have ecbp6 := hSw.cell cbp6 id; have ecbp7 := hSw.cell cbp7 id; have ecbp8 := hSw.cell cbp8 id; have ecbp9 := hSw.cell cbp9 id; have ecbp10 := hSw.cell cbp10 id; have ecbp11 := hSw.cell cbp11 id; have ecbp12 := hSw.cell cbp12 id; have ecbp13 := hSw.cell cbp13 id; have ecbp14 := hSw.cell cbp14 id; go_simp <;> with_reducible rfl)
                try simp only [Act.put, List.setIfInBounds_toArray, List.set_cons_zero, List.set_cons_succ]
                refine wpAnyH_take (i := 9) (oi := { dst := some 135, op := Go.Op.load 74 (Go.Operand.tmp 134), type := 74, pos := "law.go:56", after := #[{ on := 8, ground := Go.Ground.data }, { on := 7, ground := Go.Ground.guard }], guard := some (7, true) }) (v := ?v55) rfl (by kernel_rfl) (by kernel_rfl) (by kernel_rfl) (fun _ _ _ h => h) (Or.inl ⟨by rfl, ?hy55⟩) (by assumption) ?rest55
                case hy55 => (intro w hSw; (try dsimp only at hSw); have ecbp0 := hSw.cell cbp0 id; have ecbp1 := hSw.cell cbp1 id; have ecbp2 := hSw.cell cbp2 id; have ecbp3 := hSw.cell cbp3 id; have ecbp4 := hSw.cell cbp4 id; have ecbp5 := hSw.cell cbp5 id; have ecbp6 := hSw.cell cbp6 id; have ecbp7 := hSw.cell cbp7 id; have ecbp8 := hSw.cell cbp8 id; have ecbp9 := hSw.cell cbp9 id; have ecbp10 := hSw.cell cbp10 id; have ecbp11 := hSw.cell cbp11 id; have ecbp12 := hSw.cell cbp12 id; have ecbp13 := hSw.cell cbp13 id; have ecbp14 := hSw.cell cbp14 id; go_simp <;> with_reducible rfl)
                try simp only [Act.put, List.setIfInBounds_toArray, List.set_cons_zero, List.set_cons_succ]
                refine wpAnyH_take (i := 11) (oi := { dst := some 137, op := Go.Op.fieldAddr 76 (Go.Operand.tmp 3) 0, type := 0, pos := "law.go:56", after := #[{ on := 7, ground := Go.Ground.guard }], guard := some (7, true) }) (v := ?v56) rfl (by kernel_rfl) (by kernel_rfl) (by kernel_rfl) (fun _ _ _ h => h) (Or.inl ⟨by rfl, ?hy56⟩) (by assumption) ?rest56
                case hy56 => (intro w hSw; (try dsimp only at hSw); have ecbp0 := hSw.cell cbp0 id; have ecbp1 := hSw.cell cbp1 id; have ecbp2 := hSw.cell cbp2 id; have ecbp3 := hSw.cell cbp3 id; have ecbp4 := hSw.cell cbp4 id; have ecbp5 := hSw.cell cbp5 id; have ecbp6 := hSw.cell cbp6 id; have ecbp7 := hSw.cell cbp7 id; have ecbp8 := hSw.cell cbp8 id; have ecbp9 := hSw.cell cbp9 id; have ecbp10 := hSw.cell cbp10 id; have ecbp11 := hSw.cell cbp11 id; have ecbp12 := hSw.cell cbp12 id; have ecbp13 := hSw.cell cbp13 id; have ecbp14 := hSw.cell cbp14 id; go_simp <;> with_reducible rfl)
                try simp only [Act.put, List.setIfInBounds_toArray, List.set_cons_zero, List.set_cons_succ]
                refine wpAnyH_take (i := 12) (oi := { dst := some 138, op := Go.Op.indexAddr 74 (Go.Operand.tmp 137) (Go.Operand.const (Go.Value.int Go.IntKind.i64 0)), type := 0, pos := "law.go:56", after := #[{ on := 11, ground := Go.Ground.data }, { on := 7, ground := Go.Ground.guard }], guard := some (7, true) }) (v := ?v57) rfl (by kernel_rfl) (by kernel_rfl) (by kernel_rfl) (fun _ _ _ h => h) (Or.inl ⟨by rfl, ?hy57⟩) (by assumption) ?rest57
                case hy57 => (intro w hSw; (try dsimp only at hSw); have ecbp0 := hSw.cell cbp0 id; have ecbp1 := hSw.cell cbp1 id; have ecbp2 := hSw.cell cbp2 id; have ecbp3 := hSw.cell cbp3 id; have ecbp4 := hSw.cell cbp4 id; have ecbp5 := hSw.cell cbp5 id; have ecbp6 := hSw.cell cbp6 id; have ecbp7 := hSw.cell cbp7 id; have ecbp8 := hSw.cell cbp8 id; have ecbp9 := hSw.cell cbp9 id; have ecbp10 := hSw.cell cbp10 id; have ecbp11 := hSw.cell cbp11 id; have ecbp12 := hSw.cell cbp12 id; have ecbp13 := hSw.cell cbp13 id; have ecbp14 := hSw.cell cbp14 id; go_simp <;> with_reducible rfl)
                try simp only [Act.put, List.setIfInBounds_toArray, List.set_cons_zero, List.set_cons_succ]
                refine wpAnyH_take (i := 13) (oi := { dst := some 139, op := Go.Op.load 5 (Go.Operand.tmp 138), type := 5, pos := "law.go:56", after := #[{ on := 12, ground := Go.Ground.data }, { on := 7, ground := Go.Ground.guard }], guard := some (7, true) }) (v := ?v58) rfl (by kernel_rfl) (by kernel_rfl) (by kernel_rfl) (fun _ _ _ h => h) (Or.inl ⟨by rfl, ?hy58⟩) (by assumption) ?rest58
                case hy58 => (intro w hSw; (try dsimp only at hSw); have ecbp0 := hSw.cell cbp0 id; have ecbp1 := hSw.cell cbp1 id; have ecbp2 := hSw.cell cbp2 id; have ecbp3 := hSw.cell cbp3 id; have ecbp4 := hSw.cell cbp4 id; have ecbp5 := hSw.cell cbp5 id; have ecbp6 := hSw.cell cbp6 id; have ecbp7 := hSw.cell cbp7 id; have ecbp8 := hSw.cell cbp8 id; have ecbp9 := hSw.cell cbp9 id; have ecbp10 := hSw.cell cbp10 id; have ecbp11 := hSw.cell cbp11 id; have ecbp12 := hSw.cell cbp12 id; have ecbp13 := hSw.cell cbp13 id; have ecbp14 := hSw.cell cbp14 id; go_simp <;> with_reducible rfl)
                try simp only [Act.put, List.setIfInBounds_toArray, List.set_cons_zero, List.set_cons_succ]
                refine wpAnyH_take (i := 14) (oi := { dst := some 140, op := Go.Op.binOp Go.BinOp.rem 5 (Go.Operand.tmp 139) (Go.Operand.const (Go.Value.int Go.IntKind.u8 2)) 5, type := 5, pos := "law.go:56", after := #[{ on := 13, ground := Go.Ground.data }, { on := 7, ground := Go.Ground.guard }], guard := some (7, true) }) (v := ?v59) rfl (by kernel_rfl) (by kernel_rfl) (by kernel_rfl) (fun _ _ _ h => h) (Or.inl ⟨by rfl, ?hy59⟩) (by assumption) ?rest59
                case hy59 => (intro w hSw; (try dsimp only at hSw); have ecbp0 := hSw.cell cbp0 id; have ecbp1 := hSw.cell cbp1 id; have ecbp2 := hSw.cell cbp2 id; have ecbp3 := hSw.cell cbp3 id; have ecbp4 := hSw.cell cbp4 id; have ecbp5 := hSw.cell cbp5 id; have ecbp6 := hSw.cell cbp6 id; have ecbp7 := hSw.cell cbp7 id; have ecbp8 := hSw.cell cbp8 id; have ecbp9 := hSw.cell cbp9 id; have ecbp10 := hSw.cell cbp10 id; have ecbp11 := hSw.cell cbp11 id; have ecbp12 := hSw.cell cbp12 id; have ecbp13 := hSw.cell cbp13 id; have ecbp14 := hSw.cell cbp14 id; go_simp <;> with_reducible rfl)
                try simp only [Act.put, List.setIfInBounds_toArray, List.set_cons_zero, List.set_cons_succ]
                refine wpAnyH_take (i := 15) (oi := { dst := some 141, op := Go.Op.binOp Go.BinOp.eql 5 (Go.Operand.tmp 140) (Go.Operand.const (Go.Value.int Go.IntKind.u8 1)) 5, type := 4, pos := "law.go:56", after := #[{ on := 14, ground := Go.Ground.data }, { on := 7, ground := Go.Ground.guard }], guard := some (7, true) }) (v := ?v60) rfl (by kernel_rfl) (by kernel_rfl) (by kernel_rfl) (fun _ _ _ h => h) (Or.inl ⟨by rfl, ?hy60⟩) (by assumption) ?rest60
                case hy60 => (intro w hSw; (try dsimp only at hSw); have ecbp0 := hSw.cell cbp0 id; have ecbp1 := hSw.cell cbp1 id; have ecbp2 := hSw.cell cbp2 id; have ecbp3 := hSw.cell cbp3 id; have ecbp4 := hSw.cell cbp4 id; have ecbp5 := hSw.cell cbp5 id; have ecbp6 := hSw.cell cbp6 id; have ecbp7 := hSw.cell cbp7 id; have ecbp8 := hSw.cell cbp8 id; have ecbp9 := hSw.cell cbp9 id; have ecbp10 := hSw.cell cbp10 id; have ecbp11 := hSw.cell cbp11 id; have ecbp12 := hSw.cell cbp12 id; have ecbp13 := hSw.cell cbp13 id; have ecbp14 := hSw.cell cbp14 id; go_simp <;> with_reducible rfl)
                try simp only [Act.put, List.setIfInBounds_toArray, List.set_cons_zero, List.set_cons_succ]
                refine wpAnyH_ready (rs := [10]) (by kernel_rfl) (by simp) ?_
                refine AllReadyH.cons (o := { dst := some 136, op := Go.Op.call { callee := Go.Callee.value (Go.Operand.func 40), args := #[Go.Operand.tmp 135], argTypes := #[74] }, type := 4, pos := "law.go:56", after := #[{ on := 9, ground := Go.Ground.data }, { on := 7, ground := Go.Ground.chain }, { on := 7, ground := Go.Ground.guard }], guard := some (7, true) }) rfl (fun K hK => ?_) AllReadyH.nil
                go_simp
                refine (group_any xd0 xd1 xd2 xd3 xd4 xd5 _).mono ?_
                rintro e w8 ⟨rfl, hx⟩
                have hS1 := hS0.trans hx
                clear hx
                refine hK.out _ _ hS1 (fun _ => ?_)
                refine wpAnyH_take (i := 16) (oi := { dst := some 142, op := Go.Op.binOp Go.BinOp.eql 4 (Go.Operand.tmp 136) (Go.Operand.tmp 141) 4, type := 4, pos := "law.go:56", after := #[{ on := 10, ground := Go.Ground.data }, { on := 15, ground := Go.Ground.data }, { on := 7, ground := Go.Ground.guard }], guard := some (7, true) }) (v := ?v61) rfl (by kernel_rfl) (by kernel_rfl) (by kernel_rfl) (fun _ _ _ h => h) (Or.inl ⟨by rfl, ?hy61⟩) (by assumption) ?rest61
                case hy61 => (intro w hSw; (try dsimp only at hSw); have ecbp0 := hSw.cell cbp0 id; have ecbp1 := hSw.cell cbp1 id; have ecbp2 := hSw.cell cbp2 id; have ecbp3 := hSw.cell cbp3 id; have ecbp4 := hSw.cell cbp4 id; have ecbp5 := hSw.cell cbp5 id; have ecbp6 := hSw.cell cbp6 id; have ecbp7 := hSw.cell cbp7 id; have ecbp8 := hSw.cell cbp8 id; have ecbp9 := hSw.cell cbp9 id; have ecbp10 := hSw.cell cbp10 id; have ecbp11 := hSw.cell cbp11 id; have ecbp12 := hSw.cell cbp12 id; have ecbp13 := hSw.cell cbp13 id; have ecbp14 := hSw.cell cbp14 id; go_simp <;> with_reducible rfl)
                try simp only [Act.put, List.setIfInBounds_toArray, List.set_cons_zero, List.set_cons_succ]
                refine wpAnyH_take (i := 17) (oi := { dst := some 143, op := Go.Op.pick (Go.Operand.tmp 133) (Go.Operand.tmp 142) (Go.Operand.const (Go.Value.bool false)), type := 4, pos := "law.go:56", after := #[{ on := 7, ground := Go.Ground.data }, { on := 16, ground := Go.Ground.data }], guard := none }) (v := ?v62) rfl (by kernel_rfl) (by kernel_rfl) (by kernel_rfl) (fun _ _ _ h => h) (Or.inl ⟨by rfl, ?hy62⟩) (by assumption) ?rest62
                case hy62 => (intro w hSw; (try dsimp only at hSw); have ecbp0 := hSw.cell cbp0 id; have ecbp1 := hSw.cell cbp1 id; have ecbp2 := hSw.cell cbp2 id; have ecbp3 := hSw.cell cbp3 id; have ecbp4 := hSw.cell cbp4 id; have ecbp5 := hSw.cell cbp5 id; have ecbp6 := hSw.cell cbp6 id; have ecbp7 := hSw.cell cbp7 id; have ecbp8 := hSw.cell cbp8 id; have ecbp9 := hSw.cell cbp9 id; have ecbp10 := hSw.cell cbp10 id; have ecbp11 := hSw.cell cbp11 id; have ecbp12 := hSw.cell cbp12 id; have ecbp13 := hSw.cell cbp13 id; have ecbp14 := hSw.cell cbp14 id; go_simp <;> with_reducible rfl)
                try simp only [Act.put, List.setIfInBounds_toArray, List.set_cons_zero, List.set_cons_succ]
                refine wpAnyH_take (i := 18) (oi := { dst := some 4, op := Go.Op.assign (Go.Operand.tmp 143), type := 4, pos := "law.go:56", after := #[{ on := 17, ground := Go.Ground.data }, { on := 10, ground := Go.Ground.chain }, { on := 0, ground := Go.Ground.phase }, { on := 1, ground := Go.Ground.phase }, { on := 2, ground := Go.Ground.phase }, { on := 3, ground := Go.Ground.phase }, { on := 4, ground := Go.Ground.phase }, { on := 5, ground := Go.Ground.phase }, { on := 6, ground := Go.Ground.phase }, { on := 7, ground := Go.Ground.phase }, { on := 8, ground := Go.Ground.phase }, { on := 9, ground := Go.Ground.phase }, { on := 10, ground := Go.Ground.phase }, { on := 11, ground := Go.Ground.phase }, { on := 12, ground := Go.Ground.phase }, { on := 13, ground := Go.Ground.phase }, { on := 14, ground := Go.Ground.phase }, { on := 15, ground := Go.Ground.phase }, { on := 16, ground := Go.Ground.phase }, { on := 17, ground := Go.Ground.phase }], guard := none }) (v := ?v63) rfl (by kernel_rfl) (by kernel_rfl) (by kernel_rfl) (fun _ _ _ h => h) (Or.inl ⟨by rfl, ?hy63⟩) (by assumption) ?rest63
                case hy63 => (intro w hSw; (try dsimp only at hSw); have ecbp0 := hSw.cell cbp0 id; have ecbp1 := hSw.cell cbp1 id; have ecbp2 := hSw.cell cbp2 id; have ecbp3 := hSw.cell cbp3 id; have ecbp4 := hSw.cell cbp4 id; have ecbp5 := hSw.cell cbp5 id; have ecbp6 := hSw.cell cbp6 id; have ecbp7 := hSw.cell cbp7 id; have ecbp8 := hSw.cell cbp8 id; have ecbp9 := hSw.cell cbp9 id; have ecbp10 := hSw.cell cbp10 id; have ecbp11 := hSw.cell cbp11 id; have ecbp12 := hSw.cell cbp12 id; have ecbp13 := hSw.cell cbp13 id; have ecbp14 := hSw.cell cbp14 id; go_simp <;> with_reducible rfl)
                try simp only [Act.put, List.setIfInBounds_toArray, List.set_cons_zero, List.set_cons_succ]
                refine wpAnyH_done (by kernel_rfl) ?_ _
                go_wp2_with fail
                go_ret
                refine ⟨?_, (((((((((((((((((HX_w1.out.trans HX_w2.out).trans HX_w3.out).trans HX_w4.out).trans HX_w5.out).trans HX_w6.out).trans HX_w7.out).trans HX_wc.out).andThen HX_wr.out (fun i hi e => by have := ((HX_w1.out.trans HX_w2.out).trans HX_w3.out).size; have := hb_g4; omega)).trans HX_wf.out).andThen HX_wg.out (fun i hi e => by have := hb_bp; omega)).trans HX_wb.out).trans HX_wo.out).trans HX_wq.out).trans HX_wt.out).andThen HX_wr_1.out (fun i hi e => by have := ((((((((((HX_w1.out.trans HX_w2.out).trans HX_w3.out).trans HX_w4.out).trans HX_w5.out).trans HX_w6.out).trans HX_w7.out).trans HX_wc.out).andThen HX_wr.out (fun i hi e => by have := ((HX_w1.out.trans HX_w2.out).trans HX_w3.out).size; have := hb_g4; omega)).trans HX_wf.out).andThen HX_wg.out (fun i hi e => by have := hb_bp; omega)).size; have := hb_gB; omega)).trans HX_wk.out)).trans hS1⟩
                simp only [Array.getD_eq_getD_getElem?, List.getElem?_toArray, List.getElem?_cons_succ, List.getElem?_cons_zero, Option.getD_some]
                simp
                rw [Int.tmod_eq_emod_of_nonneg (Int.natCast_nonneg _)]
                exact (mod_two xd0).symm
end Go.Proofs.YtkgieciamophkaaDoor
