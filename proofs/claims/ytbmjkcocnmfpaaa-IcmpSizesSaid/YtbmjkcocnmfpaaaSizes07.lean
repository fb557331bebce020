/-
  The walk of IcmpSizes. By an AI agent.
-/
import Derived.Test.YtbmjkcocnmfpaaaUnlike07
namespace Go.Proofs.Ytbmjkcocnmfpaaa
open Go.RowKit

set_option maxRecDepth 100000 in
set_option maxHeartbeats 16000000 in
theorem sizes07_any (p : Pk) (A : Option Addr) (c : Nat) (n ty co : Int) (w : World) (ok : p.ok) (hp : RB w (fun _ => True) (.slice A p.b.length c) p.b) (hn : 0 ≤ n ∧ n ≤ 4294967295) (hty : 0 ≤ ty ∧ ty ≤ 255) (hco : 0 ≤ co ∧ co ≤ 255) :
    Calls Try.prog 4 #[pkv p (.slice A p.b.length c), .int .u32 n, .int .u8 ty, .int .u8 co] w fun e w' => e = .returned (.bool true) ∧ Ex (fun _ => False) w w' := by
  obtain ⟨xtos, xid, xdf, xmf, xoff, xttl, xpr, xsrc, xdst, xb⟩ := p
  simp only at hp
  have hmc : xb.length ≤ c := by obtain ⟨_, _, _, e, h, _⟩ := hp; injection e with _ _ e3; rw [e3]; exact h
  obtain ⟨xl, hk, hk1, hk2, hxl⟩ := ms_cut xb
  have hki : (xl.length : Int) ≤ (xb.length : Int) := by omega
  have hkc : xl.length ≤ c := by omega
  have hp1 := hp.take 2000
  rw [← hxl] at hp1
  obtain ⟨k0, k1, _, k3, _, k5, k6⟩ := ok
  simp only at k0 k1 k3 k5 k6
  have okx : (⟨xtos, xid, xdf, xmf, 0, xttl, 17, xsrc, xdst, xl⟩ : Pk).ok := ⟨k0, k1, ⟨by show (-9223372036854775808 : Int) ≤ 0; omega, by show (0 : Int) ≤ 9223372036854775807; omega⟩, k3, ⟨by show (0 : Int) ≤ 17; omega, by show (17 : Int) ≤ 255; omega⟩, k5, k6⟩
  have HP := Lib.hid hp1
  have OKX := Lib.hid okx
  have HTY := Lib.hid hty
  have HCO := Lib.hid hco
  have HNN := Lib.hid hn
  clear hn hp hp1 okx hxl hmc k0 k1 k3 k5 k6 hty hco
  show Calls Try.prog 4 #[.agg #[.int .u8 xtos, .int .u16 xid, .bool xdf, .bool xmf, .int .i64 xoff, .int .u8 xttl, .int .u8 xpr, .int .u32 xsrc, .int .u32 xdst, .slice A xb.length c], .int .u32 n, .int .u8 ty, .int .u8 co] w _
  go_enter Try.func4, Try.ntmps4
  go_upto_region 1 with fail
  have hx : Ex (fun _ => False) w (w.alloc (.cells #[.int .u8 xtos, .int .u16 xid, .bool xdf, .bool xmf, .int .i64 xoff, .int .u8 xttl, .int .u8 xpr, .int .u32 xsrc, .int .u32 xdst, .slice A xb.length c] 35)) := (Ex.refl _ w).alloc _
  have hb : (w.alloc (.cells #[.int .u8 xtos, .int .u16 xid, .bool xdf, .bool xmf, .int .i64 xoff, .int .u8 xttl, .int .u8 xpr, .int .u32 xsrc, .int .u32 xdst, .slice A xb.length c] 35)).heap[w.heap.size]? = some (.cells #[.int .u8 xtos, .int .u16 xid, .bool xdf, .bool xmf, .int .i64 xoff, .int .u8 xttl, .int .u8 xpr, .int .u32 xsrc, .int .u32 xdst, .slice A xb.length c] 35) := heap_alloc_new w _
  obtain ⟨bp, hbp⟩ : ∃ bp, bp = w.heap.size := ⟨_, rfl⟩
  have hb_bp : w.heap.size ≤ bp := by omega
  rw [← hbp] at hb
  try simp only [← hbp]
  generalize w.alloc (.cells #[.int .u8 xtos, .int .u16 xid, .bool xdf, .bool xmf, .int .i64 xoff, .int .u8 xttl, .int .u8 xpr, .int .u32 xsrc, .int .u32 xdst, .slice A xb.length c] 35) = w1 at hx hb ⊢
  clear hbp
  have HX_w1 := Lib.hid hx
  clear hx
  have B_bp := Lib.hid hb
  clear hb
  go_wp2_with fail
  refine (shown7_any w1).mono ?_
  rintro e w2 ⟨rfl, hx⟩
  have HX_w2 := Lib.hid hx
  clear hx
  have cbp9 := row_cell (k := 9) (v := .slice A xb.length c) ((HX_w2.out.block bp (row_lt B_bp.out) id).trans B_bp.out) rfl
  have fbp9 := row_frozen ((HX_w2.out.block bp (row_lt B_bp.out) id).trans B_bp.out) 9
  go_upto_region 3 with fail
  replace B_bp := Lib.hid ((HX_w2.out.block bp (row_lt B_bp.out) id).trans B_bp.out)
  have hb : (w2.setCell ⟨bp, 9, none⟩ (.slice A xl.length c)).heap[bp]? = some (.cells #[.int .u8 xtos, .int .u16 xid, .bool xdf, .bool xmf, .int .i64 xoff, .int .u8 xttl, .int .u8 xpr, .int .u32 xsrc, .int .u32 xdst, .slice A xl.length c] 35) := (row_set B_bp.out 9 (.slice A xl.length c))
  have hx : Ex (fun j => j = bp) w2 (w2.setCell ⟨bp, 9, none⟩ (.slice A xl.length c)) := ((Ex.refl (fun j => j = bp) w2).setCell (p := ⟨bp, 9, none⟩) (.inl rfl) (.slice A xl.length c))
  clear cbp9 fbp9 hk
  generalize (w2.setCell ⟨bp, 9, none⟩ (.slice A xl.length c)) = w3 at hx hb ⊢
  clear B_bp
  have HX_w3 := Lib.hid hx
  clear hx
  have B_bp := Lib.hid hb
  clear hb
  have cbp6 := row_cell (k := 6) (v := .int .u8 xpr) B_bp.out rfl
  have fbp6 := row_frozen B_bp.out 6
  go_upto_region 4 with fail
  have hb : (w3.setCell ⟨bp, 6, none⟩ (.int .u8 17)).heap[bp]? = some (.cells #[.int .u8 xtos, .int .u16 xid, .bool xdf, .bool xmf, .int .i64 xoff, .int .u8 xttl, .int .u8 17, .int .u32 xsrc, .int .u32 xdst, .slice A xl.length c] 35) := (row_set B_bp.out 6 (.int .u8 17))
  have hx : Ex (fun j => j = bp) w3 (w3.setCell ⟨bp, 6, none⟩ (.int .u8 17)) := ((Ex.refl (fun j => j = bp) w3).setCell (p := ⟨bp, 6, none⟩) (.inl rfl) (.int .u8 17))
  clear cbp6 fbp6
  generalize (w3.setCell ⟨bp, 6, none⟩ (.int .u8 17)) = w4 at hx hb ⊢
  clear B_bp
  have HX_w4 := Lib.hid hx
  clear hx
  have B_bp := Lib.hid hb
  clear hb
  have cbp4 := row_cell (k := 4) (v := .int .i64 xoff) B_bp.out rfl
  have fbp4 := row_frozen B_bp.out 4
  go_upto_region 5 with fail
  have hb : (w4.setCell ⟨bp, 4, none⟩ (.int .i64 0)).heap[bp]? = some (.cells #[.int .u8 xtos, .int .u16 xid, .bool xdf, .bool xmf, .int .i64 0, .int .u8 xttl, .int .u8 17, .int .u32 xsrc, .int .u32 xdst, .slice A xl.length c] 35) := (row_set B_bp.out 4 (.int .i64 0))
  have hx : Ex (fun j => j = bp) w4 (w4.setCell ⟨bp, 4, none⟩ (.int .i64 0)) := ((Ex.refl (fun j => j = bp) w4).setCell (p := ⟨bp, 4, none⟩) (.inl rfl) (.int .i64 0))
  clear cbp4 fbp4
  generalize (w4.setCell ⟨bp, 4, none⟩ (.int .i64 0)) = w5 at hx hb ⊢
  clear B_bp
  have HX_w5 := Lib.hid hx
  clear hx
  have B_bp := Lib.hid hb
  clear hb
  have cbp0 := row_cell (k := 0) (v := .int .u8 xtos) B_bp.out rfl
  have cbp1 := row_cell (k := 1) (v := .int .u16 xid) B_bp.out rfl
  have cbp2 := row_cell (k := 2) (v := .bool xdf) B_bp.out rfl
  have cbp3 := row_cell (k := 3) (v := .bool xmf) B_bp.out rfl
  have cbp4 := row_cell (k := 4) (v := .int .i64 0) B_bp.out rfl
  have cbp5 := row_cell (k := 5) (v := .int .u8 xttl) B_bp.out rfl
  have cbp6 := row_cell (k := 6) (v := .int .u8 17) B_bp.out rfl
  have cbp7 := row_cell (k := 7) (v := .int .u32 xsrc) B_bp.out rfl
  have cbp8 := row_cell (k := 8) (v := .int .u32 xdst) B_bp.out rfl
  have cbp9 := row_cell (k := 9) (v := .slice A xl.length c) B_bp.out rfl
  by_cases hright : (⟨xtos, xid, xdf, xmf, 0, xttl, 17, xsrc, xdst, xl⟩ : Pk).right = 0
  case neg =>
    have HRT := Lib.hid hright
    clear hright
    go_wp2_with fail
    refine (pbytes_no _ (⟨xtos, xid, xdf, xmf, 0, xttl, 17, xsrc, xdst, xl⟩ : Pk) A c w5 OKX.out (RB.keep HP.out ((((HX_w1.out.trans HX_w2.out).andThen HX_w3.out (fun i hi e => by have := hb_bp; omega)).andThen HX_w4.out (fun i hi e => by have := hb_bp; omega)).andThen HX_w5.out (fun i hi e => by have := hb_bp; omega)) (fun _ _ _ => id)) (by show xl.length ≤ _; omega) HRT.out).mono ?_
    rintro e w6 ⟨t6, y6, rfl, he, hx⟩
    clear he cbp0 cbp1 cbp2 cbp3 cbp4 cbp5 cbp6 cbp7 cbp8 cbp9
    have HX_w6 := Lib.hid hx
    clear hx
    go_wp2_with fail
    go_ret
    exact ⟨rfl, (((((HX_w1.out.trans HX_w2.out).andThen HX_w3.out (fun i hi e => by have := hb_bp; omega)).andThen HX_w4.out (fun i hi e => by have := hb_bp; omega)).andThen HX_w5.out (fun i hi e => by have := hb_bp; omega)).trans HX_w6.out)⟩
  have HRT := Lib.hid hright
  clear hright
  go_wp2_with fail
  refine (pbytes_yes _ (⟨xtos, xid, xdf, xmf, 0, xttl, 17, xsrc, xdst, xl⟩ : Pk) A c w5 OKX.out (RB.keep HP.out ((((HX_w1.out.trans HX_w2.out).andThen HX_w3.out (fun i hi e => by have := hb_bp; omega)).andThen HX_w4.out (fun i hi e => by have := hb_bp; omega)).andThen HX_w5.out (fun i hi e => by have := hb_bp; omega)) (fun _ _ _ => id)) (by show xl.length ≤ _; omega) HRT.out).mono ?_
  rintro e w6 ⟨g6, c6, rfl, ho, hb_g6, hg6, hx⟩
  clear cbp0 cbp1 cbp2 cbp3 cbp4 cbp5 cbp6 cbp7 cbp8 cbp9
  obtain ⟨hpe, hpp⟩ := pb_back OKX.out HRT.out []
  rw [List.append_nil] at hpe hpp
  have hpl0 := pb_len (⟨xtos, xid, xdf, xmf, 0, xttl, 17, xsrc, xdst, xl⟩ : Pk)
  obtain ⟨M, hM⟩ : ∃ M, M = pb (⟨xtos, xid, xdf, xmf, 0, xttl, 17, xsrc, xdst, xl⟩ : Pk) := ⟨_, rfl⟩
  rw [← hM] at ho hpe hpp hpl0 ⊢
  have hpl : M.length = 20 + xl.length := hpl0
  have hq : quiet (ppk M) = false := by rw [hpp]; simp [quiet]
  have hem : ∀ ty co n : Int, ems M ty co n = ⟨ty, co, n, M.take (20 + min xl.length 8)⟩ := by intro ty co n; unfold ems; rw [hpp]
  obtain ⟨R, hR⟩ : ∃ R, R = M.take (20 + min xl.length 8) := ⟨_, rfl⟩
  simp only [← hR] at hem
  have hml : M.length ≤ 2020 := by omega
  have HPE := Lib.hid hpe
  have HQ := Lib.hid hq
  have HEM := Lib.hid hem
  have HML := Lib.hid hml
  clear hpl0 hM hpe hpp hpl hq hem hR hml hki hkc hk1
  have HX_w6 := Lib.hid hx
  clear hx
  have HO6 := Lib.hid ho
  clear ho
  have hrb := HO6.out.rb
  go_wp2_with fail
  refine (merror_yes _ (some ⟨g6, 0, none⟩) M.length c6 M 3 4 n w6 hrb (fun h => by cases h) (by have := HML.out; omega) HPE.out HQ.out).mono ?_
  rintro e w7 ⟨A7, c7, rfl, ho, hx⟩
  rw [HEM.out] at ho ⊢
  have hv : msv ⟨3, 4, n, R⟩ (.slice A7 (⟨3, 4, n, R⟩ : Ms).b.length c7) = .agg #[.int .u8 3, .int .u8 4, .int .u32 n, .slice A7 R.length c7] := rfl
  rw [hv]
  have ho' : OB w7 w6.heap.size (.slice A7 R.length c7) R := ho
  clear hv hrb ho
  have HX_w7 := Lib.hid hx
  clear hx
  have HO7 := Lib.hid ho'
  clear ho'
  go_upto_region 9 with fail
  have hx : Ex (fun _ => False) w7 (w7.alloc (.cells #[.int .u8 3, .int .u8 4, .int .u32 n, .slice A7 R.length c7] 25)) := (Ex.refl _ w7).alloc _
  have hb : (w7.alloc (.cells #[.int .u8 3, .int .u8 4, .int .u32 n, .slice A7 R.length c7] 25)).heap[w7.heap.size]? = some (.cells #[.int .u8 3, .int .u8 4, .int .u32 n, .slice A7 R.length c7] 25) := heap_alloc_new w7 _
  obtain ⟨mb_, hmb_⟩ : ∃ mb_, mb_ = w7.heap.size := ⟨_, rfl⟩
  have hb_mb_ : w7.heap.size ≤ mb_ := by omega
  rw [← hmb_] at hb
  try simp only [← hmb_]
  generalize w7.alloc (.cells #[.int .u8 3, .int .u8 4, .int .u32 n, .slice A7 R.length c7] 25) = w8 at hx hb ⊢
  clear hmb_
  have HX_w8 := Lib.hid hx
  clear hx
  have B_mb_ := Lib.hid hb
  clear hb
  have cmb_0 := row_cell (k := 0) (v := .int .u8 3) B_mb_.out rfl
  have cmb_1 := row_cell (k := 1) (v := .int .u8 4) B_mb_.out rfl
  have cmb_2 := row_cell (k := 2) (v := .int .u32 n) B_mb_.out rfl
  have cmb_3 := row_cell (k := 3) (v := .slice A7 R.length c7) B_mb_.out rfl
  have hv : (⟨3, 4, n, []⟩ : Ms).mtu = (n % 65536, true) := if_pos ⟨rfl, rfl⟩
  go_wp2_with fail
  refine (mtu_any ⟨3, 4, n, []⟩ ⟨⟨by show (0 : Int) ≤ 3; omega, by show (3 : Int) ≤ 255; omega⟩, ⟨by show (0 : Int) ≤ 4; omega, by show (4 : Int) ≤ 255; omega⟩, HNN.out⟩ (.slice A7 R.length c7) w8 ⟨_, _, _, rfl⟩).mono ?_
  rintro e w9 ⟨rfl, hx⟩
  rw [hv]
  clear hv cmb_0 cmb_1 cmb_2 cmb_3
  have HX_w9 := Lib.hid hx
  clear hx
  have hrb := (OB.keep HO6.out ((HX_w7.out.trans HX_w8.out).trans HX_w9.out) (fun _ _ _ _ => id)).rb
  go_wp2_with fail
  refine (merror_yes _ (some ⟨g6, 0, none⟩) M.length c6 M ty co n w9 hrb (fun h => by cases h) (by have := HML.out; omega) HPE.out HQ.out).mono ?_
  rintro e wA ⟨AA, cA, rfl, ho, hx⟩
  rw [HEM.out] at ho ⊢
  have hv : msv ⟨ty, co, n, R⟩ (.slice AA (⟨ty, co, n, R⟩ : Ms).b.length cA) = .agg #[.int .u8 ty, .int .u8 co, .int .u32 n, .slice AA R.length cA] := rfl
  rw [hv]
  have ho' : OB wA w9.heap.size (.slice AA R.length cA) R := ho
  clear hv hrb ho
  have HX_wA := Lib.hid hx
  clear hx
  have HOA := Lib.hid ho'
  clear ho'
  go_upto_region 11 with fail
  have hx : Ex (fun _ => False) wA (wA.alloc (.cells #[.int .u8 ty, .int .u8 co, .int .u32 n, .slice AA R.length cA] 25)) := (Ex.refl _ wA).alloc _
  have hb : (wA.alloc (.cells #[.int .u8 ty, .int .u8 co, .int .u32 n, .slice AA R.length cA] 25)).heap[wA.heap.size]? = some (.cells #[.int .u8 ty, .int .u8 co, .int .u32 n, .slice AA R.length cA] 25) := heap_alloc_new wA _
  obtain ⟨xm, hxm⟩ : ∃ xm, xm = wA.heap.size := ⟨_, rfl⟩
  have hb_xm : wA.heap.size ≤ xm := by omega
  rw [← hxm] at hb
  try simp only [← hxm]
  generalize wA.alloc (.cells #[.int .u8 ty, .int .u8 co, .int .u32 n, .slice AA R.length cA] 25) = wB at hx hb ⊢
  clear hxm
  have HX_wB := Lib.hid hx
  clear hx
  have B_xm := Lib.hid hb
  clear hb
  have cxm0 := row_cell (k := 0) (v := .int .u8 ty) B_xm.out rfl
  have cxm1 := row_cell (k := 1) (v := .int .u8 co) B_xm.out rfl
  have cxm2 := row_cell (k := 2) (v := .int .u32 n) B_xm.out rfl
  have cxm3 := row_cell (k := 3) (v := .slice AA R.length cA) B_xm.out rfl
  go_wp2_with fail
  refine (mtu_any ⟨ty, co, n, []⟩ ⟨HTY.out, HCO.out, HNN.out⟩ (.slice AA R.length cA) wB ⟨_, _, _, rfl⟩).mono ?_
  rintro e wC ⟨rfl, hx⟩
  clear cxm0 cxm1 cxm2 cxm3
  obtain ⟨mt, hmt⟩ : ∃ mt, mt = (⟨ty, co, n, []⟩ : Ms).mtu := ⟨_, rfl⟩
  rw [← hmt]
  have hm2 : mt.2 = (decide (ty = 3) && decide (co = 4)) := by
    rw [hmt]
    unfold Ms.mtu
    by_cases h1 : ty = 3
    · by_cases h2 : co = 4
      · simp [h1, h2]
      · simp [h1, h2]
    · simp [h1]
  clear hmt
  obtain ⟨m1, m2⟩ := mt
  simp only at hm2 ⊢
  subst hm2
  have HX_wC := Lib.hid hx
  clear hx
  go_upto_region 12 with fail
  replace HO7 := Lib.hid (OB.keep HO7.out ((((HX_w8.out.trans HX_w9.out).trans HX_wA.out).trans HX_wB.out).trans HX_wC.out) (fun _ _ _ _ => id))
  replace HOA := Lib.hid (OB.keep HOA.out (HX_wB.out.trans HX_wC.out) (fun _ _ _ _ => id))
  have cmb_3 := row_cell (k := 3) (v := .slice A7 R.length c7) (((((HX_w9.out.trans HX_wA.out).trans HX_wB.out).trans HX_wC.out).block mb_ (row_lt B_mb_.out) id).trans B_mb_.out) rfl
  replace B_xm := Lib.hid ((HX_wC.out.block xm (row_lt B_xm.out) id).trans B_xm.out)
  have cxm2 := row_cell (k := 2) (v := .int .u32 n) B_xm.out rfl
  have cxm3 := row_cell (k := 3) (v := .slice AA R.length cA) B_xm.out rfl
  have hn0 := HNN.out
  have q1 : n.tmod 65536 = n % 65536 := Int.tmod_eq_emod_of_nonneg (by omega)
  have q2 := HO7.out.rb.str (Pr := Try.prog) 23 9 5 Try.underlying23 Try.underlying5 Try.underlying9
  have q3 := HOA.out.rb.str (Pr := Try.prog) 23 9 5 Try.underlying23 Try.underlying5 Try.underlying9
  have q4 : ((bs R).toList == (bs R).toList) = true := by simp
  have e3 : (ty == 3) = decide (ty = 3) := by by_cases h : ty = 3 <;> simp [h]
  have e4 : (co == 4) = decide (co = 4) := by by_cases h : co = 4 <;> simp [h]
  have q5 : wrap64 (n % 65536) = n % 65536 := by unfold wrap64; omega
  clear hn0
  have HXE := Lib.hid (((((((((((HX_w1.out.trans HX_w2.out).andThen HX_w3.out (fun i hi e => by have := hb_bp; omega)).andThen HX_w4.out (fun i hi e => by have := hb_bp; omega)).andThen HX_w5.out (fun i hi e => by have := hb_bp; omega)).trans HX_w6.out).trans HX_w7.out).trans HX_w8.out).trans HX_w9.out).trans HX_wA.out).trans HX_wB.out).trans HX_wC.out)
  by_cases d3 : ty = 3
  · subst d3
    by_cases d4 : co = 4
    · subst d4
      go_wp2_with fail
      go_ret
      exact ⟨rfl, HXE.out⟩
    · rw [decide_eq_false d4] at e4 ⊢
      clear d4
      go_wp2_with fail
      go_ret
      exact ⟨rfl, HXE.out⟩
  · rw [decide_eq_false d3] at e3 ⊢
    clear d3 e4
    go_wp2_with fail
    go_ret
    exact ⟨rfl, HXE.out⟩
end Go.Proofs.Ytbmjkcocnmfpaaa
