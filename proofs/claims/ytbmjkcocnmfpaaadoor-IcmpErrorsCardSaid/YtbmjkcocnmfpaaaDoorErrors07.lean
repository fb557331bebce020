/-
  The walk of IcmpErrors. By an AI agent.
-/
import Derived.Test.YtbmjkcocnmfpaaaDoorBack07
namespace Go.Proofs.YtbmjkcocnmfpaaaDoor
open Go.RowKit

theorem quiet_off {p : Pk} (h : quiet p = true) : p.off ≠ 0 ∨ p.pr = 1 := by
  unfold quiet at h
  simp only [Bool.or_eq_true, Bool.and_eq_true, decide_eq_true_eq] at h
  rcases h with h | h
  · exact .inl h
  · exact .inr h.1
theorem quiet_no {p : Pk} (h : quiet p = false) : p.off = 0 := by
  unfold quiet at h
  simp only [Bool.or_eq_false_iff, decide_eq_false_iff_not, Decidable.not_not] at h
  exact h.1
/-- the packet that tells of an error -/
def tells7 (s d : Int) (m : Ms) : Pk := ⟨0, 0, false, false, 0, 0, 1, s, d, mb m⟩
theorem tells7_right (s d : Int) (m : Ms) (h : m.b.length ≤ 1000) : (tells7 s d m).right = 0 := by
  unfold Pk.right
  have e := mb_len m
  rw [if_neg (by simp [tells7]), if_neg (by simp only [tells7]; omega)]
theorem tells7_ok (s d : Int) (m : Ms) (hs : 0 ≤ s ∧ s ≤ 4294967295) (hd : 0 ≤ d ∧ d ≤ 4294967295) : (tells7 s d m).ok := by
  refine ⟨⟨?_, ?_⟩, ⟨?_, ?_⟩, ⟨?_, ?_⟩, ⟨?_, ?_⟩, ⟨?_, ?_⟩, hs, hd⟩ <;> simp [tells7]
theorem tells7_quiet (s d : Int) (m : Ms) (h0 : 0 ≤ m.ty) (h1 : m.ty ≤ 255) : quiet (tells7 s d m) = !(decide (m.ty = 8) || decide (m.ty = 0)) := by
  have e : (mb m).getD 0 0 = by8 m.ty := rfl
  have f : (mb m).length ≠ 0 := by rw [mb_len]; omega
  have b := by8_toNat m.ty
  have e8 : decide (by8 m.ty = 8) = decide (m.ty = 8) := by
    by_cases h : m.ty = 8
    · rw [h]; rfl
    · rw [decide_eq_false h, decide_eq_false_iff_not]; intro h'; rw [h'] at b; apply h; have : ((8 : UInt8).toNat : Int) = 8 := rfl; omega
  have e0 : decide (by8 m.ty = 0) = decide (m.ty = 0) := by
    by_cases h : m.ty = 0
    · rw [h]; rfl
    · rw [decide_eq_false h, decide_eq_false_iff_not]; intro h'; rw [h'] at b; apply h; have : ((0 : UInt8).toNat : Int) = 0 := rfl; omega
  unfold quiet tells7
  simp only [e, f, e8, e0]
  simp
set_option maxRecDepth 100000 in
set_option maxHeartbeats 16000000 in
theorem errors07_any (p : Pk) (A : Option Addr) (c : Nat) (ty co rest : Int) (w : World) (ok : p.ok) (hp : RB w (fun _ => True) (.slice A p.b.length c) p.b) (hty : 0 ≤ ty ∧ ty ≤ 255) (hco : 0 ≤ co ∧ co ≤ 255) (hre : 0 ≤ rest ∧ rest ≤ 4294967295) (hg : ET w) :
    Calls Tryd.prog 4 #[pkv p (.slice A p.b.length c), .int .u8 ty, .int .u8 co, .int .u32 rest] w fun e w' => e = .returned (.bool true) ∧ Ex (fun _ => False) w w' := by
  obtain ⟨xtos, xid, xdf, xmf, xoff, xttl, xpr, xsrc, xdst, xb⟩ := p
  simp only at hp
  have hmc : xb.length ≤ c := by obtain ⟨_, _, _, e, h, _⟩ := hp; injection e with _ _ e3; rw [e3]; exact h
  obtain ⟨xl, hk, hk1, hk2, hxl⟩ := ms_cut xb
  have hki : (xl.length : Int) ≤ (xb.length : Int) := by omega
  have hkc : xl.length ≤ c := by omega
  have hp1 := hp.take 2000
  rw [← hxl] at hp1
  have okx : (⟨xtos, xid, xdf, xmf, xoff, xttl, xpr, xsrc, xdst, xl⟩ : Pk).ok := ok
  have HP := Lib.hid hp1
  have OKX := Lib.hid okx
  have HG := Lib.hid hg
  have okt : (⟨ty, co, rest, []⟩ : Ms).ok := ⟨hty, hco, hre⟩
  have OKT := Lib.hid okt
  clear hp hp1 ok okx hxl hmc hty hco hre hg okt
  show Calls Tryd.prog 4 #[.agg #[.int .u8 xtos, .int .u16 xid, .bool xdf, .bool xmf, .int .i64 xoff, .int .u8 xttl, .int .u8 xpr, .int .u32 xsrc, .int .u32 xdst, .slice A xb.length c], .int .u8 ty, .int .u8 co, .int .u32 rest] w _
  go_enter Tryd.func4, Tryd.ntmps4
  go_upto_region 1 with fail
  have hx : Ex (fun _ => False) w (w.alloc (.cells #[.int .u8 xtos, .int .u16 xid, .bool xdf, .bool xmf, .int .i64 xoff, .int .u8 xttl, .int .u8 xpr, .int .u32 xsrc, .int .u32 xdst, .slice A xb.length c] 41)) := (Ex.refl _ w).alloc _
  have hb : (w.alloc (.cells #[.int .u8 xtos, .int .u16 xid, .bool xdf, .bool xmf, .int .i64 xoff, .int .u8 xttl, .int .u8 xpr, .int .u32 xsrc, .int .u32 xdst, .slice A xb.length c] 41)).heap[w.heap.size]? = some (.cells #[.int .u8 xtos, .int .u16 xid, .bool xdf, .bool xmf, .int .i64 xoff, .int .u8 xttl, .int .u8 xpr, .int .u32 xsrc, .int .u32 xdst, .slice A xb.length c] 41) := heap_alloc_new w _
  obtain ⟨bp, hbp⟩ : ∃ bp, bp = w.heap.size := ⟨_, rfl⟩
  have hb_bp : w.heap.size ≤ bp := by omega
  rw [← hbp] at hb
  try simp only [← hbp]
  generalize w.alloc (.cells #[.int .u8 xtos, .int .u16 xid, .bool xdf, .bool xmf, .int .i64 xoff, .int .u8 xttl, .int .u8 xpr, .int .u32 xsrc, .int .u32 xdst, .slice A xb.length c] 41) = w1 at hx hb ⊢
  clear hbp
  have HX_w1 := Lib.hid hx
  clear hx
  have B_bp := Lib.hid hb
  clear hb
  go_wp2_with fail
  refine (shown7_any w1).mono ?_
  rintro e w2 ⟨rfl, hx⟩
  have HX_w2 := Lib.hid hx
  clear hx
  have cbp9 := row_cell (k := 9) (v := .slice A xb.length c) ((HX_w2.out.block bp (row_lt B_bp.out) id).trans B_bp.out) rfl
  have fbp9 := row_frozen ((HX_w2.out.block bp (row_lt B_bp.out) id).trans B_bp.out) 9
  go_upto_region 3 with fail
  replace B_bp := Lib.hid ((HX_w2.out.block bp (row_lt B_bp.out) id).trans B_bp.out)
  have hb : (w2.setCell ⟨bp, 9, none⟩ (.slice A xl.length c)).heap[bp]? = some (.cells #[.int .u8 xtos, .int .u16 xid, .bool xdf, .bool xmf, .int .i64 xoff, .int .u8 xttl, .int .u8 xpr, .int .u32 xsrc, .int .u32 xdst, .slice A xl.length c] 41) := (row_set B_bp.out 9 (.slice A xl.length c))
  have hx : Ex (fun j => j = bp) w2 (w2.setCell ⟨bp, 9, none⟩ (.slice A xl.length c)) := ((Ex.refl (fun j => j = bp) w2).setCell (p := ⟨bp, 9, none⟩) (.inl rfl) (.slice A xl.length c))
  clear cbp9 fbp9 hk
  generalize (w2.setCell ⟨bp, 9, none⟩ (.slice A xl.length c)) = w3 at hx hb ⊢
  clear B_bp
  have HX_w3 := Lib.hid hx
  clear hx
  have B_bp := Lib.hid hb
  clear hb
  have cbp0 := row_cell (k := 0) (v := .int .u8 xtos) B_bp.out rfl
  have cbp1 := row_cell (k := 1) (v := .int .u16 xid) B_bp.out rfl
  have cbp2 := row_cell (k := 2) (v := .bool xdf) B_bp.out rfl
  have cbp3 := row_cell (k := 3) (v := .bool xmf) B_bp.out rfl
  have cbp4 := row_cell (k := 4) (v := .int .i64 xoff) B_bp.out rfl
  have cbp5 := row_cell (k := 5) (v := .int .u8 xttl) B_bp.out rfl
  have cbp6 := row_cell (k := 6) (v := .int .u8 xpr) B_bp.out rfl
  have cbp7 := row_cell (k := 7) (v := .int .u32 xsrc) B_bp.out rfl
  have cbp8 := row_cell (k := 8) (v := .int .u32 xdst) B_bp.out rfl
  have cbp9 := row_cell (k := 9) (v := .slice A xl.length c) B_bp.out rfl
  clear hki hkc hk1
  by_cases hright : (⟨xtos, xid, xdf, xmf, xoff, xttl, xpr, xsrc, xdst, xl⟩ : Pk).right = 0
  case neg =>
    have HRT := Lib.hid hright
    clear hright
    go_wp2_with fail
    refine (pbytes_no _ (⟨xtos, xid, xdf, xmf, xoff, xttl, xpr, xsrc, xdst, xl⟩ : Pk) A c w3 OKX.out (RB.keep HP.out ((HX_w1.out.trans HX_w2.out).andThen HX_w3.out (fun i hi e => by have := hb_bp; omega)) (fun _ _ _ => id)) (by show xl.length ≤ _; omega) HRT.out).mono ?_
    rintro e w6 ⟨t6, y6, rfl, he, hx⟩
    clear he cbp0 cbp1 cbp2 cbp3 cbp4 cbp5 cbp6 cbp7 cbp8 cbp9
    have HX_w6 := Lib.hid hx
    clear hx
    go_wp2_with fail
    go_ret
    exact ⟨rfl, (((HX_w1.out.trans HX_w2.out).andThen HX_w3.out (fun i hi e => by have := hb_bp; omega)).trans HX_w6.out)⟩
  have HRT := Lib.hid hright
  clear hright
  go_wp2_with fail
  refine (pbytes_yes _ (⟨xtos, xid, xdf, xmf, xoff, xttl, xpr, xsrc, xdst, xl⟩ : Pk) A c w3 OKX.out (RB.keep HP.out ((HX_w1.out.trans HX_w2.out).andThen HX_w3.out (fun i hi e => by have := hb_bp; omega)) (fun _ _ _ => id)) (by show xl.length ≤ _; omega) HRT.out).mono ?_
  rintro e w6 ⟨g6, c6, rfl, ho, hb_g6, hg6, hx⟩
  clear cbp0 cbp1 cbp2 cbp3 cbp4 cbp5 cbp6 cbp7 cbp8 cbp9
  obtain ⟨hpe, hpp⟩ := pb_back OKX.out HRT.out []
  rw [List.append_nil] at hpe hpp
  have hpl0 := pb_len (⟨xtos, xid, xdf, xmf, xoff, xttl, xpr, xsrc, xdst, xl⟩ : Pk)
  obtain ⟨M, hM⟩ : ∃ M, M = pb (⟨xtos, xid, xdf, xmf, xoff, xttl, xpr, xsrc, xdst, xl⟩ : Pk) := ⟨_, rfl⟩
  rw [← hM] at ho hpe hpp hpl0 ⊢
  have hpl : M.length = 20 + xl.length := hpl0
  have hem : ems M ty co rest = ⟨ty, co, rest, M.take (20 + min xl.length 8)⟩ := by unfold ems; rw [hpp]
  obtain ⟨R, hR⟩ : ∃ R, R = M.take (20 + min xl.length 8) := ⟨_, rfl⟩
  have hRl : R.length = 20 + min xl.length 8 := by rw [hR, List.length_take]; omega
  have hRM : M.take R.length = R := by rw [hRl]; exact hR.symm
  rw [← hR] at hem
  have hml : M.length ≤ 2020 := by omega
  have hmin : (if 28 < (M.length : Int) then (28 : Int) else (M.length : Int)) = (R.length : Int) := by split <;> omega
  have hR28 : R.length ≤ 28 := by omega
  have hRle : R.length ≤ M.length := by omega
  have HPE := Lib.hid hpe
  have HPP := Lib.hid hpp
  have HEM := Lib.hid hem
  have HML := Lib.hid hml
  have HMIN := Lib.hid hmin
  have HRM := Lib.hid hRM
  have HRL := Lib.hid hRle
  have HR28 := Lib.hid hR28
  clear hpl0 hM hpe hpp hpl hem hR hml hRl hmin hRM hR28 hRle
  have HX_w6 := Lib.hid hx
  clear hx
  have HO6 := Lib.hid ho
  clear ho
  have hlbp := row_lt B_bp.out
  have hrb := HO6.out.rb
  obtain ⟨qx, hqx⟩ : ∃ q, quiet (⟨xtos, xid, xdf, xmf, xoff, xttl, xpr, xsrc, xdst, xl⟩ : Pk) = q := ⟨_, rfl⟩
  have hq : quiet (ppk M) = qx := by rw [HPP.out]; exact hqx
  cases qx
  case true =>
    have hqo := quiet_off hqx
    simp only at hqo
    have HQO := Lib.hid hqo
    have HQ := Lib.hid hq
    clear hq hqx hqo
    go_wp2_with fail
    refine (merror_quiet _ (some ⟨g6, 0, none⟩) M.length c6 M ty co rest w6 hrb (fun h => by cases h) (by have := HML.out; omega) HPE.out HQ.out).mono ?_
    rintro e w7 ⟨v7, rfl, he, hx⟩
    obtain ⟨t7, y7, rfl⟩ := he.shape
    have hv : msv zms (.slice none 0 0) = .agg #[.int .u8 0, .int .u8 0, .int .u32 0, .slice none 0 0] := rfl
    rw [hv]
    clear hv hrb
    have HX_w7 := Lib.hid hx
    clear hx
    have HE7 := Lib.hid he
    clear he
    go_upto_region 7 with fail
    have hx : Ex (fun _ => False) w7 (w7.alloc (.cells #[.int .u8 0, .int .u8 0, .int .u32 0, .slice none 0 0] 25)) := (Ex.refl _ w7).alloc _
    have hb : (w7.alloc (.cells #[.int .u8 0, .int .u8 0, .int .u32 0, .slice none 0 0] 25)).heap[w7.heap.size]? = some (.cells #[.int .u8 0, .int .u8 0, .int .u32 0, .slice none 0 0] 25) := heap_alloc_new w7 _
    obtain ⟨zb, hzb⟩ : ∃ zb, zb = w7.heap.size := ⟨_, rfl⟩
    have hb_zb : w7.heap.size ≤ zb := by omega
    rw [← hzb] at hb
    try simp only [← hzb]
    generalize w7.alloc (.cells #[.int .u8 0, .int .u8 0, .int .u32 0, .slice none 0 0] 25) = w8 at hx hb ⊢
    clear hzb
    have HX_w8 := Lib.hid hx
    clear hx
    have B_zb := Lib.hid hb
    clear hb
    go_wp2_with fail
    refine (code_any _ [lay7] 8 _ w8 (EC.keep HX_w8.out (fun _ _ => id) HE7.out) (HG.out.keep (((((HX_w1.out.trans HX_w2.out).andThen HX_w3.out (fun i hi e => by have := hb_bp; omega)).trans HX_w6.out).trans HX_w7.out).trans HX_w8.out) id)).mono ?_
    rintro e w9 ⟨rfl, hx⟩
    have HX_w9 := Lib.hid hx
    clear hx
    replace B_bp := Lib.hid (((((HX_w6.out.trans HX_w7.out).trans HX_w8.out).trans HX_w9.out).block bp (row_lt B_bp.out) id).trans B_bp.out)
    have cbp4 := row_cell (k := 4) (v := .int .i64 xoff) B_bp.out rfl
    have cbp6 := row_cell (k := 6) (v := .int .u8 xpr) B_bp.out rfl
    by_cases d : xoff = 0
    · have hpr : xpr = 1 := HQO.out.resolve_left (fun h => h d)
      have e1 : (xoff != 0) = false := by rw [d]; rfl
      have e2 : (xpr == 1) = true := by rw [hpr]; rfl
      clear d hpr
      go_wp2_with fail
      go_ret
      exact ⟨rfl, ((((((HX_w1.out.trans HX_w2.out).andThen HX_w3.out (fun i hi e => by have := hb_bp; omega)).trans HX_w6.out).trans HX_w7.out).trans HX_w8.out).trans HX_w9.out)⟩
    · have e1 : (xoff != 0) = true := by rw [bne_iff_ne]; exact d
      clear d
      go_wp2_with fail
      go_ret
      exact ⟨rfl, ((((((HX_w1.out.trans HX_w2.out).andThen HX_w3.out (fun i hi e => by have := hb_bp; omega)).trans HX_w6.out).trans HX_w7.out).trans HX_w8.out).trans HX_w9.out)⟩
  have hoff : xoff = 0 := quiet_no hqx
  have e1 : (xoff != 0) = false := by rw [hoff]; rfl
  have HQ := Lib.hid hq
  clear hq hqx hoff
  go_wp2_with fail
  refine (merror_yes _ (some ⟨g6, 0, none⟩) M.length c6 M ty co rest w6 hrb (fun h => by cases h) (by have := HML.out; omega) HPE.out HQ.out).mono ?_
  rintro e w7 ⟨A7, c7, rfl, ho, hx⟩
  rw [HEM.out] at ho ⊢
  have hv : msv (⟨ty, co, rest, R⟩ : Ms) (.slice A7 (⟨ty, co, rest, R⟩ : Ms).b.length c7) = .agg #[.int .u8 ty, .int .u8 co, .int .u32 rest, .slice A7 R.length c7] := rfl
  rw [hv]
  have ho' : OB w7 w6.heap.size (.slice A7 R.length c7) R := ho
  clear hv hrb ho
  have HX_w7 := Lib.hid hx
  clear hx
  have HO7 := Lib.hid ho'
  clear ho'
  go_upto_region 7 with fail
  have hx : Ex (fun _ => False) w7 (w7.alloc (.cells #[.int .u8 ty, .int .u8 co, .int .u32 rest, .slice A7 R.length c7] 25)) := (Ex.refl _ w7).alloc _
  have hb : (w7.alloc (.cells #[.int .u8 ty, .int .u8 co, .int .u32 rest, .slice A7 R.length c7] 25)).heap[w7.heap.size]? = some (.cells #[.int .u8 ty, .int .u8 co, .int .u32 rest, .slice A7 R.length c7] 25) := heap_alloc_new w7 _
  obtain ⟨mb_, hmb_⟩ : ∃ mb_, mb_ = w7.heap.size := ⟨_, rfl⟩
  have hb_mb_ : w7.heap.size ≤ mb_ := by omega
  rw [← hmb_] at hb
  try simp only [← hmb_]
  generalize w7.alloc (.cells #[.int .u8 ty, .int .u8 co, .int .u32 rest, .slice A7 R.length c7] 25) = w8 at hx hb ⊢
  clear hmb_
  have HX_w8 := Lib.hid hx
  clear hx
  have B_mb_ := Lib.hid hb
  clear hb
  go_upto_region 9 with fail
  replace HO6 := Lib.hid (OB.keep HO6.out (HX_w7.out.trans HX_w8.out) (fun _ _ _ _ => id))
  replace HO7 := Lib.hid (OB.keep HO7.out HX_w8.out (fun _ _ _ _ => id))
  replace B_bp := Lib.hid ((((HX_w6.out.trans HX_w7.out).trans HX_w8.out).block bp (row_lt B_bp.out) id).trans B_bp.out)
  have cbp4 := row_cell (k := 4) (v := .int .i64 xoff) B_bp.out rfl
  have cmb_0 := row_cell (k := 0) (v := .int .u8 ty) B_mb_.out rfl
  have cmb_1 := row_cell (k := 1) (v := .int .u8 co) B_mb_.out rfl
  have cmb_2 := row_cell (k := 2) (v := .int .u32 rest) B_mb_.out rfl
  have cmb_3 := row_cell (k := 3) (v := .slice A7 R.length c7) B_mb_.out rfl
  have hc6 : M.length ≤ c6 := by obtain ⟨_, _, _, e, h, _⟩ := HO6.out.rb; injection e with _ _ e3; rw [e3]; exact h
  have hRc : R.length ≤ c6 := Nat.le_trans HRL.out hc6
  have hRci : (R.length : Int) ≤ (c6 : Int) := by omega
  have hgt : ¬ (28 : Int) < (R.length : Int) := by have := HR28.out; omega
  have hmin := HMIN.out
  have hsR : ((bs R).toList == (bs R).toList) = true := by simp
  have hrt := HO6.out.rb.take R.length
  rw [HRM.out] at hrt
  have HRT6 := Lib.hid hrt
  clear hc6 hrt
  have hS0 : Ex (fun _ => False) w8 w8.drew := (Ex.refl _ w8).drew
  refine wp_region_held_drew (S := fun W => Ex (fun _ => False) w8 W) (by kernel_rfl) hS0 (fun _ => ?_)
  have hx := hS0
  generalize w8.drew = w9 at hx hS0 ⊢
  refine wpAnyH_take (i := 0) (oi := { dst := some 62, op := Go.Op.fieldAddr 41 (Go.Operand.tmp 4) 4, type := 0, pos := "law.go:93", after := #[], guard := none }) (v := ?v1) rfl (by kernel_rfl) (by kernel_rfl) (by kernel_rfl) (fun _ _ _ h => h) (Or.inl ⟨by rfl, ?hy1⟩) (by assumption) ?rest1
  case hy1 => (intro w hSw; (try dsimp only at hSw); have ecbp4 := hSw.cell cbp4 id; have ecmb_0 := hSw.cell cmb_0 id; have ecmb_1 := hSw.cell cmb_1 id; have ecmb_2 := hSw.cell cmb_2 id; have ecmb_3 := hSw.cell cmb_3 id; go_simp <;> with_reducible rfl)
  try simp only [Act.put, List.setIfInBounds_toArray, List.set_cons_zero, List.set_cons_succ]
  refine wpAnyH_take (i := 1) (oi := { dst := some 63, op := Go.Op.load 3 (Go.Operand.tmp 62), type := 3, pos := "law.go:93", after := #[{ on := 0, ground := Go.Ground.data }], guard := none }) (v := ?v2) rfl (by kernel_rfl) (by kernel_rfl) (by kernel_rfl) (fun _ _ _ h => h) (Or.inl ⟨by rfl, ?hy2⟩) (by assumption) ?rest2
  case hy2 => (intro w hSw; (try dsimp only at hSw); have ecbp4 := hSw.cell cbp4 id; have ecmb_0 := hSw.cell cmb_0 id; have ecmb_1 := hSw.cell cmb_1 id; have ecmb_2 := hSw.cell cmb_2 id; have ecmb_3 := hSw.cell cmb_3 id; go_simp <;> with_reducible rfl)
  try simp only [Act.put, List.setIfInBounds_toArray, List.set_cons_zero, List.set_cons_succ]
  refine wpAnyH_take (i := 2) (oi := { dst := some 64, op := Go.Op.binOp Go.BinOp.neq 3 (Go.Operand.tmp 63) (Go.Operand.const (Go.Value.int Go.IntKind.i64 0)) 3, type := 4, pos := "law.go:93", after := #[{ on := 1, ground := Go.Ground.data }], guard := none }) (v := ?v3) rfl (by kernel_rfl) (by kernel_rfl) (by kernel_rfl) (fun _ _ _ h => h) (Or.inl ⟨by rfl, ?hy3⟩) (by assumption) ?rest3
  case hy3 => (intro w hSw; (try dsimp only at hSw); have ecbp4 := hSw.cell cbp4 id; have ecmb_0 := hSw.cell cmb_0 id; have ecmb_1 := hSw.cell cmb_1 id; have ecmb_2 := hSw.cell cmb_2 id; have ecmb_3 := hSw.cell cmb_3 id; go_simp <;> with_reducible rfl)
  try simp only [Act.put, List.setIfInBounds_toArray, List.set_cons_zero, List.set_cons_succ]
  refine wpAnyH_take (i := 3) (oi := { dst := some 65, op := Go.Op.move (Go.Operand.tmp 64), type := 4, pos := "law.go:93", after := #[{ on := 2, ground := Go.Ground.data }], guard := none }) (v := ?v4) rfl (by kernel_rfl) (by kernel_rfl) (by kernel_rfl) (fun _ _ _ h => h) (Or.inl ⟨by rfl, ?hy4⟩) (by assumption) ?rest4
  case hy4 => (intro w hSw; (try dsimp only at hSw); have ecbp4 := hSw.cell cbp4 id; have ecmb_0 := hSw.cell cmb_0 id; have ecmb_1 := hSw.cell cmb_1 id; have ecmb_2 := hSw.cell cmb_2 id; have ecmb_3 := hSw.cell cmb_3 id; go_simp <;> with_reducible rfl)
  try simp only [Act.put, List.setIfInBounds_toArray, List.set_cons_zero, List.set_cons_succ]
  refine wpAnyH_take (i := 4) (oi := { dst := some 66, op := Go.Op.fieldAddr 25 (Go.Operand.tmp 12) 3, type := 0, pos := "law.go:93", after := #[{ on := 3, ground := Go.Ground.guard }], guard := some (3, false) }) (v := ?v5) rfl (by kernel_rfl) (by kernel_rfl) (by kernel_rfl) (fun _ _ _ h => h) (Or.inl ⟨by rfl, ?hy5⟩) (by assumption) ?rest5
  case hy5 => (intro w hSw; (try dsimp only at hSw); have ecbp4 := hSw.cell cbp4 id; have ecmb_0 := hSw.cell cmb_0 id; have ecmb_1 := hSw.cell cmb_1 id; have ecmb_2 := hSw.cell cmb_2 id; have ecmb_3 := hSw.cell cmb_3 id; go_simp <;> with_reducible rfl)
  try simp only [Act.put, List.setIfInBounds_toArray, List.set_cons_zero, List.set_cons_succ]
  refine wpAnyH_take (i := 5) (oi := { dst := some 67, op := Go.Op.load 23 (Go.Operand.tmp 66), type := 23, pos := "law.go:93", after := #[{ on := 4, ground := Go.Ground.data }, { on := 3, ground := Go.Ground.guard }], guard := some (3, false) }) (v := ?v6) rfl (by kernel_rfl) (by kernel_rfl) (by kernel_rfl) (fun _ _ _ h => h) (Or.inl ⟨by rfl, ?hy6⟩) (by assumption) ?rest6
  case hy6 => (intro w hSw; (try dsimp only at hSw); have ecbp4 := hSw.cell cbp4 id; have ecmb_0 := hSw.cell cmb_0 id; have ecmb_1 := hSw.cell cmb_1 id; have ecmb_2 := hSw.cell cmb_2 id; have ecmb_3 := hSw.cell cmb_3 id; go_simp <;> with_reducible rfl)
  try simp only [Act.put, List.setIfInBounds_toArray, List.set_cons_zero, List.set_cons_succ]
  refine wpAnyH_take (i := 6) (oi := { dst := some 68, op := Go.Op.call { callee := Go.Callee.builtin Go.Builtin.len, args := #[Go.Operand.tmp 67], argTypes := #[23] }, type := 3, pos := "law.go:93", after := #[{ on := 5, ground := Go.Ground.data }, { on := 3, ground := Go.Ground.guard }], guard := some (3, false) }) (v := ?v7) rfl (by kernel_rfl) (by kernel_rfl) (by kernel_rfl) (fun _ _ _ h => h) (Or.inl ⟨by rfl, ?hy7⟩) (by assumption) ?rest7
  case hy7 => (intro w hSw; (try dsimp only at hSw); have ecbp4 := hSw.cell cbp4 id; have ecmb_0 := hSw.cell cmb_0 id; have ecmb_1 := hSw.cell cmb_1 id; have ecmb_2 := hSw.cell cmb_2 id; have ecmb_3 := hSw.cell cmb_3 id; go_simp <;> with_reducible rfl)
  try simp only [Act.put, List.setIfInBounds_toArray, List.set_cons_zero, List.set_cons_succ]
  refine wpAnyH_take (i := 7) (oi := { dst := some 69, op := Go.Op.binOp Go.BinOp.gtr 3 (Go.Operand.tmp 68) (Go.Operand.const (Go.Value.int Go.IntKind.i64 28)) 3, type := 4, pos := "law.go:93", after := #[{ on := 6, ground := Go.Ground.data }, { on := 3, ground := Go.Ground.guard }], guard := some (3, false) }) (v := ?v8) rfl (by kernel_rfl) (by kernel_rfl) (by kernel_rfl) (fun _ _ _ h => h) (Or.inl ⟨by rfl, ?hy8⟩) (by assumption) ?rest8
  case hy8 => (intro w hSw; (try dsimp only at hSw); have ecbp4 := hSw.cell cbp4 id; have ecmb_0 := hSw.cell cmb_0 id; have ecmb_1 := hSw.cell cmb_1 id; have ecmb_2 := hSw.cell cmb_2 id; have ecmb_3 := hSw.cell cmb_3 id; go_simp <;> with_reducible rfl)
  try simp only [Act.put, List.setIfInBounds_toArray, List.set_cons_zero, List.set_cons_succ]
  refine wpAnyH_take (i := 8) (oi := { dst := some 70, op := Go.Op.pick (Go.Operand.tmp 65) (Go.Operand.const (Go.Value.bool true)) (Go.Operand.tmp 69), type := 4, pos := "law.go:93", after := #[{ on := 3, ground := Go.Ground.data }, { on := 7, ground := Go.Ground.data }], guard := none }) (v := ?v9) rfl (by kernel_rfl) (by kernel_rfl) (by kernel_rfl) (fun _ _ _ h => h) (Or.inl ⟨by rfl, ?hy9⟩) (by assumption) ?rest9
  case hy9 => (intro w hSw; (try dsimp only at hSw); have ecbp4 := hSw.cell cbp4 id; have ecmb_0 := hSw.cell cmb_0 id; have ecmb_1 := hSw.cell cmb_1 id; have ecmb_2 := hSw.cell cmb_2 id; have ecmb_3 := hSw.cell cmb_3 id; go_simp <;> with_reducible rfl)
  try simp only [Act.put, List.setIfInBounds_toArray, List.set_cons_zero, List.set_cons_succ]
  refine wpAnyH_take (i := 9) (oi := { dst := some 71, op := Go.Op.move (Go.Operand.tmp 70), type := 4, pos := "law.go:93", after := #[{ on := 8, ground := Go.Ground.data }, { on := 3, ground := Go.Ground.chain }], guard := none }) (v := ?v10) rfl (by kernel_rfl) (by kernel_rfl) (by kernel_rfl) (fun _ _ _ h => h) (Or.inl ⟨by rfl, ?hy10⟩) (by assumption) ?rest10
  case hy10 => (intro w hSw; (try dsimp only at hSw); have ecbp4 := hSw.cell cbp4 id; have ecmb_0 := hSw.cell cmb_0 id; have ecmb_1 := hSw.cell cmb_1 id; have ecmb_2 := hSw.cell cmb_2 id; have ecmb_3 := hSw.cell cmb_3 id; go_simp <;> with_reducible rfl)
  try simp only [Act.put, List.setIfInBounds_toArray, List.set_cons_zero, List.set_cons_succ]
  refine wpAnyH_take (i := 10) (oi := { dst := some 72, op := Go.Op.fieldAddr 25 (Go.Operand.tmp 12) 3, type := 0, pos := "law.go:93", after := #[{ on := 9, ground := Go.Ground.guard }], guard := some (9, false) }) (v := ?v11) rfl (by kernel_rfl) (by kernel_rfl) (by kernel_rfl) (fun _ _ _ h => h) (Or.inl ⟨by rfl, ?hy11⟩) (by assumption) ?rest11
  case hy11 => (intro w hSw; (try dsimp only at hSw); have ecbp4 := hSw.cell cbp4 id; have ecmb_0 := hSw.cell cmb_0 id; have ecmb_1 := hSw.cell cmb_1 id; have ecmb_2 := hSw.cell cmb_2 id; have ecmb_3 := hSw.cell cmb_3 id; go_simp <;> with_reducible rfl)
  try simp only [Act.put, List.setIfInBounds_toArray, List.set_cons_zero, List.set_cons_succ]
  refine wpAnyH_take (i := 11) (oi := { dst := some 73, op := Go.Op.load 23 (Go.Operand.tmp 72), type := 23, pos := "law.go:93", after := #[{ on := 10, ground := Go.Ground.data }, { on := 9, ground := Go.Ground.guard }], guard := some (9, false) }) (v := ?v12) rfl (by kernel_rfl) (by kernel_rfl) (by kernel_rfl) (fun _ _ _ h => h) (Or.inl ⟨by rfl, ?hy12⟩) (by assumption) ?rest12
  case hy12 => (intro w hSw; (try dsimp only at hSw); have ecbp4 := hSw.cell cbp4 id; have ecmb_0 := hSw.cell cmb_0 id; have ecmb_1 := hSw.cell cmb_1 id; have ecmb_2 := hSw.cell cmb_2 id; have ecmb_3 := hSw.cell cmb_3 id; go_simp <;> with_reducible rfl)
  try simp only [Act.put, List.setIfInBounds_toArray, List.set_cons_zero, List.set_cons_succ]
  refine wpAnyH_take (i := 12) (oi := { dst := some 74, op := Go.Op.call { callee := Go.Callee.builtin Go.Builtin.len, args := #[Go.Operand.tmp 73], argTypes := #[23] }, type := 3, pos := "law.go:93", after := #[{ on := 11, ground := Go.Ground.data }, { on := 9, ground := Go.Ground.guard }], guard := some (9, false) }) (v := ?v13) rfl (by kernel_rfl) (by kernel_rfl) (by kernel_rfl) (fun _ _ _ h => h) (Or.inl ⟨by rfl, ?hy13⟩) (by assumption) ?rest13
  case hy13 => (intro w hSw; (try dsimp only at hSw); have ecbp4 := hSw.cell cbp4 id; have ecmb_0 := hSw.cell cmb_0 id; have ecmb_1 := hSw.cell cmb_1 id; have ecmb_2 := hSw.cell cmb_2 id; have ecmb_3 := hSw.cell cmb_3 id; go_simp <;> with_reducible rfl)
  try simp only [Act.put, List.setIfInBounds_toArray, List.set_cons_zero, List.set_cons_succ]
  refine wpAnyH_take (i := 13) (oi := { dst := some 75, op := Go.Op.move (Go.Operand.tmp 10), type := 23, pos := "law.go:93", after := #[{ on := 9, ground := Go.Ground.guard }], guard := some (9, false) }) (v := ?v14) rfl (by kernel_rfl) (by kernel_rfl) (by kernel_rfl) (fun _ _ _ h => h) (Or.inl ⟨by rfl, ?hy14⟩) (by assumption) ?rest14
  case hy14 => (intro w hSw; (try dsimp only at hSw); have ecbp4 := hSw.cell cbp4 id; have ecmb_0 := hSw.cell cmb_0 id; have ecmb_1 := hSw.cell cmb_1 id; have ecmb_2 := hSw.cell cmb_2 id; have ecmb_3 := hSw.cell cmb_3 id; go_simp <;> with_reducible rfl)
  try simp only [Act.put, List.setIfInBounds_toArray, List.set_cons_zero, List.set_cons_succ]
  refine wpAnyH_take (i := 14) (oi := { dst := some 76, op := Go.Op.call { callee := Go.Callee.builtin Go.Builtin.len, args := #[Go.Operand.tmp 75], argTypes := #[23] }, type := 3, pos := "law.go:93", after := #[{ on := 13, ground := Go.Ground.data }, { on := 9, ground := Go.Ground.guard }], guard := some (9, false) }) (v := ?v15) rfl (by kernel_rfl) (by kernel_rfl) (by kernel_rfl) (fun _ _ _ h => h) (Or.inl ⟨by rfl, ?hy15⟩) (by assumption) ?rest15
  case hy15 => (intro w hSw; (try dsimp only at hSw); have ecbp4 := hSw.cell cbp4 id; have ecmb_0 := hSw.cell cmb_0 id; have ecmb_1 := hSw.cell cmb_1 id; have ecmb_2 := hSw.cell cmb_2 id; have ecmb_3 := hSw.cell cmb_3 id; go_simp <;> with_reducible rfl)
  try simp only [Act.put, List.setIfInBounds_toArray, List.set_cons_zero, List.set_cons_succ]
  refine wpAnyH_take (i := 15) (oi := { dst := some 77, op := Go.Op.call { callee := Go.Callee.builtin Go.Builtin.min, args := #[Go.Operand.tmp 76, Go.Operand.const (Go.Value.int Go.IntKind.i64 28)], argTypes := #[3, 3] }, type := 3, pos := "law.go:93", after := #[{ on := 14, ground := Go.Ground.data }, { on := 9, ground := Go.Ground.guard }], guard := some (9, false) }) (v := ?v16) rfl (by kernel_rfl) (by kernel_rfl) (by kernel_rfl) (fun _ _ _ h => h) (Or.inl ⟨by rfl, ?hy16⟩) (by assumption) ?rest16
  case hy16 => (intro w hSw; (try dsimp only at hSw); have ecbp4 := hSw.cell cbp4 id; have ecmb_0 := hSw.cell cmb_0 id; have ecmb_1 := hSw.cell cmb_1 id; have ecmb_2 := hSw.cell cmb_2 id; have ecmb_3 := hSw.cell cmb_3 id; go_simp <;> with_reducible rfl)
  try simp only [Act.put, List.setIfInBounds_toArray, List.set_cons_zero, List.set_cons_succ]
  refine wpAnyH_take (i := 16) (oi := { dst := some 78, op := Go.Op.binOp Go.BinOp.neq 3 (Go.Operand.tmp 74) (Go.Operand.tmp 77) 3, type := 4, pos := "law.go:93", after := #[{ on := 12, ground := Go.Ground.data }, { on := 15, ground := Go.Ground.data }, { on := 9, ground := Go.Ground.guard }], guard := some (9, false) }) (v := ?v17) rfl (by kernel_rfl) (by kernel_rfl) (by kernel_rfl) (fun _ _ _ h => h) (Or.inl ⟨by rfl, ?hy17⟩) (by assumption) ?rest17
  case hy17 => (intro w hSw; (try dsimp only at hSw); have ecbp4 := hSw.cell cbp4 id; have ecmb_0 := hSw.cell cmb_0 id; have ecmb_1 := hSw.cell cmb_1 id; have ecmb_2 := hSw.cell cmb_2 id; have ecmb_3 := hSw.cell cmb_3 id; go_simp <;> with_reducible rfl)
  try simp only [Act.put, List.setIfInBounds_toArray, List.set_cons_zero, List.set_cons_succ]
  refine wpAnyH_take (i := 17) (oi := { dst := some 79, op := Go.Op.pick (Go.Operand.tmp 71) (Go.Operand.const (Go.Value.bool true)) (Go.Operand.tmp 78), type := 4, pos := "law.go:93", after := #[{ on := 9, ground := Go.Ground.data }, { on := 16, ground := Go.Ground.data }], guard := none }) (v := ?v18) rfl (by kernel_rfl) (by kernel_rfl) (by kernel_rfl) (fun _ _ _ h => h) (Or.inl ⟨by rfl, ?hy18⟩) (by assumption) ?rest18
  case hy18 => (intro w hSw; (try dsimp only at hSw); have ecbp4 := hSw.cell cbp4 id; have ecmb_0 := hSw.cell cmb_0 id; have ecmb_1 := hSw.cell cmb_1 id; have ecmb_2 := hSw.cell cmb_2 id; have ecmb_3 := hSw.cell cmb_3 id; go_simp <;> with_reducible rfl)
  try simp only [Act.put, List.setIfInBounds_toArray, List.set_cons_zero, List.set_cons_succ]
  refine wpAnyH_take (i := 18) (oi := { dst := some 80, op := Go.Op.move (Go.Operand.tmp 79), type := 4, pos := "law.go:93", after := #[{ on := 17, ground := Go.Ground.data }, { on := 9, ground := Go.Ground.chain }], guard := none }) (v := ?v19) rfl (by kernel_rfl) (by kernel_rfl) (by kernel_rfl) (fun _ _ _ h => h) (Or.inl ⟨by rfl, ?hy19⟩) (by assumption) ?rest19
  case hy19 => (intro w hSw; (try dsimp only at hSw); have ecbp4 := hSw.cell cbp4 id; have ecmb_0 := hSw.cell cmb_0 id; have ecmb_1 := hSw.cell cmb_1 id; have ecmb_2 := hSw.cell cmb_2 id; have ecmb_3 := hSw.cell cmb_3 id; go_simp <;> with_reducible rfl)
  try simp only [Act.put, List.setIfInBounds_toArray, List.set_cons_zero, List.set_cons_succ]
  refine wpAnyH_take (i := 19) (oi := { dst := some 81, op := Go.Op.fieldAddr 25 (Go.Operand.tmp 12) 3, type := 0, pos := "law.go:93", after := #[{ on := 18, ground := Go.Ground.guard }], guard := some (18, false) }) (v := ?v20) rfl (by kernel_rfl) (by kernel_rfl) (by kernel_rfl) (fun _ _ _ h => h) (Or.inl ⟨by rfl, ?hy20⟩) (by assumption) ?rest20
  case hy20 => (intro w hSw; (try dsimp only at hSw); have ecbp4 := hSw.cell cbp4 id; have ecmb_0 := hSw.cell cmb_0 id; have ecmb_1 := hSw.cell cmb_1 id; have ecmb_2 := hSw.cell cmb_2 id; have ecmb_3 := hSw.cell cmb_3 id; go_simp <;> with_reducible rfl)
  try simp only [Act.put, List.setIfInBounds_toArray, List.set_cons_zero, List.set_cons_succ]
  refine wpAnyH_take (i := 20) (oi := { dst := some 82, op := Go.Op.load 23 (Go.Operand.tmp 81), type := 23, pos := "law.go:93", after := #[{ on := 19, ground := Go.Ground.data }, { on := 18, ground := Go.Ground.guard }], guard := some (18, false) }) (v := ?v21) rfl (by kernel_rfl) (by kernel_rfl) (by kernel_rfl) (fun _ _ _ h => h) (Or.inl ⟨by rfl, ?hy21⟩) (by assumption) ?rest21
  case hy21 => (intro w hSw; (try dsimp only at hSw); have ecbp4 := hSw.cell cbp4 id; have ecmb_0 := hSw.cell cmb_0 id; have ecmb_1 := hSw.cell cmb_1 id; have ecmb_2 := hSw.cell cmb_2 id; have ecmb_3 := hSw.cell cmb_3 id; go_simp <;> with_reducible rfl)
  try simp only [Act.put, List.setIfInBounds_toArray, List.set_cons_zero, List.set_cons_succ]
  refine wpAnyH_take (i := 21) (oi := { dst := some 83, op := Go.Op.convert 23 9 (Go.Operand.tmp 82), type := 9, pos := "law.go:93", after := #[{ on := 20, ground := Go.Ground.data }, { on := 18, ground := Go.Ground.guard }], guard := some (18, false) }) (v := ?v22) rfl (by kernel_rfl) (by kernel_rfl) (by kernel_rfl) (fun _ _ _ h => h) (Or.inl ⟨by rfl, ?hy22⟩) (by assumption) ?rest22
  case hy22 => (intro w hSw; (try dsimp only at hSw); have ecbp4 := hSw.cell cbp4 id; have ecmb_0 := hSw.cell cmb_0 id; have ecmb_1 := hSw.cell cmb_1 id; have ecmb_2 := hSw.cell cmb_2 id; have ecmb_3 := hSw.cell cmb_3 id; have eq := (OB.keep HO7.out hSw (fun _ _ _ _ => id)).rb.str (Pr := Tryd.prog) 23 9 5 Tryd.underlying23 Tryd.underlying5 Tryd.underlying9; go_simp <;> with_reducible rfl)
  try simp only [Act.put, List.setIfInBounds_toArray, List.set_cons_zero, List.set_cons_succ]
  refine wpAnyH_take (i := 22) (oi := { dst := some 84, op := Go.Op.move (Go.Operand.tmp 10), type := 23, pos := "law.go:93", after := #[{ on := 18, ground := Go.Ground.guard }], guard := some (18, false) }) (v := ?v23) rfl (by kernel_rfl) (by kernel_rfl) (by kernel_rfl) (fun _ _ _ h => h) (Or.inl ⟨by rfl, ?hy23⟩) (by assumption) ?rest23
  case hy23 => (intro w hSw; (try dsimp only at hSw); have ecbp4 := hSw.cell cbp4 id; have ecmb_0 := hSw.cell cmb_0 id; have ecmb_1 := hSw.cell cmb_1 id; have ecmb_2 := hSw.cell cmb_2 id; have ecmb_3 := hSw.cell cmb_3 id; go_simp <;> with_reducible rfl)
  try simp only [Act.put, List.setIfInBounds_toArray, List.set_cons_zero, List.set_cons_succ]
  refine wpAnyH_take (i := 23) (oi := { dst := some 85, op := Go.Op.fieldAddr 25 (Go.Operand.tmp 12) 3, type := 0, pos := "law.go:93", after := #[{ on := 18, ground := Go.Ground.guard }], guard := some (18, false) }) (v := ?v24) rfl (by kernel_rfl) (by kernel_rfl) (by kernel_rfl) (fun _ _ _ h => h) (Or.inl ⟨by rfl, ?hy24⟩) (by assumption) ?rest24
  case hy24 => (intro w hSw; (try dsimp only at hSw); have ecbp4 := hSw.cell cbp4 id; have ecmb_0 := hSw.cell cmb_0 id; have ecmb_1 := hSw.cell cmb_1 id; have ecmb_2 := hSw.cell cmb_2 id; have ecmb_3 := hSw.cell cmb_3 id; go_simp <;> with_reducible rfl)
  try simp only [Act.put, List.setIfInBounds_toArray, List.set_cons_zero, List.set_cons_succ]
  refine wpAnyH_take (i := 24) (oi := { dst := some 86, op := Go.Op.load 23 (Go.Operand.tmp 85), type := 23, pos := "law.go:93", after := #[{ on := 23, ground := Go.Ground.data }, { on := 18, ground := Go.Ground.guard }], guard := some (18, false) }) (v := ?v25) rfl (by kernel_rfl) (by kernel_rfl) (by kernel_rfl) (fun _ _ _ h => h) (Or.inl ⟨by rfl, ?hy25⟩) (by assumption) ?rest25
  case hy25 => (intro w hSw; (try dsimp only at hSw); have ecbp4 := hSw.cell cbp4 id; have ecmb_0 := hSw.cell cmb_0 id; have ecmb_1 := hSw.cell cmb_1 id; have ecmb_2 := hSw.cell cmb_2 id; have ecmb_3 := hSw.cell cmb_3 id; go_simp <;> with_reducible rfl)
  try simp only [Act.put, List.setIfInBounds_toArray, List.set_cons_zero, List.set_cons_succ]
  refine wpAnyH_take (i := 25) (oi := { dst := some 87, op := Go.Op.call { callee := Go.Callee.builtin Go.Builtin.len, args := #[Go.Operand.tmp 86], argTypes := #[23] }, type := 3, pos := "law.go:93", after := #[{ on := 24, ground := Go.Ground.data }, { on := 18, ground := Go.Ground.guard }], guard := some (18, false) }) (v := ?v26) rfl (by kernel_rfl) (by kernel_rfl) (by kernel_rfl) (fun _ _ _ h => h) (Or.inl ⟨by rfl, ?hy26⟩) (by assumption) ?rest26
  case hy26 => (intro w hSw; (try dsimp only at hSw); have ecbp4 := hSw.cell cbp4 id; have ecmb_0 := hSw.cell cmb_0 id; have ecmb_1 := hSw.cell cmb_1 id; have ecmb_2 := hSw.cell cmb_2 id; have ecmb_3 := hSw.cell cmb_3 id; go_simp <;> with_reducible rfl)
  try simp only [Act.put, List.setIfInBounds_toArray, List.set_cons_zero, List.set_cons_succ]
  refine wpAnyH_take (i := 26) (oi := { dst := some 88, op := Go.Op.slice 23 (Go.Operand.tmp 84) none (some (Go.Operand.tmp 87)) none, type := 23, pos := "law.go:93", after := #[{ on := 22, ground := Go.Ground.data }, { on := 25, ground := Go.Ground.data }, { on := 18, ground := Go.Ground.guard }], guard := some (18, false) }) (v := ?v27) rfl (by kernel_rfl) (by kernel_rfl) (by kernel_rfl) (fun _ _ _ h => h) (Or.inl ⟨by rfl, ?hy27⟩) (by assumption) ?rest27
  case hy27 => (intro w hSw; (try dsimp only at hSw); have ecbp4 := hSw.cell cbp4 id; have ecmb_0 := hSw.cell cmb_0 id; have ecmb_1 := hSw.cell cmb_1 id; have ecmb_2 := hSw.cell cmb_2 id; have ecmb_3 := hSw.cell cmb_3 id; go_simp <;> with_reducible rfl)
  try simp only [Act.put, List.setIfInBounds_toArray, List.set_cons_zero, List.set_cons_succ]
  refine wpAnyH_take (i := 27) (oi := { dst := some 89, op := Go.Op.convert 23 9 (Go.Operand.tmp 88), type := 9, pos := "law.go:93", after := #[{ on := 26, ground := Go.Ground.data }, { on := 18, ground := Go.Ground.guard }], guard := some (18, false) }) (v := ?v28) rfl (by kernel_rfl) (by kernel_rfl) (by kernel_rfl) (fun _ _ _ h => h) (Or.inl ⟨by rfl, ?hy28⟩) (by assumption) ?rest28
  case hy28 => (intro w hSw; (try dsimp only at hSw); have ecbp4 := hSw.cell cbp4 id; have ecmb_0 := hSw.cell cmb_0 id; have ecmb_1 := hSw.cell cmb_1 id; have ecmb_2 := hSw.cell cmb_2 id; have ecmb_3 := hSw.cell cmb_3 id; have eq := (RB.keep HRT6.out hSw (fun _ _ _ => id)).str (Pr := Tryd.prog) 23 9 5 Tryd.underlying23 Tryd.underlying5 Tryd.underlying9; go_simp <;> with_reducible rfl)
  try simp only [Act.put, List.setIfInBounds_toArray, List.set_cons_zero, List.set_cons_succ]
  refine wpAnyH_take (i := 28) (oi := { dst := some 90, op := Go.Op.binOp Go.BinOp.neq 9 (Go.Operand.tmp 83) (Go.Operand.tmp 89) 9, type := 4, pos := "law.go:93", after := #[{ on := 21, ground := Go.Ground.data }, { on := 27, ground := Go.Ground.data }, { on := 18, ground := Go.Ground.guard }], guard := some (18, false) }) (v := ?v29) rfl (by kernel_rfl) (by kernel_rfl) (by kernel_rfl) (fun _ _ _ h => h) (Or.inl ⟨by rfl, ?hy29⟩) (by assumption) ?rest29
  case hy29 => (intro w hSw; (try dsimp only at hSw); have ecbp4 := hSw.cell cbp4 id; have ecmb_0 := hSw.cell cmb_0 id; have ecmb_1 := hSw.cell cmb_1 id; have ecmb_2 := hSw.cell cmb_2 id; have ecmb_3 := hSw.cell cmb_3 id; go_simp <;> with_reducible rfl)
  try simp only [Act.put, List.setIfInBounds_toArray, List.set_cons_zero, List.set_cons_succ]
  refine wpAnyH_take (i := 29) (oi := { dst := some 91, op := Go.Op.pick (Go.Operand.tmp 80) (Go.Operand.const (Go.Value.bool true)) (Go.Operand.tmp 90), type := 4, pos := "law.go:93", after := #[{ on := 18, ground := Go.Ground.data }, { on := 28, ground := Go.Ground.data }], guard := none }) (v := ?v30) rfl (by kernel_rfl) (by kernel_rfl) (by kernel_rfl) (fun _ _ _ h => h) (Or.inl ⟨by rfl, ?hy30⟩) (by assumption) ?rest30
  case hy30 => (intro w hSw; (try dsimp only at hSw); have ecbp4 := hSw.cell cbp4 id; have ecmb_0 := hSw.cell cmb_0 id; have ecmb_1 := hSw.cell cmb_1 id; have ecmb_2 := hSw.cell cmb_2 id; have ecmb_3 := hSw.cell cmb_3 id; go_simp <;> with_reducible rfl)
  try simp only [Act.put, List.setIfInBounds_toArray, List.set_cons_zero, List.set_cons_succ]
  refine wpAnyH_take (i := 30) (oi := { dst := some 92, op := Go.Op.move (Go.Operand.tmp 91), type := 4, pos := "law.go:93", after := #[{ on := 29, ground := Go.Ground.data }, { on := 18, ground := Go.Ground.chain }], guard := none }) (v := ?v31) rfl (by kernel_rfl) (by kernel_rfl) (by kernel_rfl) (fun _ _ _ h => h) (Or.inl ⟨by rfl, ?hy31⟩) (by assumption) ?rest31
  case hy31 => (intro w hSw; (try dsimp only at hSw); have ecbp4 := hSw.cell cbp4 id; have ecmb_0 := hSw.cell cmb_0 id; have ecmb_1 := hSw.cell cmb_1 id; have ecmb_2 := hSw.cell cmb_2 id; have ecmb_3 := hSw.cell cmb_3 id; go_simp <;> with_reducible rfl)
  try simp only [Act.put, List.setIfInBounds_toArray, List.set_cons_zero, List.set_cons_succ]
  refine wpAnyH_take (i := 31) (oi := { dst := some 93, op := Go.Op.fieldAddr 25 (Go.Operand.tmp 12) 0, type := 0, pos := "law.go:93", after := #[{ on := 30, ground := Go.Ground.guard }], guard := some (30, false) }) (v := ?v32) rfl (by kernel_rfl) (by kernel_rfl) (by kernel_rfl) (fun _ _ _ h => h) (Or.inl ⟨by rfl, ?hy32⟩) (by assumption) ?rest32
  case hy32 => (intro w hSw; (try dsimp only at hSw); have ecbp4 := hSw.cell cbp4 id; have ecmb_0 := hSw.cell cmb_0 id; have ecmb_1 := hSw.cell cmb_1 id; have ecmb_2 := hSw.cell cmb_2 id; have ecmb_3 := hSw.cell cmb_3 id; go_simp <;> with_reducible rfl)
  try simp only [Act.put, List.setIfInBounds_toArray, List.set_cons_zero, List.set_cons_succ]
  refine wpAnyH_take (i := 32) (oi := { dst := some 94, op := Go.Op.load 5 (Go.Operand.tmp 93), type := 5, pos := "law.go:93", after := #[{ on := 31, ground := Go.Ground.data }, { on := 30, ground := Go.Ground.guard }], guard := some (30, false) }) (v := ?v33) rfl (by kernel_rfl) (by kernel_rfl) (by kernel_rfl) (fun _ _ _ h => h) (Or.inl ⟨by rfl, ?hy33⟩) (by assumption) ?rest33
  case hy33 => (intro w hSw; (try dsimp only at hSw); have ecbp4 := hSw.cell cbp4 id; have ecmb_0 := hSw.cell cmb_0 id; have ecmb_1 := hSw.cell cmb_1 id; have ecmb_2 := hSw.cell cmb_2 id; have ecmb_3 := hSw.cell cmb_3 id; go_simp <;> with_reducible rfl)
  try simp only [Act.put, List.setIfInBounds_toArray, List.set_cons_zero, List.set_cons_succ]
  refine wpAnyH_take (i := 33) (oi := { dst := some 95, op := Go.Op.move (Go.Operand.tmp 1), type := 5, pos := "law.go:93", after := #[{ on := 30, ground := Go.Ground.guard }], guard := some (30, false) }) (v := ?v34) rfl (by kernel_rfl) (by kernel_rfl) (by kernel_rfl) (fun _ _ _ h => h) (Or.inl ⟨by rfl, ?hy34⟩) (by assumption) ?rest34
  case hy34 => (intro w hSw; (try dsimp only at hSw); have ecbp4 := hSw.cell cbp4 id; have ecmb_0 := hSw.cell cmb_0 id; have ecmb_1 := hSw.cell cmb_1 id; have ecmb_2 := hSw.cell cmb_2 id; have ecmb_3 := hSw.cell cmb_3 id; go_simp <;> with_reducible rfl)
  try simp only [Act.put, List.setIfInBounds_toArray, List.set_cons_zero, List.set_cons_succ]
  refine wpAnyH_take (i := 34) (oi := { dst := some 96, op := Go.Op.binOp Go.BinOp.neq 5 (Go.Operand.tmp 94) (Go.Operand.tmp 95) 5, type := 4, pos := "law.go:93", after := #[{ on := 32, ground := Go.Ground.data }, { on := 33, ground := Go.Ground.data }, { on := 30, ground := Go.Ground.guard }], guard := some (30, false) }) (v := ?v35) rfl (by kernel_rfl) (by kernel_rfl) (by kernel_rfl) (fun _ _ _ h => h) (Or.inl ⟨by rfl, ?hy35⟩) (by assumption) ?rest35
  case hy35 => (intro w hSw; (try dsimp only at hSw); have ecbp4 := hSw.cell cbp4 id; have ecmb_0 := hSw.cell cmb_0 id; have ecmb_1 := hSw.cell cmb_1 id; have ecmb_2 := hSw.cell cmb_2 id; have ecmb_3 := hSw.cell cmb_3 id; go_simp <;> with_reducible rfl)
  try simp only [Act.put, List.setIfInBounds_toArray, List.set_cons_zero, List.set_cons_succ]
  refine wpAnyH_take (i := 35) (oi := { dst := some 97, op := Go.Op.pick (Go.Operand.tmp 92) (Go.Operand.const (Go.Value.bool true)) (Go.Operand.tmp 96), type := 4, pos := "law.go:93", after := #[{ on := 30, ground := Go.Ground.data }, { on := 34, ground := Go.Ground.data }], guard := none }) (v := ?v36) rfl (by kernel_rfl) (by kernel_rfl) (by kernel_rfl) (fun _ _ _ h => h) (Or.inl ⟨by rfl, ?hy36⟩) (by assumption) ?rest36
  case hy36 => (intro w hSw; (try dsimp only at hSw); have ecbp4 := hSw.cell cbp4 id; have ecmb_0 := hSw.cell cmb_0 id; have ecmb_1 := hSw.cell cmb_1 id; have ecmb_2 := hSw.cell cmb_2 id; have ecmb_3 := hSw.cell cmb_3 id; go_simp <;> with_reducible rfl)
  try simp only [Act.put, List.setIfInBounds_toArray, List.set_cons_zero, List.set_cons_succ]
  refine wpAnyH_take (i := 36) (oi := { dst := some 98, op := Go.Op.move (Go.Operand.tmp 97), type := 4, pos := "law.go:93", after := #[{ on := 35, ground := Go.Ground.data }, { on := 30, ground := Go.Ground.chain }], guard := none }) (v := ?v37) rfl (by kernel_rfl) (by kernel_rfl) (by kernel_rfl) (fun _ _ _ h => h) (Or.inl ⟨by rfl, ?hy37⟩) (by assumption) ?rest37
  case hy37 => (intro w hSw; (try dsimp only at hSw); have ecbp4 := hSw.cell cbp4 id; have ecmb_0 := hSw.cell cmb_0 id; have ecmb_1 := hSw.cell cmb_1 id; have ecmb_2 := hSw.cell cmb_2 id; have ecmb_3 := hSw.cell cmb_3 id; go_simp <;> with_reducible rfl)
  try simp only [Act.put, List.setIfInBounds_toArray, List.set_cons_zero, List.set_cons_succ]
  refine wpAnyH_take (i := 37) (oi := { dst := some 99, op := Go.Op.fieldAddr 25 (Go.Operand.tmp 12) 1, type := 0, pos := "law.go:93", after := #[{ on := 36, ground := Go.Ground.guard }], guard := some (36, false) }) (v := ?v38) rfl (by kernel_rfl) (by kernel_rfl) (by kernel_rfl) (fun _ _ _ h => h) (Or.inl ⟨by rfl, ?hy38⟩) (by assumption) ?rest38
  case hy38 => (intro w hSw; (try dsimp only at hSw); have ecbp4 := hSw.cell cbp4 id; have ecmb_0 := hSw.cell cmb_0 id; have ecmb_1 := hSw.cell cmb_1 id; have ecmb_2 := hSw.cell cmb_2 id; have ecmb_3 := hSw.cell cmb_3 id; go_simp <;> with_reducible rfl)
  try simp only [Act.put, List.setIfInBounds_toArray, List.set_cons_zero, List.set_cons_succ]
  refine wpAnyH_take (i := 38) (oi := { dst := some 100, op := Go.Op.load 5 (Go.Operand.tmp 99), type := 5, pos := "law.go:93", after := #[{ on := 37, ground := Go.Ground.data }, { on := 36, ground := Go.Ground.guard }], guard := some (36, false) }) (v := ?v39) rfl (by kernel_rfl) (by kernel_rfl) (by kernel_rfl) (fun _ _ _ h => h) (Or.inl ⟨by rfl, ?hy39⟩) (by assumption) ?rest39
  case hy39 => (intro w hSw; (try dsimp only at hSw); have ecbp4 := hSw.cell cbp4 id; have ecmb_0 := hSw.cell cmb_0 id; have ecmb_1 := hSw.cell cmb_1 id; have ecmb_2 := hSw.cell cmb_2 id; have ecmb_3 := hSw.cell cmb_3 id; go_simp <;> with_reducible rfl)
  try simp only [Act.put, List.setIfInBounds_toArray, List.set_cons_zero, List.set_cons_succ]
  refine wpAnyH_take (i := 39) (oi := { dst := some 101, op := Go.Op.move (Go.Operand.tmp 2), type := 5, pos := "law.go:93", after := #[{ on := 36, ground := Go.Ground.guard }], guard := some (36, false) }) (v := ?v40) rfl (by kernel_rfl) (by kernel_rfl) (by kernel_rfl) (fun _ _ _ h => h) (Or.inl ⟨by rfl, ?hy40⟩) (by assumption) ?rest40
  case hy40 => (intro w hSw; (try dsimp only at hSw); have ecbp4 := hSw.cell cbp4 id; have ecmb_0 := hSw.cell cmb_0 id; have ecmb_1 := hSw.cell cmb_1 id; have ecmb_2 := hSw.cell cmb_2 id; have ecmb_3 := hSw.cell cmb_3 id; go_simp <;> with_reducible rfl)
  try simp only [Act.put, List.setIfInBounds_toArray, List.set_cons_zero, List.set_cons_succ]
  refine wpAnyH_take (i := 40) (oi := { dst := some 102, op := Go.Op.binOp Go.BinOp.neq 5 (Go.Operand.tmp 100) (Go.Operand.tmp 101) 5, type := 4, pos := "law.go:93", after := #[{ on := 38, ground := Go.Ground.data }, { on := 39, ground := Go.Ground.data }, { on := 36, ground := Go.Ground.guard }], guard := some (36, false) }) (v := ?v41) rfl (by kernel_rfl) (by kernel_rfl) (by kernel_rfl) (fun _ _ _ h => h) (Or.inl ⟨by rfl, ?hy41⟩) (by assumption) ?rest41
  case hy41 => (intro w hSw; (try dsimp only at hSw); have ecbp4 := hSw.cell cbp4 id; have ecmb_0 := hSw.cell cmb_0 id; have ecmb_1 := hSw.cell cmb_1 id; have ecmb_2 := hSw.cell cmb_2 id; have ecmb_3 := hSw.cell cmb_3 id; go_simp <;> with_reducible rfl)
  try simp only [Act.put, List.setIfInBounds_toArray, List.set_cons_zero, List.set_cons_succ]
  refine wpAnyH_take (i := 41) (oi := { dst := some 103, op := Go.Op.pick (Go.Operand.tmp 98) (Go.Operand.const (Go.Value.bool true)) (Go.Operand.tmp 102), type := 4, pos := "law.go:93", after := #[{ on := 36, ground := Go.Ground.data }, { on := 40, ground := Go.Ground.data }], guard := none }) (v := ?v42) rfl (by kernel_rfl) (by kernel_rfl) (by kernel_rfl) (fun _ _ _ h => h) (Or.inl ⟨by rfl, ?hy42⟩) (by assumption) ?rest42
  case hy42 => (intro w hSw; (try dsimp only at hSw); have ecbp4 := hSw.cell cbp4 id; have ecmb_0 := hSw.cell cmb_0 id; have ecmb_1 := hSw.cell cmb_1 id; have ecmb_2 := hSw.cell cmb_2 id; have ecmb_3 := hSw.cell cmb_3 id; go_simp <;> with_reducible rfl)
  try simp only [Act.put, List.setIfInBounds_toArray, List.set_cons_zero, List.set_cons_succ]
  refine wpAnyH_take (i := 42) (oi := { dst := some 104, op := Go.Op.move (Go.Operand.tmp 103), type := 4, pos := "law.go:93", after := #[{ on := 41, ground := Go.Ground.data }, { on := 36, ground := Go.Ground.chain }], guard := none }) (v := ?v43) rfl (by kernel_rfl) (by kernel_rfl) (by kernel_rfl) (fun _ _ _ h => h) (Or.inl ⟨by rfl, ?hy43⟩) (by assumption) ?rest43
  case hy43 => (intro w hSw; (try dsimp only at hSw); have ecbp4 := hSw.cell cbp4 id; have ecmb_0 := hSw.cell cmb_0 id; have ecmb_1 := hSw.cell cmb_1 id; have ecmb_2 := hSw.cell cmb_2 id; have ecmb_3 := hSw.cell cmb_3 id; go_simp <;> with_reducible rfl)
  try simp only [Act.put, List.setIfInBounds_toArray, List.set_cons_zero, List.set_cons_succ]
  refine wpAnyH_take (i := 43) (oi := { dst := some 105, op := Go.Op.fieldAddr 25 (Go.Operand.tmp 12) 2, type := 0, pos := "law.go:93", after := #[{ on := 42, ground := Go.Ground.guard }], guard := some (42, false) }) (v := ?v44) rfl (by kernel_rfl) (by kernel_rfl) (by kernel_rfl) (fun _ _ _ h => h) (Or.inl ⟨by rfl, ?hy44⟩) (by assumption) ?rest44
  case hy44 => (intro w hSw; (try dsimp only at hSw); have ecbp4 := hSw.cell cbp4 id; have ecmb_0 := hSw.cell cmb_0 id; have ecmb_1 := hSw.cell cmb_1 id; have ecmb_2 := hSw.cell cmb_2 id; have ecmb_3 := hSw.cell cmb_3 id; go_simp <;> with_reducible rfl)
  try simp only [Act.put, List.setIfInBounds_toArray, List.set_cons_zero, List.set_cons_succ]
  refine wpAnyH_take (i := 44) (oi := { dst := some 106, op := Go.Op.load 22 (Go.Operand.tmp 105), type := 22, pos := "law.go:93", after := #[{ on := 43, ground := Go.Ground.data }, { on := 42, ground := Go.Ground.guard }], guard := some (42, false) }) (v := ?v45) rfl (by kernel_rfl) (by kernel_rfl) (by kernel_rfl) (fun _ _ _ h => h) (Or.inl ⟨by rfl, ?hy45⟩) (by assumption) ?rest45
  case hy45 => (intro w hSw; (try dsimp only at hSw); have ecbp4 := hSw.cell cbp4 id; have ecmb_0 := hSw.cell cmb_0 id; have ecmb_1 := hSw.cell cmb_1 id; have ecmb_2 := hSw.cell cmb_2 id; have ecmb_3 := hSw.cell cmb_3 id; go_simp <;> with_reducible rfl)
  try simp only [Act.put, List.setIfInBounds_toArray, List.set_cons_zero, List.set_cons_succ]
  refine wpAnyH_take (i := 45) (oi := { dst := some 107, op := Go.Op.move (Go.Operand.tmp 3), type := 22, pos := "law.go:93", after := #[{ on := 42, ground := Go.Ground.guard }], guard := some (42, false) }) (v := ?v46) rfl (by kernel_rfl) (by kernel_rfl) (by kernel_rfl) (fun _ _ _ h => h) (Or.inl ⟨by rfl, ?hy46⟩) (by assumption) ?rest46
  case hy46 => (intro w hSw; (try dsimp only at hSw); have ecbp4 := hSw.cell cbp4 id; have ecmb_0 := hSw.cell cmb_0 id; have ecmb_1 := hSw.cell cmb_1 id; have ecmb_2 := hSw.cell cmb_2 id; have ecmb_3 := hSw.cell cmb_3 id; go_simp <;> with_reducible rfl)
  try simp only [Act.put, List.setIfInBounds_toArray, List.set_cons_zero, List.set_cons_succ]
  refine wpAnyH_take (i := 46) (oi := { dst := some 108, op := Go.Op.binOp Go.BinOp.neq 22 (Go.Operand.tmp 106) (Go.Operand.tmp 107) 22, type := 4, pos := "law.go:93", after := #[{ on := 44, ground := Go.Ground.data }, { on := 45, ground := Go.Ground.data }, { on := 42, ground := Go.Ground.guard }], guard := some (42, false) }) (v := ?v47) rfl (by kernel_rfl) (by kernel_rfl) (by kernel_rfl) (fun _ _ _ h => h) (Or.inl ⟨by rfl, ?hy47⟩) (by assumption) ?rest47
  case hy47 => (intro w hSw; (try dsimp only at hSw); have ecbp4 := hSw.cell cbp4 id; have ecmb_0 := hSw.cell cmb_0 id; have ecmb_1 := hSw.cell cmb_1 id; have ecmb_2 := hSw.cell cmb_2 id; have ecmb_3 := hSw.cell cmb_3 id; go_simp <;> with_reducible rfl)
  try simp only [Act.put, List.setIfInBounds_toArray, List.set_cons_zero, List.set_cons_succ]
  refine wpAnyH_take (i := 47) (oi := { dst := some 109, op := Go.Op.pick (Go.Operand.tmp 104) (Go.Operand.const (Go.Value.bool true)) (Go.Operand.tmp 108), type := 4, pos := "law.go:93", after := #[{ on := 42, ground := Go.Ground.data }, { on := 46, ground := Go.Ground.data }], guard := none }) (v := ?v48) rfl (by kernel_rfl) (by kernel_rfl) (by kernel_rfl) (fun _ _ _ h => h) (Or.inl ⟨by rfl, ?hy48⟩) (by assumption) ?rest48
  case hy48 => (intro w hSw; (try dsimp only at hSw); have ecbp4 := hSw.cell cbp4 id; have ecmb_0 := hSw.cell cmb_0 id; have ecmb_1 := hSw.cell cmb_1 id; have ecmb_2 := hSw.cell cmb_2 id; have ecmb_3 := hSw.cell cmb_3 id; go_simp <;> with_reducible rfl)
  try simp only [Act.put, List.setIfInBounds_toArray, List.set_cons_zero, List.set_cons_succ]
  refine wpAnyH_done (by kernel_rfl) ?_ _
  clear hS0 hmin hgt hRc hRci e1 cbp4 cmb_0 cmb_1 cmb_2 cmb_3
  have HX_w9 := Lib.hid hx
  clear hx
  go_upto_region 11 with fail
  replace HO7 := Lib.hid (OB.keep HO7.out HX_w9.out (fun _ _ _ _ => id))
  replace B_bp := Lib.hid ((HX_w9.out.block bp (row_lt B_bp.out) id).trans B_bp.out)
  replace B_mb_ := Lib.hid ((HX_w9.out.block mb_ (row_lt B_mb_.out) id).trans B_mb_.out)
  have cbp7 := row_cell (k := 7) (v := .int .u32 xsrc) B_bp.out rfl
  have cbp8 := row_cell (k := 8) (v := .int .u32 xdst) B_bp.out rfl
  have cmb_0 := row_cell (k := 0) (v := .int .u8 ty) B_mb_.out rfl
  have cmb_1 := row_cell (k := 1) (v := .int .u8 co) B_mb_.out rfl
  have cmb_2 := row_cell (k := 2) (v := .int .u32 rest) B_mb_.out rfl
  have cmb_3 := row_cell (k := 3) (v := .slice A7 R.length c7) B_mb_.out rfl
  have okm : (⟨ty, co, rest, R⟩ : Ms).ok := OKT.out
  have OKM := Lib.hid okm
  have hmbl := mb_len (⟨ty, co, rest, R⟩ : Ms)
  have hyr := tells7_right xdst xsrc (⟨ty, co, rest, R⟩ : Ms) (by show R.length ≤ _; have := HR28.out; omega)
  have hyq := tells7_quiet xdst xsrc (⟨ty, co, rest, R⟩ : Ms) OKT.out.1.1 OKT.out.1.2
  obtain ⟨_, _, _, _, _, k5, k6⟩ := OKX.out
  simp only at k5 k6
  have hyo := tells7_ok xdst xsrc (⟨ty, co, rest, R⟩ : Ms) k6 k5
  obtain ⟨Q, hQ⟩ : ∃ Q, Q = mb (⟨ty, co, rest, R⟩ : Ms) := ⟨_, rfl⟩
  have hte : tells7 xdst xsrc (⟨ty, co, rest, R⟩ : Ms) = (⟨0, 0, false, false, 0, 0, 1, xdst, xsrc, Q⟩ : Pk) := by rw [hQ]; rfl
  rw [hte] at hyr hyq hyo
  rw [← hQ] at hmbl
  have hmbl' : Q.length = 8 + R.length := hmbl
  have HQL := Lib.hid hmbl'
  have HQM := Lib.hid hQ
  have HYR := Lib.hid hyr
  have HYQ := Lib.hid hyq
  have HYO := Lib.hid hyo
  clear okm hmbl hmbl' hyr hyq hQ hte k5 k6 hyo
  have hS0 : Ex (fun _ => False) w9 w9.drew := (Ex.refl _ w9).drew
  refine wp_region_held_drew (S := fun W => Ex (fun _ => False) w9 W) (by kernel_rfl) hS0 (fun _ => ?_)
  refine wpAnyH_take (i := 0) (oi := { dst := some 111, op := Go.Op.fieldAddr 41 (Go.Operand.tmp 4) 8, type := 0, pos := "law.go:96", after := #[], guard := none }) (v := ?v49) rfl (by kernel_rfl) (by kernel_rfl) (by kernel_rfl) (fun _ _ _ h => h) (Or.inl ⟨by rfl, ?hy49⟩) (by assumption) ?rest49
  case hy49 => (intro w hSw; (try dsimp only at hSw); have ecbp7 := hSw.cell cbp7 id; have ecbp8 := hSw.cell cbp8 id; have ecmb_0 := hSw.cell cmb_0 id; have ecmb_1 := hSw.cell cmb_1 id; have ecmb_2 := hSw.cell cmb_2 id; have ecmb_3 := hSw.cell cmb_3 id; go_simp <;> with_reducible rfl)
  try simp only [Act.put, List.setIfInBounds_toArray, List.set_cons_zero, List.set_cons_succ]
  refine wpAnyH_take (i := 1) (oi := { dst := some 112, op := Go.Op.load 39 (Go.Operand.tmp 111), type := 39, pos := "law.go:96", after := #[{ on := 0, ground := Go.Ground.data }], guard := none }) (v := ?v50) rfl (by kernel_rfl) (by kernel_rfl) (by kernel_rfl) (fun _ _ _ h => h) (Or.inl ⟨by rfl, ?hy50⟩) (by assumption) ?rest50
  case hy50 => (intro w hSw; (try dsimp only at hSw); have ecbp7 := hSw.cell cbp7 id; have ecbp8 := hSw.cell cbp8 id; have ecmb_0 := hSw.cell cmb_0 id; have ecmb_1 := hSw.cell cmb_1 id; have ecmb_2 := hSw.cell cmb_2 id; have ecmb_3 := hSw.cell cmb_3 id; go_simp <;> with_reducible rfl)
  try simp only [Act.put, List.setIfInBounds_toArray, List.set_cons_zero, List.set_cons_succ]
  refine wpAnyH_take (i := 2) (oi := { dst := some 113, op := Go.Op.fieldAddr 41 (Go.Operand.tmp 4) 7, type := 0, pos := "law.go:96", after := #[], guard := none }) (v := ?v51) rfl (by kernel_rfl) (by kernel_rfl) (by kernel_rfl) (fun _ _ _ h => h) (Or.inl ⟨by rfl, ?hy51⟩) (by assumption) ?rest51
  case hy51 => (intro w hSw; (try dsimp only at hSw); have ecbp7 := hSw.cell cbp7 id; have ecbp8 := hSw.cell cbp8 id; have ecmb_0 := hSw.cell cmb_0 id; have ecmb_1 := hSw.cell cmb_1 id; have ecmb_2 := hSw.cell cmb_2 id; have ecmb_3 := hSw.cell cmb_3 id; go_simp <;> with_reducible rfl)
  try simp only [Act.put, List.setIfInBounds_toArray, List.set_cons_zero, List.set_cons_succ]
  refine wpAnyH_take (i := 3) (oi := { dst := some 114, op := Go.Op.load 39 (Go.Operand.tmp 113), type := 39, pos := "law.go:96", after := #[{ on := 2, ground := Go.Ground.data }], guard := none }) (v := ?v52) rfl (by kernel_rfl) (by kernel_rfl) (by kernel_rfl) (fun _ _ _ h => h) (Or.inl ⟨by rfl, ?hy52⟩) (by assumption) ?rest52
  case hy52 => (intro w hSw; (try dsimp only at hSw); have ecbp7 := hSw.cell cbp7 id; have ecbp8 := hSw.cell cbp8 id; have ecmb_0 := hSw.cell cmb_0 id; have ecmb_1 := hSw.cell cmb_1 id; have ecmb_2 := hSw.cell cmb_2 id; have ecmb_3 := hSw.cell cmb_3 id; go_simp <;> with_reducible rfl)
  try simp only [Act.put, List.setIfInBounds_toArray, List.set_cons_zero, List.set_cons_succ]
  refine wpAnyH_take (i := 4) (oi := { dst := some 115, op := Go.Op.load 25 (Go.Operand.tmp 12), type := 25, pos := "law.go:96", after := #[], guard := none }) (v := ?v53) rfl (by kernel_rfl) (by kernel_rfl) (by kernel_rfl) (fun _ _ _ h => h) (Or.inl ⟨by rfl, ?hy53⟩) (by assumption) ?rest53
  case hy53 => (intro w hSw; (try dsimp only at hSw); have ecbp7 := hSw.cell cbp7 id; have ecbp8 := hSw.cell cbp8 id; have ecmb_0 := hSw.cell cmb_0 id; have ecmb_1 := hSw.cell cmb_1 id; have ecmb_2 := hSw.cell cmb_2 id; have ecmb_3 := hSw.cell cmb_3 id; go_simp <;> with_reducible rfl)
  try simp only [Act.put, List.setIfInBounds_toArray, List.set_cons_zero, List.set_cons_succ]
  refine wpAnyH_ready (rs := [5]) (by kernel_rfl) (by simp) ?_
  refine AllReadyH.cons (o := { dst := some 116, op := Go.Op.call { callee := Go.Callee.value (Go.Operand.func 6), args := #[Go.Operand.tmp 115], argTypes := #[25] }, type := 23, pos := "law.go:96", after := #[{ on := 4, ground := Go.Ground.data }], guard := none }) rfl (fun K hK => ?_) AllReadyH.nil
  go_simp
  refine (mBytes_any _ (⟨ty, co, rest, R⟩ : Ms) A7 c7 _ OKM.out (OB.keep HO7.out hS0 (fun _ _ _ _ => id)).rb (by show R.length ≤ _; have := HR28.out; omega)).mono ?_
  rintro e wa ⟨Aa, ca, rfl, ho, hx⟩
  have hoa : OB wa w9.drew.heap.size (.slice (some Aa) Q.length ca) Q := by rw [HQL.out, HQM.out]; exact ho
  have HOa := Lib.hid hoa
  have hS1 := hS0.trans hx
  clear hx ho hoa
  rw [show (8 + (⟨ty, co, rest, R⟩ : Ms).b.length) = Q.length from HQL.out.symm]
  refine hK.out _ _ hS1 (fun _ => ?_)
  refine wpAnyH_take (i := 6) (oi := { dst := some 117, op := Go.Op.build 41 #[(6, Go.Operand.const (Go.Value.int Go.IntKind.u8 1)), (7, Go.Operand.tmp 112), (8, Go.Operand.tmp 114), (9, Go.Operand.tmp 116)], type := 41, pos := "law.go:96", after := #[{ on := 1, ground := Go.Ground.data }, { on := 3, ground := Go.Ground.data }, { on := 5, ground := Go.Ground.data }], guard := none }) (v := ?v54) rfl (by kernel_rfl) (by kernel_rfl) (by kernel_rfl) (fun _ _ _ h => h) (Or.inl ⟨by rfl, ?hy54⟩) (by assumption) ?rest54
  case hy54 => (intro w hSw; (try dsimp only at hSw); have ecbp7 := hSw.cell cbp7 id; have ecbp8 := hSw.cell cbp8 id; have ecmb_0 := hSw.cell cmb_0 id; have ecmb_1 := hSw.cell cmb_1 id; have ecmb_2 := hSw.cell cmb_2 id; have ecmb_3 := hSw.cell cmb_3 id; go_simp <;> with_reducible rfl)
  try simp only [Act.put, List.setIfInBounds_toArray, List.set_cons_zero, List.set_cons_succ]
  refine wpAnyH_ready (rs := [7]) (by kernel_rfl) (by simp) ?_
  refine AllReadyH.cons (o := { dst := some 118, op := Go.Op.call { callee := Go.Callee.value (Go.Operand.func 10), args := #[Go.Operand.tmp 117], argTypes := #[41] }, type := 42, pos := "law.go:96", after := #[{ on := 6, ground := Go.Ground.data }, { on := 5, ground := Go.Ground.chain }], guard := none }) rfl (fun K hK => ?_) AllReadyH.nil
  go_simp
  refine (pbytes_yes _ (⟨0, 0, false, false, 0, 0, 1, xdst, xsrc, Q⟩ : Pk) (some Aa) ca _ HYO.out HOa.out.rb (by show Q.length ≤ _; have := HQL.out; have := HR28.out; omega) HYR.out).mono ?_
  rintro e wc ⟨gc, cc, rfl, ho, hb_gc, hgc, hx⟩
  have HOc := Lib.hid ho
  have hS2 := hS1.trans hx
  clear hx ho
  refine hK.out _ _ hS2 (fun _ => ?_)
  refine wpAnyH_take (i := 8) (oi := { dst := some 110, op := Go.Op.move (Go.Operand.tmp 118), type := 42, pos := "law.go:96", after := #[{ on := 7, ground := Go.Ground.data }], guard := none }) (v := ?v55) rfl (by kernel_rfl) (by kernel_rfl) (by kernel_rfl) (fun _ _ _ h => h) (Or.inl ⟨by rfl, ?hy55⟩) (by assumption) ?rest55
  case hy55 => (intro w hSw; (try dsimp only at hSw); have ecbp7 := hSw.cell cbp7 id; have ecbp8 := hSw.cell cbp8 id; have ecmb_0 := hSw.cell cmb_0 id; have ecmb_1 := hSw.cell cmb_1 id; have ecmb_2 := hSw.cell cmb_2 id; have ecmb_3 := hSw.cell cmb_3 id; go_simp <;> with_reducible rfl)
  try simp only [Act.put, List.setIfInBounds_toArray, List.set_cons_zero, List.set_cons_succ]
  refine wpAnyH_take (i := 9) (oi := { dst := some 119, op := Go.Op.extract (Go.Operand.tmp 110) 0, type := 23, pos := "law.go:96", after := #[{ on := 8, ground := Go.Ground.data }], guard := none }) (v := ?v56) rfl (by kernel_rfl) (by kernel_rfl) (by kernel_rfl) (fun _ _ _ h => h) (Or.inl ⟨by rfl, ?hy56⟩) (by assumption) ?rest56
  case hy56 => (intro w hSw; (try dsimp only at hSw); have ecbp7 := hSw.cell cbp7 id; have ecbp8 := hSw.cell cbp8 id; have ecmb_0 := hSw.cell cmb_0 id; have ecmb_1 := hSw.cell cmb_1 id; have ecmb_2 := hSw.cell cmb_2 id; have ecmb_3 := hSw.cell cmb_3 id; go_simp <;> with_reducible rfl)
  try simp only [Act.put, List.setIfInBounds_toArray, List.set_cons_zero, List.set_cons_succ]
  refine wpAnyH_take (i := 10) (oi := { dst := some 120, op := Go.Op.extract (Go.Operand.tmp 110) 1, type := 29, pos := "law.go:96", after := #[{ on := 8, ground := Go.Ground.data }, { on := 11, ground := Go.Ground.gcOnly Go.Departure.lateStores }], guard := none }) (v := ?v57) rfl (by kernel_rfl) (by kernel_rfl) (by kernel_rfl) (fun _ _ _ h => h) (Or.inl ⟨by rfl, ?hy57⟩) (by assumption) ?rest57
  case hy57 => (intro w hSw; (try dsimp only at hSw); have ecbp7 := hSw.cell cbp7 id; have ecbp8 := hSw.cell cbp8 id; have ecmb_0 := hSw.cell cmb_0 id; have ecmb_1 := hSw.cell cmb_1 id; have ecmb_2 := hSw.cell cmb_2 id; have ecmb_3 := hSw.cell cmb_3 id; go_simp <;> with_reducible rfl)
  try simp only [Act.put, List.setIfInBounds_toArray, List.set_cons_zero, List.set_cons_succ]
  refine wpAnyH_take (i := 11) (oi := { dst := some 14, op := Go.Op.assign (Go.Operand.tmp 119), type := 23, pos := "law.go:96", after := #[{ on := 9, ground := Go.Ground.data }, { on := 7, ground := Go.Ground.chain }, { on := 0, ground := Go.Ground.phase }, { on := 1, ground := Go.Ground.phase }, { on := 2, ground := Go.Ground.phase }, { on := 3, ground := Go.Ground.phase }, { on := 4, ground := Go.Ground.phase }, { on := 5, ground := Go.Ground.phase }, { on := 6, ground := Go.Ground.phase }, { on := 7, ground := Go.Ground.phase }, { on := 8, ground := Go.Ground.phase }, { on := 9, ground := Go.Ground.phase }, { on := 10, ground := Go.Ground.textOnly Go.Departure.lateStores }], guard := none }) (v := ?v58) rfl (by kernel_rfl) (by kernel_rfl) (by kernel_rfl) (fun _ _ _ h => h) (Or.inl ⟨by rfl, ?hy58⟩) (by assumption) ?rest58
  case hy58 => (intro w hSw; (try dsimp only at hSw); have ecbp7 := hSw.cell cbp7 id; have ecbp8 := hSw.cell cbp8 id; have ecmb_0 := hSw.cell cmb_0 id; have ecmb_1 := hSw.cell cmb_1 id; have ecmb_2 := hSw.cell cmb_2 id; have ecmb_3 := hSw.cell cmb_3 id; go_simp <;> with_reducible rfl)
  try simp only [Act.put, List.setIfInBounds_toArray, List.set_cons_zero, List.set_cons_succ]
  refine wpAnyH_take (i := 12) (oi := { dst := some 15, op := Go.Op.assign (Go.Operand.tmp 120), type := 29, pos := "law.go:96", after := #[{ on := 10, ground := Go.Ground.data }, { on := 11, ground := Go.Ground.chain }, { on := 0, ground := Go.Ground.phase }, { on := 1, ground := Go.Ground.phase }, { on := 2, ground := Go.Ground.phase }, { on := 3, ground := Go.Ground.phase }, { on := 4, ground := Go.Ground.phase }, { on := 5, ground := Go.Ground.phase }, { on := 6, ground := Go.Ground.phase }, { on := 7, ground := Go.Ground.phase }, { on := 8, ground := Go.Ground.phase }, { on := 9, ground := Go.Ground.phase }, { on := 10, ground := Go.Ground.phase }, { on := 11, ground := Go.Ground.phase }], guard := none }) (v := ?v59) rfl (by kernel_rfl) (by kernel_rfl) (by kernel_rfl) (fun _ _ _ h => h) (Or.inl ⟨by rfl, ?hy59⟩) (by assumption) ?rest59
  case hy59 => (intro w hSw; (try dsimp only at hSw); have ecbp7 := hSw.cell cbp7 id; have ecbp8 := hSw.cell cbp8 id; have ecmb_0 := hSw.cell cmb_0 id; have ecmb_1 := hSw.cell cmb_1 id; have ecmb_2 := hSw.cell cmb_2 id; have ecmb_3 := hSw.cell cmb_3 id; go_simp <;> with_reducible rfl)
  try simp only [Act.put, List.setIfInBounds_toArray, List.set_cons_zero, List.set_cons_succ]
  refine wpAnyH_done (by kernel_rfl) ?_ _
  have hx := hS2
  clear hS0 hS1 hS2 cbp7 cbp8 cmb_0 cmb_1 cmb_2 cmb_3
  have HX_wc := Lib.hid hx
  clear hx
  obtain ⟨hpe, hpp⟩ := pb_back HYO.out HYR.out []
  rw [List.append_nil] at hpe hpp
  have hpl0 := pb_len (⟨0, 0, false, false, 0, 0, 1, xdst, xsrc, Q⟩ : Pk)
  obtain ⟨C, hC⟩ : ∃ C, C = pb (⟨0, 0, false, false, 0, 0, 1, xdst, xsrc, Q⟩ : Pk) := ⟨_, rfl⟩
  rw [← hC] at hpe hpp hpl0 HOc ⊢
  have hcl : C.length ≤ 1000 := by have := HQL.out; have := HR28.out; have h : C.length = 20 + Q.length := hpl0; omega
  have hyq : quiet (ppk C) = !(decide (ty = 8) || decide (ty = 0)) := by rw [hpp]; exact HYQ.out
  have HPE2 := Lib.hid hpe
  have HCL := Lib.hid hcl
  have HYQ2 := Lib.hid hyq
  clear hpe hpp hpl0 hC hcl hyq
  have hrb := HOc.out.rb
  by_cases d8 : ty = 8
  ·
    have hq2 : quiet (ppk C) = false := by rw [HYQ2.out, d8]; rfl
    have e8 : (ty != 8) = false := by rw [d8]; rfl
    clear d8
    have HQ2 := Lib.hid hq2
    clear hq2
    go_wp2_with fail
    refine (merror_yes _ (some ⟨gc, 0, none⟩) C.length cc C 3 1 0 wc hrb (fun h => by cases h) (by have := HCL.out; omega) HPE2.out HQ2.out).mono ?_
    rintro e wd ⟨Ad, cd, rfl, ho, hx⟩
    obtain ⟨ld, hld⟩ : ∃ l, ems C 3 1 0 = ⟨3, 1, 0, l⟩ := ⟨_, rfl⟩
    rw [hld]
    have hv : msv ⟨3, 1, 0, ld⟩ (.slice Ad (⟨3, 1, 0, ld⟩ : Ms).b.length cd) = .agg #[.int .u8 3, .int .u8 1, .int .u32 0, .slice Ad ld.length cd] := rfl
    rw [hv]
    clear hv hrb ho hld
    have HX_wd := Lib.hid hx
    clear hx
    go_upto_region 13 with fail
    have hx : Ex (fun _ => False) wd (wd.alloc (.cells #[.int .u8 3, .int .u8 1, .int .u32 0, .slice Ad ld.length cd] 25)) := (Ex.refl _ wd).alloc _
    have hb : (wd.alloc (.cells #[.int .u8 3, .int .u8 1, .int .u32 0, .slice Ad ld.length cd] 25)).heap[wd.heap.size]? = some (.cells #[.int .u8 3, .int .u8 1, .int .u32 0, .slice Ad ld.length cd] 25) := heap_alloc_new wd _
    obtain ⟨zb, hzb⟩ : ∃ zb, zb = wd.heap.size := ⟨_, rfl⟩
    have hb_zb : wd.heap.size ≤ zb := by omega
    rw [← hzb] at hb
    try simp only [← hzb]
    generalize wd.alloc (.cells #[.int .u8 3, .int .u8 1, .int .u32 0, .slice Ad ld.length cd] 25) = we at hx hb ⊢
    clear hzb
    have HX_we := Lib.hid hx
    clear hx
    have B_zb := Lib.hid hb
    clear hb
    go_wp2_with fail
    refine (code_nil we).mono ?_
    rintro e wf ⟨rfl, hwf⟩
    have hx : Ex (fun _ => False) we wf := by rw [← hwf]; exact Ex.refl _ we
    clear hwf
    have HX_wf := Lib.hid hx
    clear hx
    go_wp2_with fail
    go_ret
    exact ⟨rfl, ((((((((((HX_w1.out.trans HX_w2.out).andThen HX_w3.out (fun i hi e => by have := hb_bp; omega)).trans HX_w6.out).trans HX_w7.out).trans HX_w8.out).trans HX_w9.out).trans HX_wc.out).trans HX_wd.out).trans HX_we.out).trans HX_wf.out)⟩
  by_cases d0 : ty = 0
  ·
    have hq2 : quiet (ppk C) = false := by rw [HYQ2.out, d0]; rfl
    have e8 : (ty != 8) = true := by rw [d0]; rfl
    have e0 : (ty != 0) = false := by rw [d0]; rfl
    clear d8 d0
    have HQ2 := Lib.hid hq2
    clear hq2
    go_wp2_with fail
    refine (merror_yes _ (some ⟨gc, 0, none⟩) C.length cc C 3 1 0 wc hrb (fun h => by cases h) (by have := HCL.out; omega) HPE2.out HQ2.out).mono ?_
    rintro e wd ⟨Ad, cd, rfl, ho, hx⟩
    obtain ⟨ld, hld⟩ : ∃ l, ems C 3 1 0 = ⟨3, 1, 0, l⟩ := ⟨_, rfl⟩
    rw [hld]
    have hv : msv ⟨3, 1, 0, ld⟩ (.slice Ad (⟨3, 1, 0, ld⟩ : Ms).b.length cd) = .agg #[.int .u8 3, .int .u8 1, .int .u32 0, .slice Ad ld.length cd] := rfl
    rw [hv]
    clear hv hrb ho hld
    have HX_wd := Lib.hid hx
    clear hx
    go_upto_region 13 with fail
    have hx : Ex (fun _ => False) wd (wd.alloc (.cells #[.int .u8 3, .int .u8 1, .int .u32 0, .slice Ad ld.length cd] 25)) := (Ex.refl _ wd).alloc _
    have hb : (wd.alloc (.cells #[.int .u8 3, .int .u8 1, .int .u32 0, .slice Ad ld.length cd] 25)).heap[wd.heap.size]? = some (.cells #[.int .u8 3, .int .u8 1, .int .u32 0, .slice Ad ld.length cd] 25) := heap_alloc_new wd _
    obtain ⟨zb, hzb⟩ : ∃ zb, zb = wd.heap.size := ⟨_, rfl⟩
    have hb_zb : wd.heap.size ≤ zb := by omega
    rw [← hzb] at hb
    try simp only [← hzb]
    generalize wd.alloc (.cells #[.int .u8 3, .int .u8 1, .int .u32 0, .slice Ad ld.length cd] 25) = we at hx hb ⊢
    clear hzb
    have HX_we := Lib.hid hx
    clear hx
    have B_zb := Lib.hid hb
    clear hb
    go_wp2_with fail
    refine (code_nil we).mono ?_
    rintro e wf ⟨rfl, hwf⟩
    have hx : Ex (fun _ => False) we wf := by rw [← hwf]; exact Ex.refl _ we
    clear hwf
    have HX_wf := Lib.hid hx
    clear hx
    go_wp2_with fail
    go_ret
    exact ⟨rfl, ((((((((((HX_w1.out.trans HX_w2.out).andThen HX_w3.out (fun i hi e => by have := hb_bp; omega)).trans HX_w6.out).trans HX_w7.out).trans HX_w8.out).trans HX_w9.out).trans HX_wc.out).trans HX_wd.out).trans HX_we.out).trans HX_wf.out)⟩
  ·
    have hq2 : quiet (ppk C) = true := by rw [HYQ2.out, decide_eq_false d8, decide_eq_false d0]; rfl
    have e8 : (ty != 8) = true := by rw [bne_iff_ne]; exact d8
    have e0 : (ty != 0) = true := by rw [bne_iff_ne]; exact d0
    clear d8 d0
    have HQ2 := Lib.hid hq2
    clear hq2
    go_wp2_with fail
    refine (merror_quiet _ (some ⟨gc, 0, none⟩) C.length cc C 3 1 0 wc hrb (fun h => by cases h) (by have := HCL.out; omega) HPE2.out HQ2.out).mono ?_
    rintro e wd ⟨vd, rfl, he, hx⟩
    obtain ⟨td, yd, rfl⟩ := he.shape
    have hv : msv zms (.slice none 0 0) = .agg #[.int .u8 0, .int .u8 0, .int .u32 0, .slice none 0 0] := rfl
    rw [hv]
    clear hv hrb
    have HX_wd := Lib.hid hx
    clear hx
    have HEd := Lib.hid he
    clear he
    go_upto_region 13 with fail
    have hx : Ex (fun _ => False) wd (wd.alloc (.cells #[.int .u8 0, .int .u8 0, .int .u32 0, .slice none 0 0] 25)) := (Ex.refl _ wd).alloc _
    have hb : (wd.alloc (.cells #[.int .u8 0, .int .u8 0, .int .u32 0, .slice none 0 0] 25)).heap[wd.heap.size]? = some (.cells #[.int .u8 0, .int .u8 0, .int .u32 0, .slice none 0 0] 25) := heap_alloc_new wd _
    obtain ⟨zb, hzb⟩ : ∃ zb, zb = wd.heap.size := ⟨_, rfl⟩
    have hb_zb : wd.heap.size ≤ zb := by omega
    rw [← hzb] at hb
    try simp only [← hzb]
    generalize wd.alloc (.cells #[.int .u8 0, .int .u8 0, .int .u32 0, .slice none 0 0] 25) = we at hx hb ⊢
    clear hzb
    have HX_we := Lib.hid hx
    clear hx
    have B_zb := Lib.hid hb
    clear hb
    go_wp2_with fail
    refine (code_any _ [lay7] 8 _ we (EC.keep HX_we.out (fun _ _ => id) HEd.out) (HG.out.keep (((((((((HX_w1.out.trans HX_w2.out).andThen HX_w3.out (fun i hi e => by have := hb_bp; omega)).trans HX_w6.out).trans HX_w7.out).trans HX_w8.out).trans HX_w9.out).trans HX_wc.out).trans HX_wd.out).trans HX_we.out) id)).mono ?_
    rintro e wf ⟨rfl, hx⟩
    have HX_wf := Lib.hid hx
    clear hx
    go_wp2_with fail
    go_ret
    exact ⟨rfl, ((((((((((HX_w1.out.trans HX_w2.out).andThen HX_w3.out (fun i hi e => by have := hb_bp; omega)).trans HX_w6.out).trans HX_w7.out).trans HX_w8.out).trans HX_w9.out).trans HX_wc.out).trans HX_wd.out).trans HX_we.out).trans HX_wf.out)⟩
end Go.Proofs.YtbmjkcocnmfpaaaDoor
