/-
  The contract of icmp.Error. By an AI agent.
-/
import Derived.Test.YtbmjkcocnmfpaaaDoorMsB
import Derived.Test.YtbmjkcocnmfpaaaDoorIpA2
namespace Go.Proofs.YtbmjkcocnmfpaaaDoor
open Go.RowKit

theorem asks_any (x : UInt8) (w : World) : Calls Tryd.prog 52 #[.int .u8 (x.toNat : Int)] w fun e w' => e = .returned (.bool (decide (x = 8) || decide (x = 0))) ∧ w = w' := by
  have e8 : ((x.toNat : Int) == 8) = decide (x = 8) := by
    by_cases h : x = 8
    · subst h; rfl
    · rw [decide_eq_false h, beq_eq_false_iff_ne]; intro h'; exact h (UInt8.toNat_inj.1 (by show x.toNat = 8; omega))
  have e0 : ((x.toNat : Int) == 0) = decide (x = 0) := by
    by_cases h : x = 0
    · subst h; rfl
    · rw [decide_eq_false h, beq_eq_false_iff_ne]; intro h'; exact h (UInt8.toNat_inj.1 (by show x.toNat = 0; omega))
  by_cases d : x = 8
  · rw [decide_eq_true d] at e8 ⊢
    clear d e0
    go_enter Tryd.func52, Tryd.ntmps52
    go_wp2_with fail
    go_ret
    exact ⟨rfl, rfl⟩
  · rw [decide_eq_false d] at e8 ⊢
    clear d
    go_enter Tryd.func52, Tryd.ntmps52
    go_wp2_with fail
    go_ret
    exact ⟨by simp, rfl⟩
set_option maxRecDepth 100000 in
set_option maxHeartbeats 2000000 in
theorem quiet_any (P : Nat → Prop) (p : Pk) (A : Option Addr) (c : Nat) (w : World) (hr : RB w P (.slice A p.b.length c) p.b) :
    Calls Tryd.prog 31 #[pkv p (.slice A p.b.length c)] w fun e w' => e = .returned (.bool (quiet p)) ∧ Ex (fun _ => False) w w' := by
  obtain ⟨xtos, xid, xdf, xmf, xoff, xttl, xpr, xsrc, xdst, xb⟩ := p
  simp only at hr
  have HR := Lib.hid hr
  clear hr
  show Calls Tryd.prog 31 #[.agg #[.int .u8 xtos, .int .u16 xid, .bool xdf, .bool xmf, .int .i64 xoff, .int .u8 xttl, .int .u8 xpr, .int .u32 xsrc, .int .u32 xdst, .slice A xb.length c]] w _
  have hx0 : Ex (fun _ => False) w (w.alloc (.cells #[.int .u8 xtos, .int .u16 xid, .bool xdf, .bool xmf, .int .i64 xoff, .int .u8 xttl, .int .u8 xpr, .int .u32 xsrc, .int .u32 xdst, .slice A xb.length c] 41)) := (Ex.refl _ w).alloc _
  have HX0 := Lib.hid hx0
  clear hx0
  by_cases h1 : xoff = 0
  case neg =>
    have e : quiet (⟨xtos, xid, xdf, xmf, xoff, xttl, xpr, xsrc, xdst, xb⟩ : Pk) = true := by simp [quiet, h1]
    rw [e]
    have h3 : (xoff != 0) = true := by rw [bne_iff_ne]; exact h1
    clear e h1
    go_enter Tryd.func31, Tryd.ntmps31
    go_wp2_with fail
    go_ret
    exact ⟨rfl, HX0.out⟩
  subst h1
  by_cases h2 : xpr = 1
  case neg =>
    have e : quiet (⟨xtos, xid, xdf, xmf, 0, xttl, xpr, xsrc, xdst, xb⟩ : Pk) = false := by simp [quiet, h2]
    rw [e]
    have h3 : (xpr == 1) = false := by rw [beq_eq_false_iff_ne]; exact h2
    clear e h2
    go_enter Tryd.func31, Tryd.ntmps31
    go_wp2_with fail
    go_ret
    exact ⟨rfl, HX0.out⟩
  subst h2
  match xb, HR with
  | [], HR =>
    have e : quiet (⟨xtos, xid, xdf, xmf, 0, xttl, 1, xsrc, xdst, []⟩ : Pk) = true := rfl
    rw [e]
    clear e
    go_enter Tryd.func31, Tryd.ntmps31
    go_wp2_with fail
    go_ret
    exact ⟨rfl, HX0.out⟩
  | x :: r, HR =>
    have e : quiet (⟨xtos, xid, xdf, xmf, 0, xttl, 1, xsrc, xdst, x :: r⟩ : Pk) = !(decide (x = 8) || decide (x = 0)) := by simp [quiet]
    rw [e]
    clear e
    have h0 : 0 < (x :: r).length := by simp
    have hz : (((x :: r).length : Int) == 0) = false := by rw [beq_eq_false_iff_ne]; simp only [List.length_cons]; omega
    obtain ⟨_, A', c', e', hcap, hcell⟩ := HR.out
    injection e' with e1 e2 e3
    subst e1 e3
    obtain ⟨b, off, rfl, _, hc⟩ := hcell 0 (by simp)
    have hc1 := HX0.out.cell hc id
    simp only [List.getElem_cons_zero, Nat.add_zero] at hc1
    clear hc hcell e2
    obtain ⟨n, hn⟩ : ∃ n, n = (x :: r).length := ⟨_, rfl⟩
    rw [← hn] at h0 hz hcap HX0 hc1 ⊢
    clear hn HR
    go_enter Tryd.func31, Tryd.ntmps31
    go_wp2_with fail
    refine (asks_any x _).mono ?_
    rintro e w' ⟨rfl, rfl⟩
    go_wp2_with fail
    go_ret
    exact ⟨by simp, HX0.out⟩
set_option maxRecDepth 100000 in
set_option maxHeartbeats 4000000 in
theorem merror_bad (P : Nat → Prop) (A : Option Addr) (n c : Nat) (l : List UInt8) (ty co rest : Int) (w : World) (hr : RB w P (.slice A n c) l) (hA : A = none → c = 0) (hl : l.length ≤ 1000000000) (r : List (List UInt8)) (k : Nat) (h : perr l = some (r, k)) :
    Calls Tryd.prog 11 #[.slice A n c, .int .u8 ty, .int .u8 co, .int .u32 rest] w fun e w' => ∃ v, e = .returned (.tuple #[msv zms (.slice none 0 0), v]) ∧ EC w' (fun j => w.heap.size ≤ j) (lay7 :: r) v k ∧ Ex (fun _ => False) w w' := by
  obtain rfl : n = l.length := by obtain ⟨_, _, _, e, _⟩ := hr; injection e
  have H := Lib.hid h
  clear h
  have HR := Lib.hid hr
  have HA := Lib.hid hA
  clear hr hA
  go_enter Tryd.func11, Tryd.ntmps11
  go_upto_region 1 with fail
  have hx : Ex (fun _ => False) w (w.alloc (.cells #[.int .u8 0, .int .u8 0, .int .u32 0, .slice none 0 0] 25)) := (Ex.refl _ w).alloc _
  have hb : (w.alloc (.cells #[.int .u8 0, .int .u8 0, .int .u32 0, .slice none 0 0] 25)).heap[w.heap.size]? = some (.cells #[.int .u8 0, .int .u8 0, .int .u32 0, .slice none 0 0] 25) := heap_alloc_new w _
  obtain ⟨rb, hrb⟩ : ∃ rb, rb = w.heap.size := ⟨_, rfl⟩
  have hb_rb : w.heap.size ≤ rb := by omega
  rw [← hrb] at hb
  try simp only [← hrb]
  generalize w.alloc (.cells #[.int .u8 0, .int .u8 0, .int .u32 0, .slice none 0 0] 25) = w1 at hx hb ⊢
  clear hrb
  have HX_w1 := Lib.hid hx
  clear hx
  have B_rb := Lib.hid hb
  clear hb
  have hrbl := row_lt B_rb.out
  go_wp2_with fail
  refine (ipparse_no P A l.length c l w1 (RB.keep HR.out HX_w1.out (fun _ _ _ => id)) HA.out hl r k H.out).mono ?_
  rintro e w2 ⟨t2, y2, rfl, he, hx⟩
  have HX_w2 := Lib.hid hx
  clear hx
  have HE2 := Lib.hid he
  clear he
  have hv : pkv zpk (.slice none 0 0) = .agg #[.int .u8 0, .int .u16 0, .bool false, .bool false, .int .i64 0, .int .u8 0, .int .u8 0, .int .u32 0, .int .u32 0, .slice none 0 0] := rfl
  rw [hv]
  clear hv
  go_upto_block 0 with fail
  have hx : Ex (fun _ => False) w2 (w2.alloc (.cells #[.int .u8 0, .int .u16 0, .bool false, .bool false, .int .i64 0, .int .u8 0, .int .u8 0, .int .u32 0, .int .u32 0, .slice none 0 0] 41)) := (Ex.refl _ w2).alloc _
  have hb : (w2.alloc (.cells #[.int .u8 0, .int .u16 0, .bool false, .bool false, .int .i64 0, .int .u8 0, .int .u8 0, .int .u32 0, .int .u32 0, .slice none 0 0] 41)).heap[w2.heap.size]? = some (.cells #[.int .u8 0, .int .u16 0, .bool false, .bool false, .int .i64 0, .int .u8 0, .int .u8 0, .int .u32 0, .int .u32 0, .slice none 0 0] 41) := heap_alloc_new w2 _
  obtain ⟨xb_, hxb_⟩ : ∃ xb_, xb_ = w2.heap.size := ⟨_, rfl⟩
  have hb_xb_ : w2.heap.size ≤ xb_ := by omega
  rw [← hxb_] at hb
  try simp only [← hxb_]
  generalize w2.alloc (.cells #[.int .u8 0, .int .u16 0, .bool false, .bool false, .int .i64 0, .int .u8 0, .int .u8 0, .int .u32 0, .int .u32 0, .slice none 0 0] 41) = w3 at hx hb ⊢
  clear hxb_
  have HX_w3 := Lib.hid hx
  clear hx
  have B_xb_ := Lib.hid hb
  clear hb
  replace HE2 := Lib.hid (EC.keep HX_w3.out (fun _ _ => id) HE2.out)
  go_wp2_with fail
  refine (wrong7_any _ r k _ w3 HE2.out).mono ?_
  rintro e w4 ⟨v4, rfl, he, hx⟩
  have HX_w4 := Lib.hid hx
  clear hx
  have hz01 := HX_w1.out.size
  have hz13 := (HX_w2.out.trans HX_w3.out).size
  have he : EC w4 (fun j => w1.heap.size ≤ j) (lay7 :: r) v4 k := EC.mono (fun j hj => by omega) he
  have HE4 := Lib.hid he
  clear he
  replace B_rb := Lib.hid ((((HX_w2.out.trans HX_w3.out).trans HX_w4.out).block rb (row_lt B_rb.out) id).trans B_rb.out)
  have crb0 := row_cell (k := 0) (v := .int .u8 0) B_rb.out rfl
  have crb1 := row_cell (k := 1) (v := .int .u8 0) B_rb.out rfl
  have crb2 := row_cell (k := 2) (v := .int .u32 0) B_rb.out rfl
  have crb3 := row_cell (k := 3) (v := .slice none 0 0) B_rb.out rfl
  have frb0 := row_frozen B_rb.out 0
  have frb1 := row_frozen B_rb.out 1
  have frb2 := row_frozen B_rb.out 2
  have frb3 := row_frozen B_rb.out 3
  go_wp2_with fail
  (try simp only [Exit.inBlock, Exit.then])
  have r0 : (w4.setCell ⟨rb, 0, none⟩ (.int .u8 0)).heap[rb]? = some (.cells #[.int .u8 0, .int .u8 0, .int .u32 0, .slice none 0 0] 25) := row_set B_rb.out 0 (.int .u8 0)
  have r1 : ((w4.setCell ⟨rb, 0, none⟩ (.int .u8 0)).setCell ⟨rb, 1, none⟩ (.int .u8 0)).heap[rb]? = some (.cells #[.int .u8 0, .int .u8 0, .int .u32 0, .slice none 0 0] 25) := row_set r0 1 (.int .u8 0)
  clear r0
  have r2 : (((w4.setCell ⟨rb, 0, none⟩ (.int .u8 0)).setCell ⟨rb, 1, none⟩ (.int .u8 0)).setCell ⟨rb, 2, none⟩ (.int .u32 0)).heap[rb]? = some (.cells #[.int .u8 0, .int .u8 0, .int .u32 0, .slice none 0 0] 25) := row_set r1 2 (.int .u32 0)
  clear r1
  have r3 : ((((w4.setCell ⟨rb, 0, none⟩ (.int .u8 0)).setCell ⟨rb, 1, none⟩ (.int .u8 0)).setCell ⟨rb, 2, none⟩ (.int .u32 0)).setCell ⟨rb, 3, none⟩ (.slice none 0 0)).heap[rb]? = some (.cells #[.int .u8 0, .int .u8 0, .int .u32 0, .slice none 0 0] 25) := row_set r2 3 (.slice none 0 0)
  clear r2
  have hx : Ex (fun j => j = rb) w4 ((((w4.setCell ⟨rb, 0, none⟩ (.int .u8 0)).setCell ⟨rb, 1, none⟩ (.int .u8 0)).setCell ⟨rb, 2, none⟩ (.int .u32 0)).setCell ⟨rb, 3, none⟩ (.slice none 0 0)) := (((((Ex.refl (fun j => j = rb) w4).setCell (p := ⟨rb, 0, none⟩) (.inl rfl) (.int .u8 0)).setCell (p := ⟨rb, 1, none⟩) (.inl rfl) (.int .u8 0)).setCell (p := ⟨rb, 2, none⟩) (.inl rfl) (.int .u32 0)).setCell (p := ⟨rb, 3, none⟩) (.inl rfl) (.slice none 0 0))
  clear crb0 crb1 crb2 crb3 frb0 frb1 frb2 frb3
  generalize ((((w4.setCell ⟨rb, 0, none⟩ (.int .u8 0)).setCell ⟨rb, 1, none⟩ (.int .u8 0)).setCell ⟨rb, 2, none⟩ (.int .u32 0)).setCell ⟨rb, 3, none⟩ (.slice none 0 0)) = wz at r3 hx ⊢
  replace B_rb := Lib.hid r3
  clear r3
  have HX_wz := Lib.hid hx
  clear hx
  refine bodyPost_ret (v := .tuple #[.agg #[.int .u8 0, .int .u8 0, .int .u32 0, .slice none 0 0], v4]) ?_ rfl ⟨v4, rfl, EC.up (EC.keepB HX_wz.out (by omega) HE4.out) (by omega), ((((HX_w1.out.trans HX_w2.out).trans HX_w3.out).trans HX_w4.out).andThen HX_wz.out (fun i hi e => by have := hb_rb; omega))⟩
  exact results_cell_row2 (p := 8) (u := 9) rfl _ _ rb 25 #[.int .u8 0, .int .u8 0, .int .u32 0, .slice none 0 0] (0, 0) _ _ rfl rfl B_rb.out Tryd.underlying25 rfl ms_size
set_option maxRecDepth 100000 in
set_option maxHeartbeats 4000000 in
theorem merror_quiet (P : Nat → Prop) (A : Option Addr) (n c : Nat) (l : List UInt8) (ty co rest : Int) (w : World) (hr : RB w P (.slice A n c) l) (hA : A = none → c = 0) (hl : l.length ≤ 1000000000) (h : perr l = none) (hq : quiet (ppk l) = true) :
    Calls Tryd.prog 11 #[.slice A n c, .int .u8 ty, .int .u8 co, .int .u32 rest] w fun e w' => ∃ v, e = .returned (.tuple #[msv zms (.slice none 0 0), v]) ∧ EC w' (fun j => w.heap.size ≤ j) [lay7] v 8 ∧ Ex (fun _ => False) w w' := by
  obtain rfl : n = l.length := by obtain ⟨_, _, _, e, _⟩ := hr; injection e
  obtain ⟨p, hp⟩ : ∃ p, ppk l = p := ⟨_, rfl⟩
  rw [hp] at hq
  have H := Lib.hid h
  have HPP := Lib.hid hp
  have HQ := Lib.hid hq
  clear h hq
  clear hp
  have HR := Lib.hid hr
  have HA := Lib.hid hA
  clear hr hA
  go_enter Tryd.func11, Tryd.ntmps11
  go_upto_region 1 with fail
  have hx : Ex (fun _ => False) w (w.alloc (.cells #[.int .u8 0, .int .u8 0, .int .u32 0, .slice none 0 0] 25)) := (Ex.refl _ w).alloc _
  have hb : (w.alloc (.cells #[.int .u8 0, .int .u8 0, .int .u32 0, .slice none 0 0] 25)).heap[w.heap.size]? = some (.cells #[.int .u8 0, .int .u8 0, .int .u32 0, .slice none 0 0] 25) := heap_alloc_new w _
  obtain ⟨rb, hrb⟩ : ∃ rb, rb = w.heap.size := ⟨_, rfl⟩
  have hb_rb : w.heap.size ≤ rb := by omega
  rw [← hrb] at hb
  try simp only [← hrb]
  generalize w.alloc (.cells #[.int .u8 0, .int .u8 0, .int .u32 0, .slice none 0 0] 25) = w1 at hx hb ⊢
  clear hrb
  have HX_w1 := Lib.hid hx
  clear hx
  have B_rb := Lib.hid hb
  clear hb
  have hrbl := row_lt B_rb.out
  go_wp2_with fail
  refine (ipparse_yes P A l.length c l w1 (RB.keep HR.out HX_w1.out (fun _ _ _ => id)) HA.out hl _ H.out HPP.out).mono ?_
  rintro e w2 ⟨A2, g2, o2, rfl, hg2, hb2, _, hx⟩
  obtain ⟨xtos, xid, xdf, xmf, xoff, xttl, xpr, xsrc, xdst, xb⟩ := p
  have hv : pkv (⟨xtos, xid, xdf, xmf, xoff, xttl, xpr, xsrc, xdst, xb⟩ : Pk) (.slice A2 (⟨xtos, xid, xdf, xmf, xoff, xttl, xpr, xsrc, xdst, xb⟩ : Pk).b.length (⟨xtos, xid, xdf, xmf, xoff, xttl, xpr, xsrc, xdst, xb⟩ : Pk).b.length) = .agg #[.int .u8 xtos, .int .u16 xid, .bool xdf, .bool xmf, .int .i64 xoff, .int .u8 xttl, .int .u8 xpr, .int .u32 xsrc, .int .u32 xdst, .slice A2 xb.length xb.length] := rfl
  rw [hv]
  clear hv
  have HX_w2 := Lib.hid hx
  clear hx
  have HB2 := Lib.hid hb2
  clear hb2
  go_upto_block 0 with fail
  have hx : Ex (fun _ => False) w2 (w2.alloc (.cells #[.int .u8 xtos, .int .u16 xid, .bool xdf, .bool xmf, .int .i64 xoff, .int .u8 xttl, .int .u8 xpr, .int .u32 xsrc, .int .u32 xdst, .slice A2 xb.length xb.length] 41)) := (Ex.refl _ w2).alloc _
  have hb : (w2.alloc (.cells #[.int .u8 xtos, .int .u16 xid, .bool xdf, .bool xmf, .int .i64 xoff, .int .u8 xttl, .int .u8 xpr, .int .u32 xsrc, .int .u32 xdst, .slice A2 xb.length xb.length] 41)).heap[w2.heap.size]? = some (.cells #[.int .u8 xtos, .int .u16 xid, .bool xdf, .bool xmf, .int .i64 xoff, .int .u8 xttl, .int .u8 xpr, .int .u32 xsrc, .int .u32 xdst, .slice A2 xb.length xb.length] 41) := heap_alloc_new w2 _
  obtain ⟨xb_, hxb_⟩ : ∃ xb_, xb_ = w2.heap.size := ⟨_, rfl⟩
  have hb_xb_ : w2.heap.size ≤ xb_ := by omega
  rw [← hxb_] at hb
  try simp only [← hxb_]
  generalize w2.alloc (.cells #[.int .u8 xtos, .int .u16 xid, .bool xdf, .bool xmf, .int .i64 xoff, .int .u8 xttl, .int .u8 xpr, .int .u32 xsrc, .int .u32 xdst, .slice A2 xb.length xb.length] 41) = w3 at hx hb ⊢
  clear hxb_
  have HX_w3 := Lib.hid hx
  clear hx
  have B_xb_ := Lib.hid hb
  clear hb
  replace HB2 := Lib.hid (RB.keep HB2.out HX_w3.out (fun _ _ _ => id))
  have cxb_0 := row_cell (k := 0) (v := .int .u8 xtos) B_xb_.out rfl
  have cxb_1 := row_cell (k := 1) (v := .int .u16 xid) B_xb_.out rfl
  have cxb_2 := row_cell (k := 2) (v := .bool xdf) B_xb_.out rfl
  have cxb_3 := row_cell (k := 3) (v := .bool xmf) B_xb_.out rfl
  have cxb_4 := row_cell (k := 4) (v := .int .i64 xoff) B_xb_.out rfl
  have cxb_5 := row_cell (k := 5) (v := .int .u8 xttl) B_xb_.out rfl
  have cxb_6 := row_cell (k := 6) (v := .int .u8 xpr) B_xb_.out rfl
  have cxb_7 := row_cell (k := 7) (v := .int .u32 xsrc) B_xb_.out rfl
  have cxb_8 := row_cell (k := 8) (v := .int .u32 xdst) B_xb_.out rfl
  have cxb_9 := row_cell (k := 9) (v := .slice A2 xb.length xb.length) B_xb_.out rfl
  go_wp2_with fail
  refine (quiet_any _ (⟨xtos, xid, xdf, xmf, xoff, xttl, xpr, xsrc, xdst, xb⟩ : Pk) A2 xb.length w3 HB2.out).mono ?_
  rintro e w4 ⟨rfl, hx⟩
  rw [HQ.out]
  clear cxb_0 cxb_1 cxb_2 cxb_3 cxb_4 cxb_5 cxb_6 cxb_7 cxb_8 cxb_9
  have HX_w4 := Lib.hid hx
  clear hx
  go_wp2_with fail
  refine (wrong7_no _ w4).mono ?_
  rintro e w5 ⟨v5, rfl, he, hx⟩
  have HX_w5 := Lib.hid hx
  clear hx
  have HE5 := Lib.hid he
  clear he
  have hz01 := HX_w1.out.size
  have hz14 := ((HX_w2.out.trans HX_w3.out).trans HX_w4.out).size
  replace B_rb := Lib.hid (((((HX_w2.out.trans HX_w3.out).trans HX_w4.out).trans HX_w5.out).block rb (row_lt B_rb.out) id).trans B_rb.out)
  have crb0 := row_cell (k := 0) (v := .int .u8 0) B_rb.out rfl
  have crb1 := row_cell (k := 1) (v := .int .u8 0) B_rb.out rfl
  have crb2 := row_cell (k := 2) (v := .int .u32 0) B_rb.out rfl
  have crb3 := row_cell (k := 3) (v := .slice none 0 0) B_rb.out rfl
  have frb0 := row_frozen B_rb.out 0
  have frb1 := row_frozen B_rb.out 1
  have frb2 := row_frozen B_rb.out 2
  have frb3 := row_frozen B_rb.out 3
  go_wp2_with fail
  (try simp only [Exit.inBlock, Exit.then])
  have r0 : (w5.setCell ⟨rb, 0, none⟩ (.int .u8 0)).heap[rb]? = some (.cells #[.int .u8 0, .int .u8 0, .int .u32 0, .slice none 0 0] 25) := row_set B_rb.out 0 (.int .u8 0)
  have r1 : ((w5.setCell ⟨rb, 0, none⟩ (.int .u8 0)).setCell ⟨rb, 1, none⟩ (.int .u8 0)).heap[rb]? = some (.cells #[.int .u8 0, .int .u8 0, .int .u32 0, .slice none 0 0] 25) := row_set r0 1 (.int .u8 0)
  clear r0
  have r2 : (((w5.setCell ⟨rb, 0, none⟩ (.int .u8 0)).setCell ⟨rb, 1, none⟩ (.int .u8 0)).setCell ⟨rb, 2, none⟩ (.int .u32 0)).heap[rb]? = some (.cells #[.int .u8 0, .int .u8 0, .int .u32 0, .slice none 0 0] 25) := row_set r1 2 (.int .u32 0)
  clear r1
  have r3 : ((((w5.setCell ⟨rb, 0, none⟩ (.int .u8 0)).setCell ⟨rb, 1, none⟩ (.int .u8 0)).setCell ⟨rb, 2, none⟩ (.int .u32 0)).setCell ⟨rb, 3, none⟩ (.slice none 0 0)).heap[rb]? = some (.cells #[.int .u8 0, .int .u8 0, .int .u32 0, .slice none 0 0] 25) := row_set r2 3 (.slice none 0 0)
  clear r2
  have hx : Ex (fun j => j = rb) w5 ((((w5.setCell ⟨rb, 0, none⟩ (.int .u8 0)).setCell ⟨rb, 1, none⟩ (.int .u8 0)).setCell ⟨rb, 2, none⟩ (.int .u32 0)).setCell ⟨rb, 3, none⟩ (.slice none 0 0)) := (((((Ex.refl (fun j => j = rb) w5).setCell (p := ⟨rb, 0, none⟩) (.inl rfl) (.int .u8 0)).setCell (p := ⟨rb, 1, none⟩) (.inl rfl) (.int .u8 0)).setCell (p := ⟨rb, 2, none⟩) (.inl rfl) (.int .u32 0)).setCell (p := ⟨rb, 3, none⟩) (.inl rfl) (.slice none 0 0))
  clear crb0 crb1 crb2 crb3 frb0 frb1 frb2 frb3
  generalize ((((w5.setCell ⟨rb, 0, none⟩ (.int .u8 0)).setCell ⟨rb, 1, none⟩ (.int .u8 0)).setCell ⟨rb, 2, none⟩ (.int .u32 0)).setCell ⟨rb, 3, none⟩ (.slice none 0 0)) = wz at r3 hx ⊢
  replace B_rb := Lib.hid r3
  clear r3
  have HX_wz := Lib.hid hx
  clear hx
  refine bodyPost_ret (v := .tuple #[.agg #[.int .u8 0, .int .u8 0, .int .u32 0, .slice none 0 0], v5]) ?_ rfl ⟨v5, rfl, EC.up (EC.keepB HX_wz.out (by omega) HE5.out) (by omega), (((((HX_w1.out.trans HX_w2.out).trans HX_w3.out).trans HX_w4.out).trans HX_w5.out).andThen HX_wz.out (fun i hi e => by have := hb_rb; omega))⟩
  exact results_cell_row2 (p := 8) (u := 9) rfl _ _ rb 25 #[.int .u8 0, .int .u8 0, .int .u32 0, .slice none 0 0] (0, 0) _ _ rfl rfl B_rb.out Tryd.underlying25 rfl ms_size
set_option maxRecDepth 100000 in
set_option maxHeartbeats 4000000 in
theorem merror_yes (P : Nat → Prop) (A : Option Addr) (n c : Nat) (l : List UInt8) (ty co rest : Int) (w : World) (hr : RB w P (.slice A n c) l) (hA : A = none → c = 0) (hl : l.length ≤ 1000000000) (h : perr l = none) (hq : quiet (ppk l) = false) :
    Calls Tryd.prog 11 #[.slice A n c, .int .u8 ty, .int .u8 co, .int .u32 rest] w fun e w' => ∃ A' c', e = .returned (.tuple #[msv (ems l ty co rest) (.slice A' (ems l ty co rest).b.length c'), .nilIface]) ∧ OB w' w.heap.size (.slice A' (ems l ty co rest).b.length c') (ems l ty co rest).b ∧ Ex (fun _ => False) w w' := by
  obtain rfl : n = l.length := by obtain ⟨_, _, _, e, _⟩ := hr; injection e
  obtain ⟨_, _, _, _, _, hlen, _⟩ := ppk_good h
  have hem : ems l ty co rest = ⟨ty, co, rest, l.take (20 + min (ppk l).b.length 8)⟩ := rfl
  rw [hem]
  clear hem
  obtain ⟨p, hp⟩ : ∃ p, ppk l = p := ⟨_, rfl⟩
  rw [hp] at hq
  have H := Lib.hid h
  have HPP := Lib.hid hp
  have HQ := Lib.hid hq
  clear h hq
  rw [hp] at hlen ⊢
  clear hp
  obtain ⟨m, hm⟩ : ∃ m, m = l.take (20 + min p.b.length 8) := ⟨_, rfl⟩
  have hml : m.length = 20 + min p.b.length 8 := by rw [hm, List.length_take]; omega
  have hrt := hr.take (20 + min p.b.length 8)
  rw [← hm] at hrt ⊢
  have HRT := Lib.hid hrt
  clear hm hrt
  have hlc : l.length ≤ c := by obtain ⟨_, _, _, e, h, _⟩ := hr; injection e with _ _ e3; rw [e3]; exact h
  have HR := Lib.hid hr
  have HA := Lib.hid hA
  clear hr hA
  go_enter Tryd.func11, Tryd.ntmps11
  go_upto_region 1 with fail
  have hx : Ex (fun _ => False) w (w.alloc (.cells #[.int .u8 0, .int .u8 0, .int .u32 0, .slice none 0 0] 25)) := (Ex.refl _ w).alloc _
  have hb : (w.alloc (.cells #[.int .u8 0, .int .u8 0, .int .u32 0, .slice none 0 0] 25)).heap[w.heap.size]? = some (.cells #[.int .u8 0, .int .u8 0, .int .u32 0, .slice none 0 0] 25) := heap_alloc_new w _
  obtain ⟨rb, hrb⟩ : ∃ rb, rb = w.heap.size := ⟨_, rfl⟩
  have hb_rb : w.heap.size ≤ rb := by omega
  rw [← hrb] at hb
  try simp only [← hrb]
  generalize w.alloc (.cells #[.int .u8 0, .int .u8 0, .int .u32 0, .slice none 0 0] 25) = w1 at hx hb ⊢
  clear hrb
  have HX_w1 := Lib.hid hx
  clear hx
  have B_rb := Lib.hid hb
  clear hb
  have hrbl := row_lt B_rb.out
  go_wp2_with fail
  refine (ipparse_yes P A l.length c l w1 (RB.keep HR.out HX_w1.out (fun _ _ _ => id)) HA.out hl _ H.out HPP.out).mono ?_
  rintro e w2 ⟨A2, g2, o2, rfl, hg2, hb2, _, hx⟩
  obtain ⟨xtos, xid, xdf, xmf, xoff, xttl, xpr, xsrc, xdst, xb⟩ := p
  have hv : pkv (⟨xtos, xid, xdf, xmf, xoff, xttl, xpr, xsrc, xdst, xb⟩ : Pk) (.slice A2 (⟨xtos, xid, xdf, xmf, xoff, xttl, xpr, xsrc, xdst, xb⟩ : Pk).b.length (⟨xtos, xid, xdf, xmf, xoff, xttl, xpr, xsrc, xdst, xb⟩ : Pk).b.length) = .agg #[.int .u8 xtos, .int .u16 xid, .bool xdf, .bool xmf, .int .i64 xoff, .int .u8 xttl, .int .u8 xpr, .int .u32 xsrc, .int .u32 xdst, .slice A2 xb.length xb.length] := rfl
  rw [hv]
  clear hv
  have HX_w2 := Lib.hid hx
  clear hx
  have HB2 := Lib.hid hb2
  clear hb2
  go_upto_block 0 with fail
  have hx : Ex (fun _ => False) w2 (w2.alloc (.cells #[.int .u8 xtos, .int .u16 xid, .bool xdf, .bool xmf, .int .i64 xoff, .int .u8 xttl, .int .u8 xpr, .int .u32 xsrc, .int .u32 xdst, .slice A2 xb.length xb.length] 41)) := (Ex.refl _ w2).alloc _
  have hb : (w2.alloc (.cells #[.int .u8 xtos, .int .u16 xid, .bool xdf, .bool xmf, .int .i64 xoff, .int .u8 xttl, .int .u8 xpr, .int .u32 xsrc, .int .u32 xdst, .slice A2 xb.length xb.length] 41)).heap[w2.heap.size]? = some (.cells #[.int .u8 xtos, .int .u16 xid, .bool xdf, .bool xmf, .int .i64 xoff, .int .u8 xttl, .int .u8 xpr, .int .u32 xsrc, .int .u32 xdst, .slice A2 xb.length xb.length] 41) := heap_alloc_new w2 _
  obtain ⟨xb_, hxb_⟩ : ∃ xb_, xb_ = w2.heap.size := ⟨_, rfl⟩
  have hb_xb_ : w2.heap.size ≤ xb_ := by omega
  rw [← hxb_] at hb
  try simp only [← hxb_]
  generalize w2.alloc (.cells #[.int .u8 xtos, .int .u16 xid, .bool xdf, .bool xmf, .int .i64 xoff, .int .u8 xttl, .int .u8 xpr, .int .u32 xsrc, .int .u32 xdst, .slice A2 xb.length xb.length] 41) = w3 at hx hb ⊢
  clear hxb_
  have HX_w3 := Lib.hid hx
  clear hx
  have B_xb_ := Lib.hid hb
  clear hb
  replace HB2 := Lib.hid (RB.keep HB2.out HX_w3.out (fun _ _ _ => id))
  have cxb_0 := row_cell (k := 0) (v := .int .u8 xtos) B_xb_.out rfl
  have cxb_1 := row_cell (k := 1) (v := .int .u16 xid) B_xb_.out rfl
  have cxb_2 := row_cell (k := 2) (v := .bool xdf) B_xb_.out rfl
  have cxb_3 := row_cell (k := 3) (v := .bool xmf) B_xb_.out rfl
  have cxb_4 := row_cell (k := 4) (v := .int .i64 xoff) B_xb_.out rfl
  have cxb_5 := row_cell (k := 5) (v := .int .u8 xttl) B_xb_.out rfl
  have cxb_6 := row_cell (k := 6) (v := .int .u8 xpr) B_xb_.out rfl
  have cxb_7 := row_cell (k := 7) (v := .int .u32 xsrc) B_xb_.out rfl
  have cxb_8 := row_cell (k := 8) (v := .int .u32 xdst) B_xb_.out rfl
  have cxb_9 := row_cell (k := 9) (v := .slice A2 xb.length xb.length) B_xb_.out rfl
  go_wp2_with fail
  refine (quiet_any _ (⟨xtos, xid, xdf, xmf, xoff, xttl, xpr, xsrc, xdst, xb⟩ : Pk) A2 xb.length w3 HB2.out).mono ?_
  rintro e w4 ⟨rfl, hx⟩
  rw [HQ.out]
  clear cxb_0 cxb_1 cxb_2 cxb_3 cxb_4 cxb_5 cxb_6 cxb_7 cxb_8 cxb_9
  have HX_w4 := Lib.hid hx
  clear hx
  replace B_xb_ := Lib.hid ((HX_w4.out.block xb_ (row_lt B_xb_.out) id).trans B_xb_.out)
  have cxb_9 := row_cell (k := 9) (v := .slice A2 xb.length xb.length) B_xb_.out rfl
  try simp only at hml
  try simp only at hlen
  obtain ⟨k, hk, hk1⟩ : ∃ k : Nat, (if 8 < (xb.length : Int) then (8 : Int) else (xb.length : Int)) = (k : Int) ∧ (20 : Int) + (k : Int) = (m.length : Int) := by
    refine ⟨min xb.length 8, ?_, by rw [hml]; omega⟩
    split <;> omega
  have hmc : m.length ≤ c := by omega
  have hml' : (m.length : Int) ≤ (l.length : Int) := by omega
  have hrt := (RB.keep HRT.out (((HX_w1.out.trans HX_w2.out).trans HX_w3.out).trans HX_w4.out) (fun _ _ _ => id))
  have HRT4 := Lib.hid hrt
  have hm28 : m.length ≤ 28 := by omega
  clear hrt hml
  go_wp2_with fail
  refine (clone_any P A m.length c m w4 HRT4.out HA.out (by omega)).mono ?_
  rintro e w5 ⟨A5, c5, rfl, ho, hx⟩
  clear hk hk1
  have HX_w5 := Lib.hid hx
  clear hx
  have HO5 := Lib.hid ho
  clear ho
  have hz01 := HX_w1.out.size
  have hz14 := ((HX_w2.out.trans HX_w3.out).trans HX_w4.out).size
  replace B_rb := Lib.hid (((((HX_w2.out.trans HX_w3.out).trans HX_w4.out).trans HX_w5.out).block rb (row_lt B_rb.out) id).trans B_rb.out)
  have crb0 := row_cell (k := 0) (v := .int .u8 0) B_rb.out rfl
  have crb1 := row_cell (k := 1) (v := .int .u8 0) B_rb.out rfl
  have crb2 := row_cell (k := 2) (v := .int .u32 0) B_rb.out rfl
  have crb3 := row_cell (k := 3) (v := .slice none 0 0) B_rb.out rfl
  have frb0 := row_frozen B_rb.out 0
  have frb1 := row_frozen B_rb.out 1
  have frb2 := row_frozen B_rb.out 2
  have frb3 := row_frozen B_rb.out 3
  go_wp2_with fail
  (try simp only [Exit.inBlock, Exit.then])
  have r0 : (w5.setCell ⟨rb, 0, none⟩ (.int .u8 ty)).heap[rb]? = some (.cells #[.int .u8 ty, .int .u8 0, .int .u32 0, .slice none 0 0] 25) := row_set B_rb.out 0 (.int .u8 ty)
  have r1 : ((w5.setCell ⟨rb, 0, none⟩ (.int .u8 ty)).setCell ⟨rb, 1, none⟩ (.int .u8 co)).heap[rb]? = some (.cells #[.int .u8 ty, .int .u8 co, .int .u32 0, .slice none 0 0] 25) := row_set r0 1 (.int .u8 co)
  clear r0
  have r2 : (((w5.setCell ⟨rb, 0, none⟩ (.int .u8 ty)).setCell ⟨rb, 1, none⟩ (.int .u8 co)).setCell ⟨rb, 2, none⟩ (.int .u32 rest)).heap[rb]? = some (.cells #[.int .u8 ty, .int .u8 co, .int .u32 rest, .slice none 0 0] 25) := row_set r1 2 (.int .u32 rest)
  clear r1
  have r3 : ((((w5.setCell ⟨rb, 0, none⟩ (.int .u8 ty)).setCell ⟨rb, 1, none⟩ (.int .u8 co)).setCell ⟨rb, 2, none⟩ (.int .u32 rest)).setCell ⟨rb, 3, none⟩ (.slice A5 m.length c5)).heap[rb]? = some (.cells #[.int .u8 ty, .int .u8 co, .int .u32 rest, .slice A5 m.length c5] 25) := row_set r2 3 (.slice A5 m.length c5)
  clear r2
  have hx : Ex (fun j => j = rb) w5 ((((w5.setCell ⟨rb, 0, none⟩ (.int .u8 ty)).setCell ⟨rb, 1, none⟩ (.int .u8 co)).setCell ⟨rb, 2, none⟩ (.int .u32 rest)).setCell ⟨rb, 3, none⟩ (.slice A5 m.length c5)) := (((((Ex.refl (fun j => j = rb) w5).setCell (p := ⟨rb, 0, none⟩) (.inl rfl) (.int .u8 ty)).setCell (p := ⟨rb, 1, none⟩) (.inl rfl) (.int .u8 co)).setCell (p := ⟨rb, 2, none⟩) (.inl rfl) (.int .u32 rest)).setCell (p := ⟨rb, 3, none⟩) (.inl rfl) (.slice A5 m.length c5))
  clear crb0 crb1 crb2 crb3 frb0 frb1 frb2 frb3
  generalize ((((w5.setCell ⟨rb, 0, none⟩ (.int .u8 ty)).setCell ⟨rb, 1, none⟩ (.int .u8 co)).setCell ⟨rb, 2, none⟩ (.int .u32 rest)).setCell ⟨rb, 3, none⟩ (.slice A5 m.length c5)) = wz at r3 hx ⊢
  replace B_rb := Lib.hid r3
  clear r3
  have HX_wz := Lib.hid hx
  clear hx
  refine bodyPost_ret (v := .tuple #[.agg #[.int .u8 ty, .int .u8 co, .int .u32 rest, .slice A5 m.length c5], .nilIface]) ?_ rfl ⟨A5, c5, rfl, (OB.keepB HO5.out HX_wz.out (by omega)).mono (by omega), (((((HX_w1.out.trans HX_w2.out).trans HX_w3.out).trans HX_w4.out).trans HX_w5.out).andThen HX_wz.out (fun i hi e => by have := hb_rb; omega))⟩
  exact results_cell_row2 (p := 8) (u := 9) rfl _ _ rb 25 #[.int .u8 ty, .int .u8 co, .int .u32 rest, .slice A5 m.length c5] (0, 0) _ _ rfl rfl B_rb.out Tryd.underlying25 rfl ms_size
end Go.Proofs.YtbmjkcocnmfpaaaDoor
