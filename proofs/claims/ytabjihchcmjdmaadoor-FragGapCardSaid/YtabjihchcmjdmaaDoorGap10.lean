/-
  The walk of FragGap. By an AI agent.
-/
import Derived.Test.YtabjihchcmjdmaaDoorGh10
import Derived.Test.YtabjihchcmjdmaaDoorGi10
import Derived.Test.YtabjihchcmjdmaaDoorGb10
namespace Go.Proofs.YtabjihchcmjdmaaDoor
open Go.RowKit

theorem msr {n i k : Nat} (h : n - i ≤ k) (hl : i < n) : n - (i + 1) < k := by omega
theorem gap_step {n i gg j k : Nat} (hj : j = i % n) (h : k < n ∧ k < i + 1 ∧ k ≠ gg) : (k < n ∧ k < i ∧ k ≠ gg) ∨ k = j := by
  by_cases e : k = i
  · refine .inr ?_
    rw [hj, ← e, Nat.mod_eq_of_lt h.1]
  · exact .inl ⟨h.1, by omega, h.2.2⟩
theorem gap_skip {n i gg j k : Nat} (hj : j = i % n) (hg : j = gg) (h : k < n ∧ k < i + 1 ∧ k ≠ gg) : k < n ∧ k < i ∧ k ≠ gg := by
  rcases gap_step hj h with h1 | h1
  · exact h1
  · exact absurd (h1.trans hg) h.2.2
theorem wrap_1 {i n : Nat} (h : i < 2 * n) (hn : n ≤ 42) : wrap64 ((i : Int) + 1) = (i : Int) + 1 := by unfold wrap64; omega
theorem wrap_12 {i n : Nat} (h : i < 2 * n) (hn : n ≤ 42) : wrap64 ((i : Int) + 1) = ((i + 1 : Nat) : Int) := by unfold wrap64; omega
theorem i_lt {i n : Nat} (h : (i : Int) < 2 * (n : Int)) : i < 2 * n := by omega
theorem i_end {i n : Nat} (h : ¬ (i : Int) < 2 * (n : Int)) (h2 : i ≤ 2 * n) : i = 2 * n := by omega
theorem two_lt {i n : Nat} (h : i < 2 * n) (hn : n ≤ 42) : i < 200 := by omega
theorem pick_j {n gg : Nat} (h1 : 1 < n) (_h2 : gg < n) : (if gg = 0 then 1 else 0) < n ∧ (if gg = 0 then 1 else 0) < 2 * n ∧ (if gg = 0 then 1 else 0) ≠ gg := by split <;> omega
theorem mod_rem (i n : Nat) : ∃ j : Nat, (i : Int).tmod (n : Int) = (j : Int) ∧ j = i % n := ⟨i % n, by rw [Int.tmod_eq_emod_of_nonneg (by omega)]; rfl, rfl⟩
set_option maxRecDepth 100000 in
set_option maxHeartbeats 16000000 in
theorem gap10_any (p : Pk) (A : Option Addr) (c : Nat) (m0 gp t0 : Int) (w : World) (ok : p.ok) (hp : RB w (fun _ => True) (.slice A p.b.length c) p.b) (ht0 : 0 ≤ t0) (hg : ET w) :
    Calls Tryd.prog 9 #[pkv p (.slice A p.b.length c), .int .i64 m0, .int .i64 gp, .int .u64 t0] w fun e w' => e = .returned (.bool true) ∧ Ex (fun _ => False) w w' := by
  obtain ⟨k1, hk1, hk1b⟩ := and16 m0
  obtain ⟨r1, hr1, hr1b⟩ := rem5 k1
  obtain ⟨k2, hk2, _⟩ := and16 gp
  have HKB := Lib.hid hr1b
  have HR1 := Lib.hid hr1
  have HK1 := Lib.hid hk1
  have HK2 := Lib.hid hk2
  obtain ⟨u, hu, hub⟩ : ∃ u : Nat, t0.tmod 1000 = (u : Int) ∧ u < 1000 := by
    obtain ⟨t, rfl⟩ := Int.eq_ofNat_of_zero_le ht0
    exact rem_nat t 1000 (by omega)
  have HU0 := Lib.hid hu
  have HUB := Lib.hid hub
  clear hk1b hr1b hk1 hk2 hr1 hu hub ht0
  obtain ⟨xtos, xid, xdf, xmf, xoff, xttl, xpr, xsrc, xdst, xb⟩ := p
  simp only at hp
  have HG := Lib.hid hg
  have HP := Lib.hid hp
  have OKP := Lib.hid ok
  clear hp ok hg
  show Calls Tryd.prog 9 #[.agg #[.int .u8 xtos, .int .u16 xid, .bool xdf, .bool xmf, .int .i64 xoff, .int .u8 xttl, .int .u8 xpr, .int .u32 xsrc, .int .u32 xdst, .slice A xb.length c], .int .i64 m0, .int .i64 gp, .int .u64 t0] w _
  go_enter Tryd.func9, Tryd.ntmps9
  go_upto_region 1 with fail
  have hx : Ex (fun _ => False) w (w.alloc (.cells #[.int .u8 xtos, .int .u16 xid, .bool xdf, .bool xmf, .int .i64 xoff, .int .u8 xttl, .int .u8 xpr, .int .u32 xsrc, .int .u32 xdst, .slice A xb.length c] 27)) := (Ex.refl _ w).alloc _
  have hb : (w.alloc (.cells #[.int .u8 xtos, .int .u16 xid, .bool xdf, .bool xmf, .int .i64 xoff, .int .u8 xttl, .int .u8 xpr, .int .u32 xsrc, .int .u32 xdst, .slice A xb.length c] 27)).heap[w.heap.size]? = some (.cells #[.int .u8 xtos, .int .u16 xid, .bool xdf, .bool xmf, .int .i64 xoff, .int .u8 xttl, .int .u8 xpr, .int .u32 xsrc, .int .u32 xdst, .slice A xb.length c] 27) := heap_alloc_new w _
  obtain ⟨bp, hbp⟩ : ∃ bp, bp = w.heap.size := ⟨_, rfl⟩
  have hb_bp : w.heap.size ≤ bp := by omega
  rw [← hbp] at hb
  try simp only [← hbp]
  generalize w.alloc (.cells #[.int .u8 xtos, .int .u16 xid, .bool xdf, .bool xmf, .int .i64 xoff, .int .u8 xttl, .int .u8 xpr, .int .u32 xsrc, .int .u32 xdst, .slice A xb.length c] 27) = w1 at hx hb ⊢
  clear hbp
  have HX_w1 := Lib.hid hx
  clear hx
  have B_bp := Lib.hid hb
  clear hb
  have hlp := row_lt B_bp.out
  go_wp2_with fail
  refine (shown10_any w1 (HG.out.keep HX_w1.out id)).mono ?_
  rintro e w2 ⟨rfl, hx⟩
  have hz12 := hx.size
  have HX_w2 := Lib.hid hx
  clear hx
  replace B_bp := Lib.hid ((HX_w2.out.block bp (row_lt B_bp.out) id).trans B_bp.out)
  have cbp0 := row_cell (k := 0) (v := .int .u8 xtos) B_bp.out rfl
  have cbp1 := row_cell (k := 1) (v := .int .u16 xid) B_bp.out rfl
  have cbp2 := row_cell (k := 2) (v := .bool xdf) B_bp.out rfl
  have cbp3 := row_cell (k := 3) (v := .bool xmf) B_bp.out rfl
  have cbp4 := row_cell (k := 4) (v := .int .i64 xoff) B_bp.out rfl
  have cbp5 := row_cell (k := 5) (v := .int .u8 xttl) B_bp.out rfl
  have cbp6 := row_cell (k := 6) (v := .int .u8 xpr) B_bp.out rfl
  have cbp7 := row_cell (k := 7) (v := .int .u32 xsrc) B_bp.out rfl
  have cbp8 := row_cell (k := 8) (v := .int .u32 xdst) B_bp.out rfl
  have cbp9 := row_cell (k := 9) (v := .slice A xb.length c) B_bp.out rfl
  have fbp0 := row_frozen B_bp.out 0
  have fbp1 := row_frozen B_bp.out 1
  have fbp2 := row_frozen B_bp.out 2
  have fbp3 := row_frozen B_bp.out 3
  have fbp4 := row_frozen B_bp.out 4
  have fbp5 := row_frozen B_bp.out 5
  have fbp6 := row_frozen B_bp.out 6
  have fbp7 := row_frozen B_bp.out 7
  have fbp8 := row_frozen B_bp.out 8
  have fbp9 := row_frozen B_bp.out 9
  go_wp2_with fail
  refine (few10_any (fun _ => True) (⟨xtos, xid, xdf, xmf, xoff, xttl, xpr, xsrc, xdst, xb⟩ : Pk) A c w2 (RB.keep HP.out (HX_w1.out.trans HX_w2.out) (fun _ _ _ => id))).mono ?_
  rintro e w3 ⟨xA, xc, rfl, ho, hx⟩
  obtain ⟨xl, hxl⟩ : ∃ l, l = xb.take 2000 := ⟨_, rfl⟩
  have hfw : (⟨xtos, xid, xdf, xmf, xoff, xttl, xpr, xsrc, xdst, xb⟩ : Pk).few 2000 = (⟨xtos, xid, xdf, xmf, xoff, xttl, xpr, xsrc, xdst, xl⟩ : Pk) := by rw [hxl]; rfl
  rw [hfw] at ho ⊢
  have hxn : xl.length ≤ 2000 := by rw [hxl, List.length_take]; omega
  have hv : pkv (⟨xtos, xid, xdf, xmf, xoff, xttl, xpr, xsrc, xdst, xl⟩ : Pk) (.slice (some xA) (⟨xtos, xid, xdf, xmf, xoff, xttl, xpr, xsrc, xdst, xl⟩ : Pk).b.length xc) = .agg #[.int .u8 xtos, .int .u16 xid, .bool xdf, .bool xmf, .int .i64 xoff, .int .u8 xttl, .int .u8 xpr, .int .u32 xsrc, .int .u32 xdst, .slice (some xA) xl.length xc] := rfl
  rw [hv]
  have ho' : OB w3 w2.heap.size (.slice (some xA) xl.length xc) xl := ho
  clear hv hfw hxl ho cbp0 cbp1 cbp2 cbp3 cbp4 cbp5 cbp6 cbp7 cbp8 cbp9 fbp0 fbp1 fbp2 fbp3 fbp4 fbp5 fbp6 fbp7 fbp8 fbp9
  have HX_w3 := Lib.hid hx
  clear hx
  have HO_x := Lib.hid ho'
  clear ho'
  have hbl_bp := row_lt B_bp.out
  replace B_bp := Lib.hid ((HX_w3.out.block bp (row_lt B_bp.out) id).trans B_bp.out)
  have cbp0 := row_cell (k := 0) (v := .int .u8 xtos) B_bp.out rfl
  have cbp1 := row_cell (k := 1) (v := .int .u16 xid) B_bp.out rfl
  have cbp2 := row_cell (k := 2) (v := .bool xdf) B_bp.out rfl
  have cbp3 := row_cell (k := 3) (v := .bool xmf) B_bp.out rfl
  have cbp4 := row_cell (k := 4) (v := .int .i64 xoff) B_bp.out rfl
  have cbp5 := row_cell (k := 5) (v := .int .u8 xttl) B_bp.out rfl
  have cbp6 := row_cell (k := 6) (v := .int .u8 xpr) B_bp.out rfl
  have cbp7 := row_cell (k := 7) (v := .int .u32 xsrc) B_bp.out rfl
  have cbp8 := row_cell (k := 8) (v := .int .u32 xdst) B_bp.out rfl
  have cbp9 := row_cell (k := 9) (v := .slice A xb.length c) B_bp.out rfl
  have fbp0 := row_frozen B_bp.out 0
  have fbp1 := row_frozen B_bp.out 1
  have fbp2 := row_frozen B_bp.out 2
  have fbp3 := row_frozen B_bp.out 3
  have fbp4 := row_frozen B_bp.out 4
  have fbp5 := row_frozen B_bp.out 5
  have fbp6 := row_frozen B_bp.out 6
  have fbp7 := row_frozen B_bp.out 7
  have fbp8 := row_frozen B_bp.out 8
  have fbp9 := row_frozen B_bp.out 9
  go_upto_region 3 with fail
  have r0 : (w3.setCell ⟨bp, 0, none⟩ (.int .u8 xtos)).heap[bp]? = some (.cells #[.int .u8 xtos, .int .u16 xid, .bool xdf, .bool xmf, .int .i64 xoff, .int .u8 xttl, .int .u8 xpr, .int .u32 xsrc, .int .u32 xdst, .slice A xb.length c] 27) := row_set B_bp.out 0 (.int .u8 xtos)
  have r1 : ((w3.setCell ⟨bp, 0, none⟩ (.int .u8 xtos)).setCell ⟨bp, 1, none⟩ (.int .u16 xid)).heap[bp]? = some (.cells #[.int .u8 xtos, .int .u16 xid, .bool xdf, .bool xmf, .int .i64 xoff, .int .u8 xttl, .int .u8 xpr, .int .u32 xsrc, .int .u32 xdst, .slice A xb.length c] 27) := row_set r0 1 (.int .u16 xid)
  clear r0
  have r2 : (((w3.setCell ⟨bp, 0, none⟩ (.int .u8 xtos)).setCell ⟨bp, 1, none⟩ (.int .u16 xid)).setCell ⟨bp, 2, none⟩ (.bool xdf)).heap[bp]? = some (.cells #[.int .u8 xtos, .int .u16 xid, .bool xdf, .bool xmf, .int .i64 xoff, .int .u8 xttl, .int .u8 xpr, .int .u32 xsrc, .int .u32 xdst, .slice A xb.length c] 27) := row_set r1 2 (.bool xdf)
  clear r1
  have r3 : ((((w3.setCell ⟨bp, 0, none⟩ (.int .u8 xtos)).setCell ⟨bp, 1, none⟩ (.int .u16 xid)).setCell ⟨bp, 2, none⟩ (.bool xdf)).setCell ⟨bp, 3, none⟩ (.bool xmf)).heap[bp]? = some (.cells #[.int .u8 xtos, .int .u16 xid, .bool xdf, .bool xmf, .int .i64 xoff, .int .u8 xttl, .int .u8 xpr, .int .u32 xsrc, .int .u32 xdst, .slice A xb.length c] 27) := row_set r2 3 (.bool xmf)
  clear r2
  have r4 : (((((w3.setCell ⟨bp, 0, none⟩ (.int .u8 xtos)).setCell ⟨bp, 1, none⟩ (.int .u16 xid)).setCell ⟨bp, 2, none⟩ (.bool xdf)).setCell ⟨bp, 3, none⟩ (.bool xmf)).setCell ⟨bp, 4, none⟩ (.int .i64 xoff)).heap[bp]? = some (.cells #[.int .u8 xtos, .int .u16 xid, .bool xdf, .bool xmf, .int .i64 xoff, .int .u8 xttl, .int .u8 xpr, .int .u32 xsrc, .int .u32 xdst, .slice A xb.length c] 27) := row_set r3 4 (.int .i64 xoff)
  clear r3
  have r5 : ((((((w3.setCell ⟨bp, 0, none⟩ (.int .u8 xtos)).setCell ⟨bp, 1, none⟩ (.int .u16 xid)).setCell ⟨bp, 2, none⟩ (.bool xdf)).setCell ⟨bp, 3, none⟩ (.bool xmf)).setCell ⟨bp, 4, none⟩ (.int .i64 xoff)).setCell ⟨bp, 5, none⟩ (.int .u8 xttl)).heap[bp]? = some (.cells #[.int .u8 xtos, .int .u16 xid, .bool xdf, .bool xmf, .int .i64 xoff, .int .u8 xttl, .int .u8 xpr, .int .u32 xsrc, .int .u32 xdst, .slice A xb.length c] 27) := row_set r4 5 (.int .u8 xttl)
  clear r4
  have r6 : (((((((w3.setCell ⟨bp, 0, none⟩ (.int .u8 xtos)).setCell ⟨bp, 1, none⟩ (.int .u16 xid)).setCell ⟨bp, 2, none⟩ (.bool xdf)).setCell ⟨bp, 3, none⟩ (.bool xmf)).setCell ⟨bp, 4, none⟩ (.int .i64 xoff)).setCell ⟨bp, 5, none⟩ (.int .u8 xttl)).setCell ⟨bp, 6, none⟩ (.int .u8 xpr)).heap[bp]? = some (.cells #[.int .u8 xtos, .int .u16 xid, .bool xdf, .bool xmf, .int .i64 xoff, .int .u8 xttl, .int .u8 xpr, .int .u32 xsrc, .int .u32 xdst, .slice A xb.length c] 27) := row_set r5 6 (.int .u8 xpr)
  clear r5
  have r7 : ((((((((w3.setCell ⟨bp, 0, none⟩ (.int .u8 xtos)).setCell ⟨bp, 1, none⟩ (.int .u16 xid)).setCell ⟨bp, 2, none⟩ (.bool xdf)).setCell ⟨bp, 3, none⟩ (.bool xmf)).setCell ⟨bp, 4, none⟩ (.int .i64 xoff)).setCell ⟨bp, 5, none⟩ (.int .u8 xttl)).setCell ⟨bp, 6, none⟩ (.int .u8 xpr)).setCell ⟨bp, 7, none⟩ (.int .u32 xsrc)).heap[bp]? = some (.cells #[.int .u8 xtos, .int .u16 xid, .bool xdf, .bool xmf, .int .i64 xoff, .int .u8 xttl, .int .u8 xpr, .int .u32 xsrc, .int .u32 xdst, .slice A xb.length c] 27) := row_set r6 7 (.int .u32 xsrc)
  clear r6
  have r8 : (((((((((w3.setCell ⟨bp, 0, none⟩ (.int .u8 xtos)).setCell ⟨bp, 1, none⟩ (.int .u16 xid)).setCell ⟨bp, 2, none⟩ (.bool xdf)).setCell ⟨bp, 3, none⟩ (.bool xmf)).setCell ⟨bp, 4, none⟩ (.int .i64 xoff)).setCell ⟨bp, 5, none⟩ (.int .u8 xttl)).setCell ⟨bp, 6, none⟩ (.int .u8 xpr)).setCell ⟨bp, 7, none⟩ (.int .u32 xsrc)).setCell ⟨bp, 8, none⟩ (.int .u32 xdst)).heap[bp]? = some (.cells #[.int .u8 xtos, .int .u16 xid, .bool xdf, .bool xmf, .int .i64 xoff, .int .u8 xttl, .int .u8 xpr, .int .u32 xsrc, .int .u32 xdst, .slice A xb.length c] 27) := row_set r7 8 (.int .u32 xdst)
  clear r7
  have r9 : ((((((((((w3.setCell ⟨bp, 0, none⟩ (.int .u8 xtos)).setCell ⟨bp, 1, none⟩ (.int .u16 xid)).setCell ⟨bp, 2, none⟩ (.bool xdf)).setCell ⟨bp, 3, none⟩ (.bool xmf)).setCell ⟨bp, 4, none⟩ (.int .i64 xoff)).setCell ⟨bp, 5, none⟩ (.int .u8 xttl)).setCell ⟨bp, 6, none⟩ (.int .u8 xpr)).setCell ⟨bp, 7, none⟩ (.int .u32 xsrc)).setCell ⟨bp, 8, none⟩ (.int .u32 xdst)).setCell ⟨bp, 9, none⟩ (.slice (some xA) xl.length xc)).heap[bp]? = some (.cells #[.int .u8 xtos, .int .u16 xid, .bool xdf, .bool xmf, .int .i64 xoff, .int .u8 xttl, .int .u8 xpr, .int .u32 xsrc, .int .u32 xdst, .slice (some xA) xl.length xc] 27) := row_set r8 9 (.slice (some xA) xl.length xc)
  clear r8
  have hx : Ex (fun j => j = bp) w3 ((((((((((w3.setCell ⟨bp, 0, none⟩ (.int .u8 xtos)).setCell ⟨bp, 1, none⟩ (.int .u16 xid)).setCell ⟨bp, 2, none⟩ (.bool xdf)).setCell ⟨bp, 3, none⟩ (.bool xmf)).setCell ⟨bp, 4, none⟩ (.int .i64 xoff)).setCell ⟨bp, 5, none⟩ (.int .u8 xttl)).setCell ⟨bp, 6, none⟩ (.int .u8 xpr)).setCell ⟨bp, 7, none⟩ (.int .u32 xsrc)).setCell ⟨bp, 8, none⟩ (.int .u32 xdst)).setCell ⟨bp, 9, none⟩ (.slice (some xA) xl.length xc)) := (((((((((((Ex.refl (fun j => j = bp) w3).setCell (p := ⟨bp, 0, none⟩) (.inl rfl) (.int .u8 xtos)).setCell (p := ⟨bp, 1, none⟩) (.inl rfl) (.int .u16 xid)).setCell (p := ⟨bp, 2, none⟩) (.inl rfl) (.bool xdf)).setCell (p := ⟨bp, 3, none⟩) (.inl rfl) (.bool xmf)).setCell (p := ⟨bp, 4, none⟩) (.inl rfl) (.int .i64 xoff)).setCell (p := ⟨bp, 5, none⟩) (.inl rfl) (.int .u8 xttl)).setCell (p := ⟨bp, 6, none⟩) (.inl rfl) (.int .u8 xpr)).setCell (p := ⟨bp, 7, none⟩) (.inl rfl) (.int .u32 xsrc)).setCell (p := ⟨bp, 8, none⟩) (.inl rfl) (.int .u32 xdst)).setCell (p := ⟨bp, 9, none⟩) (.inl rfl) (.slice (some xA) xl.length xc))
  clear cbp0 cbp1 cbp2 cbp3 cbp4 cbp5 cbp6 cbp7 cbp8 cbp9 fbp0 fbp1 fbp2 fbp3 fbp4 fbp5 fbp6 fbp7 fbp8 fbp9
  generalize ((((((((((w3.setCell ⟨bp, 0, none⟩ (.int .u8 xtos)).setCell ⟨bp, 1, none⟩ (.int .u16 xid)).setCell ⟨bp, 2, none⟩ (.bool xdf)).setCell ⟨bp, 3, none⟩ (.bool xmf)).setCell ⟨bp, 4, none⟩ (.int .i64 xoff)).setCell ⟨bp, 5, none⟩ (.int .u8 xttl)).setCell ⟨bp, 6, none⟩ (.int .u8 xpr)).setCell ⟨bp, 7, none⟩ (.int .u32 xsrc)).setCell ⟨bp, 8, none⟩ (.int .u32 xdst)).setCell ⟨bp, 9, none⟩ (.slice (some xA) xl.length xc)) = w4 at r9 hx ⊢
  replace B_bp := Lib.hid r9
  clear r9
  have HX_w4 := Lib.hid hx
  clear hx
  have HXN := Lib.hid hxn
  clear hxn
  have cbp4 := row_cell (k := 4) (v := .int .i64 xoff) B_bp.out rfl
  have fbp4 := row_frozen B_bp.out 4
  go_upto_region 4 with fail
  have hb : (w4.setCell ⟨bp, 4, none⟩ (.int .i64 0)).heap[bp]? = some (.cells #[.int .u8 xtos, .int .u16 xid, .bool xdf, .bool xmf, .int .i64 0, .int .u8 xttl, .int .u8 xpr, .int .u32 xsrc, .int .u32 xdst, .slice (some xA) xl.length xc] 27) := (row_set B_bp.out 4 (.int .i64 0))
  have hx : Ex (fun j => j = bp) w4 (w4.setCell ⟨bp, 4, none⟩ (.int .i64 0)) := ((Ex.refl (fun j => j = bp) w4).setCell (p := ⟨bp, 4, none⟩) (.inl rfl) (.int .i64 0))
  clear cbp4 fbp4
  generalize (w4.setCell ⟨bp, 4, none⟩ (.int .i64 0)) = w5 at hx hb ⊢
  clear B_bp
  have HX_w5 := Lib.hid hx
  clear hx
  have B_bp := Lib.hid hb
  clear hb
  have cbp3 := row_cell (k := 3) (v := .bool xmf) B_bp.out rfl
  have fbp3 := row_frozen B_bp.out 3
  go_upto_region 5 with fail
  have hb : (w5.setCell ⟨bp, 3, none⟩ (.bool false)).heap[bp]? = some (.cells #[.int .u8 xtos, .int .u16 xid, .bool xdf, .bool false, .int .i64 0, .int .u8 xttl, .int .u8 xpr, .int .u32 xsrc, .int .u32 xdst, .slice (some xA) xl.length xc] 27) := (row_set B_bp.out 3 (.bool false))
  have hx : Ex (fun j => j = bp) w5 (w5.setCell ⟨bp, 3, none⟩ (.bool false)) := ((Ex.refl (fun j => j = bp) w5).setCell (p := ⟨bp, 3, none⟩) (.inl rfl) (.bool false))
  clear cbp3 fbp3
  generalize (w5.setCell ⟨bp, 3, none⟩ (.bool false)) = w6 at hx hb ⊢
  clear B_bp
  have HX_w6 := Lib.hid hx
  clear hx
  have B_bp := Lib.hid hb
  clear hb
  have cbp2 := row_cell (k := 2) (v := .bool xdf) B_bp.out rfl
  have fbp2 := row_frozen B_bp.out 2
  go_upto_region 6 with fail
  have hb : (w6.setCell ⟨bp, 2, none⟩ (.bool false)).heap[bp]? = some (.cells #[.int .u8 xtos, .int .u16 xid, .bool false, .bool false, .int .i64 0, .int .u8 xttl, .int .u8 xpr, .int .u32 xsrc, .int .u32 xdst, .slice (some xA) xl.length xc] 27) := (row_set B_bp.out 2 (.bool false))
  have hx : Ex (fun j => j = bp) w6 (w6.setCell ⟨bp, 2, none⟩ (.bool false)) := ((Ex.refl (fun j => j = bp) w6).setCell (p := ⟨bp, 2, none⟩) (.inl rfl) (.bool false))
  clear cbp2 fbp2
  generalize (w6.setCell ⟨bp, 2, none⟩ (.bool false)) = w7 at hx hb ⊢
  clear B_bp
  have HX_w7 := Lib.hid hx
  clear hx
  have B_bp := Lib.hid hb
  clear hb
  replace HO_x := Lib.hid (OB.keepB (OB.keepB (OB.keepB (OB.keepB HO_x.out HX_w4.out (by omega)) HX_w5.out (by omega)) HX_w6.out (by omega)) HX_w7.out (by omega))
  have OKX : Hid ((⟨xtos, xid, false, false, 0, xttl, xpr, xsrc, xdst, xl⟩ : Pk).ok) := ⟨OKP.out.1, OKP.out.2.1, ⟨by show (-9223372036854775808 : Int) ≤ 0; decide, by show (0 : Int) ≤ 9223372036854775807; decide⟩, OKP.out.2.2.2⟩
  have hrt : (⟨xtos, xid, false, false, 0, xttl, xpr, xsrc, xdst, xl⟩ : Pk).right = 0 := by
    have := HXN.out
    unfold Pk.right
    simp only
    rw [if_neg (by simp), if_neg (by omega)]
  have HRR := Lib.hid hrt
  clear hrt
  have hu := HU0.out
  go_upto_region 7 with fail
  clear hu
  obtain ⟨T, hT⟩ : ∃ T : Int, T = IntKind.u64.wrap (1 + (u : Int)) := ⟨_, rfl⟩
  rw [← hT]
  have HTB : Hid (1 ≤ T ∧ T ≤ 1000) := by
    show 1 ≤ T ∧ T ≤ 1000
    have := HUB.out
    rw [hT, IntKind.wrap_u64]
    omega
  clear hT
  have hk1 := HK1.out
  have hr1 := HR1.out
  have cbp0 := row_cell (k := 0) (v := .int .u8 xtos) B_bp.out rfl
  have cbp1 := row_cell (k := 1) (v := .int .u16 xid) B_bp.out rfl
  have cbp2 := row_cell (k := 2) (v := .bool false) B_bp.out rfl
  have cbp3 := row_cell (k := 3) (v := .bool false) B_bp.out rfl
  have cbp4 := row_cell (k := 4) (v := .int .i64 0) B_bp.out rfl
  have cbp5 := row_cell (k := 5) (v := .int .u8 xttl) B_bp.out rfl
  have cbp6 := row_cell (k := 6) (v := .int .u8 xpr) B_bp.out rfl
  have cbp7 := row_cell (k := 7) (v := .int .u32 xsrc) B_bp.out rfl
  have cbp8 := row_cell (k := 8) (v := .int .u32 xdst) B_bp.out rfl
  have cbp9 := row_cell (k := 9) (v := .slice (some xA) xl.length xc) B_bp.out rfl
  go_wp2_with fail
  clear hk1 hr1
  obtain ⟨M, hM⟩ : ∃ M : Int, M = wrap64 (68 + (r1 : Int)) := ⟨_, rfl⟩
  try rw [← hM]
  have HM68 : Hid (68 ≤ M) := by
    show 68 ≤ M
    have := HKB.out
    rw [hM]
    unfold wrap64
    omega
  clear hM
  refine (split_pl _ (⟨xtos, xid, false, false, 0, xttl, xpr, xsrc, xdst, xl⟩ : Pk) (some xA) xc M w7 HO_x.out.rb (fun h => by cases h) HXN.out (spe_good HM68.out HRR.out rfl)).mono ?_
  rintro e w8 ⟨g, c5, z, n, os, rfl, hpl, hn42, hgb, hx⟩
  obtain ⟨Bp, hBp⟩ : ∃ Bp, Bp = w7.heap.size := ⟨_, rfl⟩
  rw [← hBp] at hpl hgb
  have HPL := Lib.hid hpl
  have HPD := Lib.hid hpl.pd
  have HN := Lib.hid hn42
  have HGB := Lib.hid hgb
  have HBP := Lib.hid hBp
  clear hpl hn42 hgb hBp
  have HX_w8 := Lib.hid hx
  clear hx
  clear cbp0 cbp1 cbp2 cbp3 cbp4 cbp5 cbp6 cbp7 cbp8 cbp9
  go_wp2_with fail
  refine (new_any T w8).mono ?_
  rintro e w9 ⟨rb, bm, rfl, hrs, hx⟩
  obtain ⟨B, hBe⟩ : ∃ B, B = w8.heap.size := ⟨_, rfl⟩
  rw [← hBe] at hrs
  have HRS0 := Lib.hid hrs
  have HBE := Lib.hid hBe
  clear hrs hBe
  have HX_w9 := Lib.hid hx
  clear hx
  by_cases hn2 : (n : Int) < 2
  · go_wp2_with fail
    go_ret
    exact ⟨rfl, ((((((((HX_w1.out.trans HX_w2.out).trans HX_w3.out).andThen HX_w4.out (fun i hi e => by have := hb_bp; omega)).andThen HX_w5.out (fun i hi e => by have := hb_bp; omega)).andThen HX_w6.out (fun i hi e => by have := hb_bp; omega)).andThen HX_w7.out (fun i hi e => by have := hb_bp; omega)).trans HX_w8.out).trans HX_w9.out)⟩
  · have hk2 := HK2.out
    have hn0 : 0 < n := by have := HN.out; omega
    obtain ⟨gg, hgg, hggb⟩ := rem_nat k2 n hn0
    have hnz : ¬ (n : Int) = 0 := by omega
    have HX08 := Lib.hid (((((((HX_w1.out.trans HX_w2.out).trans HX_w3.out).andThen HX_w4.out (fun i hi e => by have := hb_bp; omega)).andThen HX_w5.out (fun i hi e => by have := hb_bp; omega)).andThen HX_w6.out (fun i hi e => by have := hb_bp; omega)).andThen HX_w7.out (fun i hi e => by have := hb_bp; omega)).trans HX_w8.out)
    go_upto_region 14 with fail
    clear hk2 hgg
    have HGG := Lib.hid hggb
    have H1N : Hid (1 < n) := show 1 < n by omega
    clear hggb
    have hw2n : wrap64 (2 * (n : Int)) = 2 * (n : Int) := by
      have := HN.out
      unfold wrap64
      omega
    have HW2N := Lib.hid hw2n
    clear hw2n hn2 hn0
    have HG0 := Lib.hid (GapS.start (⟨xtos, xid, false, false, 0, xttl, xpr, xsrc, xdst, xl⟩ : Pk) z n gg 7 HRS0.out)
    have HU0 : Hid (Up B w8 w9) := HX_w9.out.mono (fun _ _ h => h.elim)
    go_wp2_with fail
    go_loopg [13, 14, 15, 16] (2 * n) (fun kx s13 _ _ _ wr => ∃ (i : Nat), s13 = .int .i64 i ∧ i ≤ 2 * n ∧ 2 * n - i ≤ kx ∧ Hid (GapS wr B rb bm T (⟨xtos, xid, false, false, 0, xttl, xpr, xsrc, xdst, xl⟩ : Pk) z n gg 7 (fun j => j < n ∧ j < i ∧ j ≠ gg) i) ∧ Hid (Up B w8 wr))
    case atStart => exact ⟨0, rfl, Nat.zero_le _, Nat.le_refl _, Lib.hid (HG0.out.mono (fun j h => by omega) (Nat.le_refl _)), HU0⟩
    case round =>
      clear HU0 HG0
      obtain ⟨i, rfl, hi2, hkx, HGS, HU⟩ := hrel
      by_cases hlt : (i : Int) < 2 * (n : Int)
      · have HLT := Lib.hid (i_lt hlt)
        have hw2n := HW2N.out
        obtain ⟨j, hj, hjn⟩ := mod_rem i n
        have hjl : j < n := by rw [hjn]; exact Nat.mod_lt _ (by have := H1N.out; omega)
        by_cases hjg : (j : Int) = (gg : Int)
        · have hjg2 : j = gg := by omega
          have HNG : Hid (GapS wr B rb bm T (⟨xtos, xid, false, false, 0, xttl, xpr, xsrc, xdst, xl⟩ : Pk) z n gg 7 (fun j => j < n ∧ j < i + 1 ∧ j ≠ gg) (i + 1)) := HGS.out.mono (fun k h => gap_skip hjn hjg2 h) (Nat.le_succ i)
          subst hjg2
          clear hjn
          have hwi := wrap_1 HLT.out HN.out.2
          go_wp2_with fail
          go_roundg (2 * n - (i + 1))
          case measure => exact msr hkx HLT.out
          case rel =>
            refine ⟨i + 1, by first | (simp; done) | (rw [wrap_12 HLT.out HN.out.2]), HLT.out, Nat.le_refl _, ?_, ?_⟩
            · exact HNG
            · exact HU
        · have hne : j ≠ gg := fun e => hjg (by rw [e])
          have HJ := Lib.hid (And.intro hjn hne)
          have hjg2 : ((j : Int) == (gg : Int)) = false := beq_eq_false_iff_ne.2 hjg
          clear hjn hne
          obtain ⟨omf, ooff, ob, oA, oc, hpe_o, hbl_o, hob_o, hrow_o⟩ := (HPL.out.up HU.out (Nat.le_of_eq HBE.out.symm)).row hjl
          have lc0 : wr.cell? ⟨g, j * 10, none⟩ = some (.int .u8 xtos) := hrow_o 0 _ rfl
          have lc1 : wr.cell? ⟨g, j * 10 + 1, none⟩ = some (.int .u16 xid) := hrow_o 1 _ rfl
          have lc2 : wr.cell? ⟨g, j * 10 + 2, none⟩ = some (.bool false) := hrow_o 2 _ rfl
          have lc3 : wr.cell? ⟨g, j * 10 + 3, none⟩ = some (.bool omf) := hrow_o 3 _ rfl
          have lc4 : wr.cell? ⟨g, j * 10 + 4, none⟩ = some (.int .i64 ooff) := hrow_o 4 _ rfl
          have lc5 : wr.cell? ⟨g, j * 10 + 5, none⟩ = some (.int .u8 xttl) := hrow_o 5 _ rfl
          have lc6 : wr.cell? ⟨g, j * 10 + 6, none⟩ = some (.int .u8 xpr) := hrow_o 6 _ rfl
          have lc7 : wr.cell? ⟨g, j * 10 + 7, none⟩ = some (.int .u32 xsrc) := hrow_o 7 _ rfl
          have lc8 : wr.cell? ⟨g, j * 10 + 8, none⟩ = some (.int .u32 xdst) := hrow_o 8 _ rfl
          have lc9 : wr.cell? ⟨g, j * 10 + 9, none⟩ = some (.slice oA ob.length oc) := hrow_o 9 _ rfl
          have HPE_o : Hid (pti (⟨xtos, xid, false, false, 0, xttl, xpr, xsrc, xdst, xl⟩ : Pk) z n j = (⟨xtos, xid, false, omf, ooff, xttl, xpr, xsrc, xdst, ob⟩ : Pk)) := hpe_o
          have HOB_o := Lib.hid hob_o
          have HBL_o : Hid (ob.length ≤ xl.length) := hbl_o
          clear hrow_o hpe_o hob_o hbl_o
          have hcall := gap_take HPD.out H1N.out HGG.out OKX.out rfl rfl HRR.out HXN.out hjl HJ.out.2 (⟨xtos, xid, false, omf, ooff, xttl, xpr, xsrc, xdst, ob⟩ : Pk) HPE_o.out.symm oA oc 7 B rb bm T _ i (two_lt HLT.out HN.out.2) wr HGS.out (RB.any HOB_o.out.rb) HOB_o.out.anyA
          have HC := Lib.hid hcall
          have HI2 := Lib.hid (And.intro hi2 hlt)
          have HJL := Lib.hid hjl
          clear hcall hi2
          go_wp2_with fail
          refine HC.out.mono ?_
          rintro e wt ⟨rfl, hgs, hup⟩
          have HGT := Lib.hid hgs
          have HUT : Hid (Up B w8 wt) := HU.out.trans hup
          clear hgs hup HC lc0 lc1 lc2 lc3 lc4 lc5 lc6 lc7 lc8 lc9
          have hwi := wrap_1 HLT.out HN.out.2
          go_wp2_with fail
          go_roundg (2 * n - (i + 1))
          case measure => exact msr hkx HLT.out
          case rel =>
            refine ⟨i + 1, by first | (simp; done) | (rw [wrap_12 HLT.out HN.out.2]), HLT.out, Nat.le_refl _, Lib.hid ((HGT.out.mono (fun k h => ?_) (Nat.le_refl _)).keep ((Ex.refl _ _).alloc _)), Lib.hid (HUT.out.andThen ((Ex.refl (fun _ => False) _).alloc _) (fun k _ h => h.elim))⟩
            exact gap_step HJ.out.1 h
      · obtain rfl := i_end hlt hi2
        obtain ⟨x, hrs1, _, hxb, _, _⟩ := HGS.out.one (j := if gg = 0 then 1 else 0) (pick_j H1N.out HGG.out)
        have hw2n := HW2N.out
        have HRS1 := Lib.hid hrs1
        have HXB := Lib.hid hxb
        have hw6 : IntKind.u64.wrap (6 + T) = 6 + T := by
          have := HTB.out
          rw [IntKind.wrap_u64]
          omega
        have hw7 : IntKind.u64.wrap (7 + T) = 7 + T := by
          have := HTB.out
          rw [IntKind.wrap_u64]
          omega
        clear hrs1 hxb hi2 hkx hlt HGS
        go_wp2_with fail
        refine (len_any B rb bm T [x] wr HRS1.out).mono ?_
        rintro e wl ⟨rfl, hwl⟩
        obtain rfl : wr = wl := hwl.symm
        rw [show ((([x] : List Hp).length : Int)) = 1 from rfl]
        go_wp2_with fail
        refine (tick_no (now := 6 + T) HRS1.out (by rw [HXB.out]; decide) (by have := HTB.out; omega) (by rw [HXB.out]; omega)).mono ?_
        rintro e wa ⟨rfl, hrs, hx⟩
        have HRSA := Lib.hid hrs
        have HUA := Lib.hid hx
        clear hrs hx
        go_wp2_with fail
        refine (tick_yes (now := 7 + T) HRSA.out (by rw [HXB.out]; decide) (by have := HTB.out; omega) (by rw [HXB.out]; omega) (by rw [HXB.out]; have := HTB.out; omega)).mono ?_
        rintro e wb ⟨rfl, hrs, hx⟩
        have HRSB := Lib.hid hrs
        have HUB2 := Lib.hid hx
        clear hrs hx
        go_wp2_with fail
        refine (len_any B rb bm T [] wb HRSB.out).mono ?_
        rintro e wl2 ⟨rfl, hwl⟩
        obtain rfl : wb = wl2 := hwl.symm
        rw [show ((([] : List Hp).length : Int)) = 0 from rfl]
        go_wp2_with fail
        go_ret
        refine ⟨rfl, HX08.out.andThen ((HU.out.trans HUA.out).trans HUB2.out) (fun k h1 h2 => ?_)⟩
        have h3 := HBE.out
        have h4 := HX08.out.size
        omega
end Go.Proofs.YtabjihchcmjdmaaDoor
