/-
  The walk of FragSplits. By an AI agent.
-/
import Derived.Test.YtabjihchcmjdmaaDoorGh10
import Derived.Test.YtabjihchcmjdmaaDoorGi10
import Derived.Test.YtabjihchcmjdmaaDoorGb10
import Derived.Test.YtabjihchcmjdmaaDoorRefS10
namespace Go.Proofs.YtabjihchcmjdmaaDoor
open Go.RowKit

theorem spe_small {p : Pk} {m : Int} {r : List (List UInt8)} {k : Nat} (h : spe p m = some (r, k)) : k ≤ 13 ∧ (etx r k).length ≤ 1000 := by
  unfold spe at h
  split at h
  · cases h; decide
  · split at h
    · rename_i h2
      rcases right_17 h2 with e | e
      · rw [e] at h; cases h; decide
      · rw [e] at h; cases h; decide
    · split at h
      · cases h
      · split at h
        · cases h; decide
        · cases h
theorem bs_eqL (l : List UInt8) : ((bs l).toList == (bs l).toList) = true := by simp
theorem msrP {n i k : Nat} (h : n - i ≤ k) (hl : i < n) : n - (i + 1) < k := by omega
theorem i_ltp {i l : Nat} (h : (i : Int) < (l : Int)) : i < l := by omega
theorem i_endp {i l : Nat} (h : ¬ (i : Int) < (l : Int)) (h2 : i ≤ l) : i = l := by omega
theorem wrap_p {i n : Nat} (h : i < n) (hn : n ≤ 65536) : wrap64 ((i : Int) + 1) = (i : Int) + 1 := by unfold wrap64; omega
theorem wrap_p2 {i n : Nat} (h : i < n) (hn : n ≤ 65536) : wrap64 ((i : Int) + 1) = ((i + 1 : Nat) : Int) := by unfold wrap64; omega
/-- the blocks of the parts' bytes -/
def BB (os : List Po) (k : Nat) : Prop := ∃ o ∈ os, (ov o).ownBlock = some k
/-- what stands while parts are overwritten, one by one, from part i on -/
structure SpS (w0 w : World) (Bp : Nat) (g c n i : Nat) (os : List Po) : Prop where
  op : OP w Bp (.slice (some ⟨g, 0, none⟩) n c) os
  obs : ∀ (j : Nat) (_h : j < os.length), i ≤ j → OB w Bp (ov os[j]) os[j].1.b
  ex : Ex (BB os) w0 w
theorem BB.no {w : World} {Bp : Nat} {os : List Po} (h : OBS w Bp os) {b : Nat} {cs : Array Value} {t : TypeId} (hb : w.heap[b]? = some (.cells cs t)) (ht : t ≠ 5) : ¬ BB os b := by
  rintro ⟨o, ho, e⟩
  obtain ⟨cur, h1⟩ := ownsRow_isCells (h.1 o ho).2 e
  rw [hb] at h1
  injection h1 with h1
  injection h1 with _ h1
  exact ht h1
theorem BB.lo {w : World} {Bp : Nat} {os : List Po} (h : OBS w Bp os) {k : Nat} (hk : BB os k) : Bp ≤ k ∧ ∃ cur, w.heap[k]? = some (.cells cur 5) := by
  obtain ⟨o, ho, e⟩ := hk
  exact ⟨((h.1 o ho).lt k e).1, ownsRow_isCells (h.1 o ho).2 e⟩
theorem SpS.start {w : World} {Bp g c n : Nat} {os : List Po} (h1 : OP w Bp (.slice (some ⟨g, 0, none⟩) n c) os) (h2 : OBS w Bp os) : SpS w w Bp g c n 0 os := ⟨h1, fun _ hj _ => h2.1 _ (List.getElem_mem hj), Ex.refl _ w⟩
theorem SpS.keep {w0 w w' : World} {Bp g c n i : Nat} {os : List Po} (h : SpS w0 w Bp g c n i os) (hx : Ex (fun _ => False) w w') : SpS w0 w' Bp g c n i os :=
  ⟨h.op.keep hx (fun _ _ _ _ => id), fun _ hj hi => (h.obs _ hj hi).keep hx (fun _ _ _ _ => id), h.ex.andThen hx (fun _ _ h => h.elim)⟩
theorem SpS.row {w0 w w' : World} {Bp g c n i : Nat} {os : List Po} (h : SpS w0 w Bp g c n i os) (hi : i < os.length) (hx : Ex (fun k => (ov os[i]).ownBlock = some k) w w') : OP w' Bp (.slice (some ⟨g, 0, none⟩) n c) os := h.op.keep hx (fun k hk _ _ e => by
  obtain ⟨cur, h1⟩ := ownsRow_isCells h.op hk
  obtain ⟨cur2, h2⟩ := ownsRow_isCells (h.obs i hi (Nat.le_refl _)).2 e
  rw [h1] at h2
  injection h2 with h2
  injection h2 with _ h2
  exact absurd h2 (by decide))
/-- part i is overwritten -/
theorem SpS.over {w0 w w' : World} {Bp g c n i : Nat} {os : List Po} (h : SpS w0 w Bp g c n i os) (h0 : OBS w0 Bp os) (hi : i < os.length) (hx : Ex (fun k => (ov os[i]).ownBlock = some k) w w') : SpS w0 w' Bp g c n (i + 1) os := by
  refine ⟨h.op.keep hx (fun k hk _ _ e => ?_), fun j hj hij => (h.obs j hj (by omega)).keep hx (fun k hk _ _ e => ?_), h.ex.trans (hx.mono (fun k _ e => ⟨os[i], List.getElem_mem hi, e⟩))⟩
  · obtain ⟨cur, h1⟩ := ownsRow_isCells h.op hk
    obtain ⟨cur2, h2⟩ := ownsRow_isCells (h.obs i hi (Nat.le_refl _)).2 e
    rw [h1] at h2
    injection h2 with h2
    injection h2 with _ h2
    exact absurd h2 (by decide)
  · exact (List.pairwise_iff_getElem.1 h0.2 i j hi hj (by omega)) k e hk
set_option maxRecDepth 100000 in
set_option maxHeartbeats 16000000 in
theorem splits10_any (p : Pk) (A : Option Addr) (c : Nat) (m : Int) (w : World) (ok : p.ok) (hp : RB w (fun _ => True) (.slice A p.b.length c) p.b) (hg : ET w) :
    Calls Tryd.prog 3 #[pkv p (.slice A p.b.length c), .int .i64 m] w fun e w' => e = .returned (.bool true) ∧ Ex (fun _ => False) w w' := by
  obtain ⟨xtos, xid, xdf, xmf, xoff, xttl, xpr, xsrc, xdst, xb⟩ := p
  simp only at hp
  have HG := Lib.hid hg
  have HP := Lib.hid hp
  have OKP := Lib.hid ok
  clear hp ok hg
  show Calls Tryd.prog 3 #[.agg #[.int .u8 xtos, .int .u16 xid, .bool xdf, .bool xmf, .int .i64 xoff, .int .u8 xttl, .int .u8 xpr, .int .u32 xsrc, .int .u32 xdst, .slice A xb.length c], .int .i64 m] w _
  go_enter Tryd.func3, Tryd.ntmps3
  go_upto_region 1 with fail
  have hx : Ex (fun _ => False) w (w.alloc (.cells #[.int .u8 xtos, .int .u16 xid, .bool xdf, .bool xmf, .int .i64 xoff, .int .u8 xttl, .int .u8 xpr, .int .u32 xsrc, .int .u32 xdst, .slice A xb.length c] 27)) := (Ex.refl _ w).alloc _
  have hb : (w.alloc (.cells #[.int .u8 xtos, .int .u16 xid, .bool xdf, .bool xmf, .int .i64 xoff, .int .u8 xttl, .int .u8 xpr, .int .u32 xsrc, .int .u32 xdst, .slice A xb.length c] 27)).heap[w.heap.size]? = some (.cells #[.int .u8 xtos, .int .u16 xid, .bool xdf, .bool xmf, .int .i64 xoff, .int .u8 xttl, .int .u8 xpr, .int .u32 xsrc, .int .u32 xdst, .slice A xb.length c] 27) := heap_alloc_new w _
  obtain ⟨bp, hbp⟩ : ∃ bp, bp = w.heap.size := ⟨_, rfl⟩
  have hb_bp : w.heap.size ≤ bp := by omega
  rw [← hbp] at hb
  try simp only [← hbp]
  generalize w.alloc (.cells #[.int .u8 xtos, .int .u16 xid, .bool xdf, .bool xmf, .int .i64 xoff, .int .u8 xttl, .int .u8 xpr, .int .u32 xsrc, .int .u32 xdst, .slice A xb.length c] 27) = w1 at hx hb ⊢
  clear hbp
  have HX_w1 := Lib.hid hx
  clear hx
  have B_bp := Lib.hid hb
  clear hb
  have hlp := row_lt B_bp.out
  go_wp2_with fail
  refine (shown10_any w1 (HG.out.keep HX_w1.out id)).mono ?_
  rintro e w2 ⟨rfl, hx⟩
  have hz12 := hx.size
  have HX_w2 := Lib.hid hx
  clear hx
  replace B_bp := Lib.hid ((HX_w2.out.block bp (row_lt B_bp.out) id).trans B_bp.out)
  have cbp0 := row_cell (k := 0) (v := .int .u8 xtos) B_bp.out rfl
  have cbp1 := row_cell (k := 1) (v := .int .u16 xid) B_bp.out rfl
  have cbp2 := row_cell (k := 2) (v := .bool xdf) B_bp.out rfl
  have cbp3 := row_cell (k := 3) (v := .bool xmf) B_bp.out rfl
  have cbp4 := row_cell (k := 4) (v := .int .i64 xoff) B_bp.out rfl
  have cbp5 := row_cell (k := 5) (v := .int .u8 xttl) B_bp.out rfl
  have cbp6 := row_cell (k := 6) (v := .int .u8 xpr) B_bp.out rfl
  have cbp7 := row_cell (k := 7) (v := .int .u32 xsrc) B_bp.out rfl
  have cbp8 := row_cell (k := 8) (v := .int .u32 xdst) B_bp.out rfl
  have cbp9 := row_cell (k := 9) (v := .slice A xb.length c) B_bp.out rfl
  have fbp0 := row_frozen B_bp.out 0
  have fbp1 := row_frozen B_bp.out 1
  have fbp2 := row_frozen B_bp.out 2
  have fbp3 := row_frozen B_bp.out 3
  have fbp4 := row_frozen B_bp.out 4
  have fbp5 := row_frozen B_bp.out 5
  have fbp6 := row_frozen B_bp.out 6
  have fbp7 := row_frozen B_bp.out 7
  have fbp8 := row_frozen B_bp.out 8
  have fbp9 := row_frozen B_bp.out 9
  go_wp2_with fail
  refine (few10_any (fun _ => True) (⟨xtos, xid, xdf, xmf, xoff, xttl, xpr, xsrc, xdst, xb⟩ : Pk) A c w2 (RB.keep HP.out (HX_w1.out.trans HX_w2.out) (fun _ _ _ => id))).mono ?_
  rintro e w3 ⟨xA, xc, rfl, ho, hx⟩
  obtain ⟨xl, hxl⟩ : ∃ l, l = xb.take 2000 := ⟨_, rfl⟩
  have hfw : (⟨xtos, xid, xdf, xmf, xoff, xttl, xpr, xsrc, xdst, xb⟩ : Pk).few 2000 = (⟨xtos, xid, xdf, xmf, xoff, xttl, xpr, xsrc, xdst, xl⟩ : Pk) := by rw [hxl]; rfl
  rw [hfw] at ho ⊢
  have hxn : xl.length ≤ 2000 := by rw [hxl, List.length_take]; omega
  have hv : pkv (⟨xtos, xid, xdf, xmf, xoff, xttl, xpr, xsrc, xdst, xl⟩ : Pk) (.slice (some xA) (⟨xtos, xid, xdf, xmf, xoff, xttl, xpr, xsrc, xdst, xl⟩ : Pk).b.length xc) = .agg #[.int .u8 xtos, .int .u16 xid, .bool xdf, .bool xmf, .int .i64 xoff, .int .u8 xttl, .int .u8 xpr, .int .u32 xsrc, .int .u32 xdst, .slice (some xA) xl.length xc] := rfl
  rw [hv]
  have ho' : OB w3 w2.heap.size (.slice (some xA) xl.length xc) xl := ho
  clear hv hfw hxl ho cbp0 cbp1 cbp2 cbp3 cbp4 cbp5 cbp6 cbp7 cbp8 cbp9 fbp0 fbp1 fbp2 fbp3 fbp4 fbp5 fbp6 fbp7 fbp8 fbp9
  have HX_w3 := Lib.hid hx
  clear hx
  have HO_x := Lib.hid ho'
  clear ho'
  have hbl_bp := row_lt B_bp.out
  replace B_bp := Lib.hid ((HX_w3.out.block bp (row_lt B_bp.out) id).trans B_bp.out)
  have cbp0 := row_cell (k := 0) (v := .int .u8 xtos) B_bp.out rfl
  have cbp1 := row_cell (k := 1) (v := .int .u16 xid) B_bp.out rfl
  have cbp2 := row_cell (k := 2) (v := .bool xdf) B_bp.out rfl
  have cbp3 := row_cell (k := 3) (v := .bool xmf) B_bp.out rfl
  have cbp4 := row_cell (k := 4) (v := .int .i64 xoff) B_bp.out rfl
  have cbp5 := row_cell (k := 5) (v := .int .u8 xttl) B_bp.out rfl
  have cbp6 := row_cell (k := 6) (v := .int .u8 xpr) B_bp.out rfl
  have cbp7 := row_cell (k := 7) (v := .int .u32 xsrc) B_bp.out rfl
  have cbp8 := row_cell (k := 8) (v := .int .u32 xdst) B_bp.out rfl
  have cbp9 := row_cell (k := 9) (v := .slice A xb.length c) B_bp.out rfl
  have fbp0 := row_frozen B_bp.out 0
  have fbp1 := row_frozen B_bp.out 1
  have fbp2 := row_frozen B_bp.out 2
  have fbp3 := row_frozen B_bp.out 3
  have fbp4 := row_frozen B_bp.out 4
  have fbp5 := row_frozen B_bp.out 5
  have fbp6 := row_frozen B_bp.out 6
  have fbp7 := row_frozen B_bp.out 7
  have fbp8 := row_frozen B_bp.out 8
  have fbp9 := row_frozen B_bp.out 9
  go_upto_region 3 with fail
  have r0 : (w3.setCell ⟨bp, 0, none⟩ (.int .u8 xtos)).heap[bp]? = some (.cells #[.int .u8 xtos, .int .u16 xid, .bool xdf, .bool xmf, .int .i64 xoff, .int .u8 xttl, .int .u8 xpr, .int .u32 xsrc, .int .u32 xdst, .slice A xb.length c] 27) := row_set B_bp.out 0 (.int .u8 xtos)
  have r1 : ((w3.setCell ⟨bp, 0, none⟩ (.int .u8 xtos)).setCell ⟨bp, 1, none⟩ (.int .u16 xid)).heap[bp]? = some (.cells #[.int .u8 xtos, .int .u16 xid, .bool xdf, .bool xmf, .int .i64 xoff, .int .u8 xttl, .int .u8 xpr, .int .u32 xsrc, .int .u32 xdst, .slice A xb.length c] 27) := row_set r0 1 (.int .u16 xid)
  clear r0
  have r2 : (((w3.setCell ⟨bp, 0, none⟩ (.int .u8 xtos)).setCell ⟨bp, 1, none⟩ (.int .u16 xid)).setCell ⟨bp, 2, none⟩ (.bool xdf)).heap[bp]? = some (.cells #[.int .u8 xtos, .int .u16 xid, .bool xdf, .bool xmf, .int .i64 xoff, .int .u8 xttl, .int .u8 xpr, .int .u32 xsrc, .int .u32 xdst, .slice A xb.length c] 27) := row_set r1 2 (.bool xdf)
  clear r1
  have r3 : ((((w3.setCell ⟨bp, 0, none⟩ (.int .u8 xtos)).setCell ⟨bp, 1, none⟩ (.int .u16 xid)).setCell ⟨bp, 2, none⟩ (.bool xdf)).setCell ⟨bp, 3, none⟩ (.bool xmf)).heap[bp]? = some (.cells #[.int .u8 xtos, .int .u16 xid, .bool xdf, .bool xmf, .int .i64 xoff, .int .u8 xttl, .int .u8 xpr, .int .u32 xsrc, .int .u32 xdst, .slice A xb.length c] 27) := row_set r2 3 (.bool xmf)
  clear r2
  have r4 : (((((w3.setCell ⟨bp, 0, none⟩ (.int .u8 xtos)).setCell ⟨bp, 1, none⟩ (.int .u16 xid)).setCell ⟨bp, 2, none⟩ (.bool xdf)).setCell ⟨bp, 3, none⟩ (.bool xmf)).setCell ⟨bp, 4, none⟩ (.int .i64 xoff)).heap[bp]? = some (.cells #[.int .u8 xtos, .int .u16 xid, .bool xdf, .bool xmf, .int .i64 xoff, .int .u8 xttl, .int .u8 xpr, .int .u32 xsrc, .int .u32 xdst, .slice A xb.length c] 27) := row_set r3 4 (.int .i64 xoff)
  clear r3
  have r5 : ((((((w3.setCell ⟨bp, 0, none⟩ (.int .u8 xtos)).setCell ⟨bp, 1, none⟩ (.int .u16 xid)).setCell ⟨bp, 2, none⟩ (.bool xdf)).setCell ⟨bp, 3, none⟩ (.bool xmf)).setCell ⟨bp, 4, none⟩ (.int .i64 xoff)).setCell ⟨bp, 5, none⟩ (.int .u8 xttl)).heap[bp]? = some (.cells #[.int .u8 xtos, .int .u16 xid, .bool xdf, .bool xmf, .int .i64 xoff, .int .u8 xttl, .int .u8 xpr, .int .u32 xsrc, .int .u32 xdst, .slice A xb.length c] 27) := row_set r4 5 (.int .u8 xttl)
  clear r4
  have r6 : (((((((w3.setCell ⟨bp, 0, none⟩ (.int .u8 xtos)).setCell ⟨bp, 1, none⟩ (.int .u16 xid)).setCell ⟨bp, 2, none⟩ (.bool xdf)).setCell ⟨bp, 3, none⟩ (.bool xmf)).setCell ⟨bp, 4, none⟩ (.int .i64 xoff)).setCell ⟨bp, 5, none⟩ (.int .u8 xttl)).setCell ⟨bp, 6, none⟩ (.int .u8 xpr)).heap[bp]? = some (.cells #[.int .u8 xtos, .int .u16 xid, .bool xdf, .bool xmf, .int .i64 xoff, .int .u8 xttl, .int .u8 xpr, .int .u32 xsrc, .int .u32 xdst, .slice A xb.length c] 27) := row_set r5 6 (.int .u8 xpr)
  clear r5
  have r7 : ((((((((w3.setCell ⟨bp, 0, none⟩ (.int .u8 xtos)).setCell ⟨bp, 1, none⟩ (.int .u16 xid)).setCell ⟨bp, 2, none⟩ (.bool xdf)).setCell ⟨bp, 3, none⟩ (.bool xmf)).setCell ⟨bp, 4, none⟩ (.int .i64 xoff)).setCell ⟨bp, 5, none⟩ (.int .u8 xttl)).setCell ⟨bp, 6, none⟩ (.int .u8 xpr)).setCell ⟨bp, 7, none⟩ (.int .u32 xsrc)).heap[bp]? = some (.cells #[.int .u8 xtos, .int .u16 xid, .bool xdf, .bool xmf, .int .i64 xoff, .int .u8 xttl, .int .u8 xpr, .int .u32 xsrc, .int .u32 xdst, .slice A xb.length c] 27) := row_set r6 7 (.int .u32 xsrc)
  clear r6
  have r8 : (((((((((w3.setCell ⟨bp, 0, none⟩ (.int .u8 xtos)).setCell ⟨bp, 1, none⟩ (.int .u16 xid)).setCell ⟨bp, 2, none⟩ (.bool xdf)).setCell ⟨bp, 3, none⟩ (.bool xmf)).setCell ⟨bp, 4, none⟩ (.int .i64 xoff)).setCell ⟨bp, 5, none⟩ (.int .u8 xttl)).setCell ⟨bp, 6, none⟩ (.int .u8 xpr)).setCell ⟨bp, 7, none⟩ (.int .u32 xsrc)).setCell ⟨bp, 8, none⟩ (.int .u32 xdst)).heap[bp]? = some (.cells #[.int .u8 xtos, .int .u16 xid, .bool xdf, .bool xmf, .int .i64 xoff, .int .u8 xttl, .int .u8 xpr, .int .u32 xsrc, .int .u32 xdst, .slice A xb.length c] 27) := row_set r7 8 (.int .u32 xdst)
  clear r7
  have r9 : ((((((((((w3.setCell ⟨bp, 0, none⟩ (.int .u8 xtos)).setCell ⟨bp, 1, none⟩ (.int .u16 xid)).setCell ⟨bp, 2, none⟩ (.bool xdf)).setCell ⟨bp, 3, none⟩ (.bool xmf)).setCell ⟨bp, 4, none⟩ (.int .i64 xoff)).setCell ⟨bp, 5, none⟩ (.int .u8 xttl)).setCell ⟨bp, 6, none⟩ (.int .u8 xpr)).setCell ⟨bp, 7, none⟩ (.int .u32 xsrc)).setCell ⟨bp, 8, none⟩ (.int .u32 xdst)).setCell ⟨bp, 9, none⟩ (.slice (some xA) xl.length xc)).heap[bp]? = some (.cells #[.int .u8 xtos, .int .u16 xid, .bool xdf, .bool xmf, .int .i64 xoff, .int .u8 xttl, .int .u8 xpr, .int .u32 xsrc, .int .u32 xdst, .slice (some xA) xl.length xc] 27) := row_set r8 9 (.slice (some xA) xl.length xc)
  clear r8
  have hx : Ex (fun j => j = bp) w3 ((((((((((w3.setCell ⟨bp, 0, none⟩ (.int .u8 xtos)).setCell ⟨bp, 1, none⟩ (.int .u16 xid)).setCell ⟨bp, 2, none⟩ (.bool xdf)).setCell ⟨bp, 3, none⟩ (.bool xmf)).setCell ⟨bp, 4, none⟩ (.int .i64 xoff)).setCell ⟨bp, 5, none⟩ (.int .u8 xttl)).setCell ⟨bp, 6, none⟩ (.int .u8 xpr)).setCell ⟨bp, 7, none⟩ (.int .u32 xsrc)).setCell ⟨bp, 8, none⟩ (.int .u32 xdst)).setCell ⟨bp, 9, none⟩ (.slice (some xA) xl.length xc)) := (((((((((((Ex.refl (fun j => j = bp) w3).setCell (p := ⟨bp, 0, none⟩) (.inl rfl) (.int .u8 xtos)).setCell (p := ⟨bp, 1, none⟩) (.inl rfl) (.int .u16 xid)).setCell (p := ⟨bp, 2, none⟩) (.inl rfl) (.bool xdf)).setCell (p := ⟨bp, 3, none⟩) (.inl rfl) (.bool xmf)).setCell (p := ⟨bp, 4, none⟩) (.inl rfl) (.int .i64 xoff)).setCell (p := ⟨bp, 5, none⟩) (.inl rfl) (.int .u8 xttl)).setCell (p := ⟨bp, 6, none⟩) (.inl rfl) (.int .u8 xpr)).setCell (p := ⟨bp, 7, none⟩) (.inl rfl) (.int .u32 xsrc)).setCell (p := ⟨bp, 8, none⟩) (.inl rfl) (.int .u32 xdst)).setCell (p := ⟨bp, 9, none⟩) (.inl rfl) (.slice (some xA) xl.length xc))
  clear cbp0 cbp1 cbp2 cbp3 cbp4 cbp5 cbp6 cbp7 cbp8 cbp9 fbp0 fbp1 fbp2 fbp3 fbp4 fbp5 fbp6 fbp7 fbp8 fbp9
  generalize ((((((((((w3.setCell ⟨bp, 0, none⟩ (.int .u8 xtos)).setCell ⟨bp, 1, none⟩ (.int .u16 xid)).setCell ⟨bp, 2, none⟩ (.bool xdf)).setCell ⟨bp, 3, none⟩ (.bool xmf)).setCell ⟨bp, 4, none⟩ (.int .i64 xoff)).setCell ⟨bp, 5, none⟩ (.int .u8 xttl)).setCell ⟨bp, 6, none⟩ (.int .u8 xpr)).setCell ⟨bp, 7, none⟩ (.int .u32 xsrc)).setCell ⟨bp, 8, none⟩ (.int .u32 xdst)).setCell ⟨bp, 9, none⟩ (.slice (some xA) xl.length xc)) = w4 at r9 hx ⊢
  replace B_bp := Lib.hid r9
  clear r9
  have HX_w4 := Lib.hid hx
  clear hx
  have HXN := Lib.hid hxn
  have OKX := Lib.hid (show (⟨xtos, xid, xdf, xmf, xoff, xttl, xpr, xsrc, xdst, xl⟩ : Pk).ok from OKP.out)
  clear hxn
  replace HO_x := Lib.hid (OB.keepB HO_x.out HX_w4.out (by omega))
  have cbp0 := row_cell (k := 0) (v := .int .u8 xtos) B_bp.out rfl
  have cbp1 := row_cell (k := 1) (v := .int .u16 xid) B_bp.out rfl
  have cbp2 := row_cell (k := 2) (v := .bool xdf) B_bp.out rfl
  have cbp3 := row_cell (k := 3) (v := .bool xmf) B_bp.out rfl
  have cbp4 := row_cell (k := 4) (v := .int .i64 xoff) B_bp.out rfl
  have cbp5 := row_cell (k := 5) (v := .int .u8 xttl) B_bp.out rfl
  have cbp6 := row_cell (k := 6) (v := .int .u8 xpr) B_bp.out rfl
  have cbp7 := row_cell (k := 7) (v := .int .u32 xsrc) B_bp.out rfl
  have cbp8 := row_cell (k := 8) (v := .int .u32 xdst) B_bp.out rfl
  have cbp9 := row_cell (k := 9) (v := .slice (some xA) xl.length xc) B_bp.out rfl
  go_wp2_with fail
  refine (of10_any _ (⟨xtos, xid, xdf, xmf, xoff, xttl, xpr, xsrc, xdst, xl⟩ : Pk) (some xA) xc w4 OKX.out HO_x.out.rb).mono ?_
  rintro e w5 ⟨rfl, hx⟩
  have hv : rpv (⟨xtos, xid, xdf, xmf, xoff, xttl, xpr, xsrc, xdst, xl⟩ : Pk) = .agg #[.int .u32 xtos, .int .u32 xid, .bool xdf, .bool xmf, .int .i64 xoff, .int .u32 xttl, .int .u32 xpr, .int .u32 xsrc, .int .u32 xdst, .string (bs xl)] := rfl
  rw [hv]
  clear hv cbp0 cbp1 cbp2 cbp3 cbp4 cbp5 cbp6 cbp7 cbp8 cbp9
  go_upto_region 4 with fail
  have HX_w5 := Lib.hid hx
  clear hx
  have hx : Ex (fun _ => False) w5 (w5.alloc (.cells #[.int .u32 xtos, .int .u32 xid, .bool xdf, .bool xmf, .int .i64 xoff, .int .u32 xttl, .int .u32 xpr, .int .u32 xsrc, .int .u32 xdst, .string (bs xl)] 31)) := (Ex.refl _ w5).alloc _
  have hb : (w5.alloc (.cells #[.int .u32 xtos, .int .u32 xid, .bool xdf, .bool xmf, .int .i64 xoff, .int .u32 xttl, .int .u32 xpr, .int .u32 xsrc, .int .u32 xdst, .string (bs xl)] 31)).heap[w5.heap.size]? = some (.cells #[.int .u32 xtos, .int .u32 xid, .bool xdf, .bool xmf, .int .i64 xoff, .int .u32 xttl, .int .u32 xpr, .int .u32 xsrc, .int .u32 xdst, .string (bs xl)] 31) := heap_alloc_new w5 _
  obtain ⟨wq, hwq⟩ : ∃ wq, wq = w5.heap.size := ⟨_, rfl⟩
  have hb_wq : w5.heap.size ≤ wq := by omega
  rw [← hwq] at hb
  try simp only [← hwq]
  generalize w5.alloc (.cells #[.int .u32 xtos, .int .u32 xid, .bool xdf, .bool xmf, .int .i64 xoff, .int .u32 xttl, .int .u32 xpr, .int .u32 xsrc, .int .u32 xdst, .string (bs xl)] 31) = w6 at hx hb ⊢
  clear hwq
  have HX_w6 := Lib.hid hx
  clear hx
  have B_wq := Lib.hid hb
  clear hb
  replace HO_x := Lib.hid (OB.keep HO_x.out (HX_w5.out.trans HX_w6.out) (fun _ _ _ _ => id))
  replace B_bp := Lib.hid (((HX_w5.out.trans HX_w6.out).block bp (row_lt B_bp.out) id).trans B_bp.out)
  have HOX6 := HO_x
  have HX06 := Lib.hid (((((HX_w1.out.trans HX_w2.out).trans HX_w3.out).andThen HX_w4.out (fun i hi e => by have := hb_bp; omega)).trans HX_w5.out).trans HX_w6.out)
  have cbp0 := row_cell (k := 0) (v := .int .u8 xtos) B_bp.out rfl
  have cbp1 := row_cell (k := 1) (v := .int .u16 xid) B_bp.out rfl
  have cbp2 := row_cell (k := 2) (v := .bool xdf) B_bp.out rfl
  have cbp3 := row_cell (k := 3) (v := .bool xmf) B_bp.out rfl
  have cbp4 := row_cell (k := 4) (v := .int .i64 xoff) B_bp.out rfl
  have cbp5 := row_cell (k := 5) (v := .int .u8 xttl) B_bp.out rfl
  have cbp6 := row_cell (k := 6) (v := .int .u8 xpr) B_bp.out rfl
  have cbp7 := row_cell (k := 7) (v := .int .u32 xsrc) B_bp.out rfl
  have cbp8 := row_cell (k := 8) (v := .int .u32 xdst) B_bp.out rfl
  have cbp9 := row_cell (k := 9) (v := .slice (some xA) xl.length xc) B_bp.out rfl
  obtain ⟨S, hS⟩ : ∃ S, S = spe (⟨xtos, xid, xdf, xmf, xoff, xttl, xpr, xsrc, xdst, xl⟩ : Pk) m := ⟨_, rfl⟩
  cases S with
  | some rk =>
    obtain ⟨r, k⟩ := rk
    have HS := Lib.hid hS.symm
    clear hS
    go_wp2_with fail
    refine (split_no _ (⟨xtos, xid, xdf, xmf, xoff, xttl, xpr, xsrc, xdst, xl⟩ : Pk) (some xA) xc m w6 HO_x.out.rb (fun h => by cases h) (Nat.le_trans HXN.out (by decide)) r k HS.out).mono ?_
    rintro e w7 ⟨t5, y5, rfl, hec, hx⟩
    clear cbp0 cbp1 cbp2 cbp3 cbp4 cbp5 cbp6 cbp7 cbp8 cbp9
    have HX_w7 := Lib.hid hx
    clear hx
    have HE := Lib.hid hec
    clear hec
    replace B_wq := Lib.hid ((HX_w7.out.block wq (row_lt B_wq.out) id).trans B_wq.out)
    have cwq0 := row_cell (k := 0) (v := .int .u32 xtos) B_wq.out rfl
    have cwq1 := row_cell (k := 1) (v := .int .u32 xid) B_wq.out rfl
    have cwq2 := row_cell (k := 2) (v := .bool xdf) B_wq.out rfl
    have cwq3 := row_cell (k := 3) (v := .bool xmf) B_wq.out rfl
    have cwq4 := row_cell (k := 4) (v := .int .i64 xoff) B_wq.out rfl
    have cwq5 := row_cell (k := 5) (v := .int .u32 xttl) B_wq.out rfl
    have cwq6 := row_cell (k := 6) (v := .int .u32 xpr) B_wq.out rfl
    have cwq7 := row_cell (k := 7) (v := .int .u32 xsrc) B_wq.out rfl
    have cwq8 := row_cell (k := 8) (v := .int .u32 xdst) B_wq.out rfl
    have cwq9 := row_cell (k := 9) (v := .string (bs xl)) B_wq.out rfl
    go_wp2_with fail
    have hcall := rsplit_no (⟨xtos, xid, xdf, xmf, xoff, xttl, xpr, xsrc, xdst, xl⟩ : Pk) m w7 HXN.out r k HS.out
    refine hcall.mono ?_
    rintro e w8 ⟨rfl, hx⟩
    clear hcall cwq0 cwq1 cwq2 cwq3 cwq4 cwq5 cwq6 cwq7 cwq8 cwq9
    have HX_w8 := Lib.hid hx
    clear hx
    obtain ⟨hk13, hl1k⟩ := spe_small HS.out
    go_wp2_with fail
    refine (told10_any _ r k _ w8 (EC.keep HX_w8.out (fun _ _ => id) HE.out) hk13 hl1k).mono ?_
    rintro e w9 ⟨rfl, hx⟩
    clear hk13 hl1k
    have HX_w9 := Lib.hid hx
    clear hx
    replace HO_x := Lib.hid (OB.keep HO_x.out ((HX_w7.out.trans HX_w8.out).trans HX_w9.out) (fun _ _ _ _ => id))
    replace B_bp := Lib.hid ((((HX_w7.out.trans HX_w8.out).trans HX_w9.out).block bp (row_lt B_bp.out) id).trans B_bp.out)
    replace B_wq := Lib.hid (((HX_w8.out.trans HX_w9.out).block wq (row_lt B_wq.out) id).trans B_wq.out)
    have hne := bs_eqL (etx r k)
    generalize bs (etx r k) = T at hne ⊢
    go_wp2_with fail
    have hw0 : Hid (w9 = w9) := rfl
    go_loopg [11, 12] 0 (fun kx s11 _ wr => s11 = .int .i64 0 ∧ Hid (w9 = wr))
    case atStart => exact ⟨rfl, hw0⟩
    case round =>
      clear hw0
      obtain ⟨rfl, hwr⟩ := hrel
      obtain rfl : w9 = wr := hwr.out
      clear hwr
      go_upto_region 17 with fail
      have cbp0 := row_cell (k := 0) (v := .int .u8 xtos) B_bp.out rfl
      have cbp1 := row_cell (k := 1) (v := .int .u16 xid) B_bp.out rfl
      have cbp2 := row_cell (k := 2) (v := .bool xdf) B_bp.out rfl
      have cbp3 := row_cell (k := 3) (v := .bool xmf) B_bp.out rfl
      have cbp4 := row_cell (k := 4) (v := .int .i64 xoff) B_bp.out rfl
      have cbp5 := row_cell (k := 5) (v := .int .u8 xttl) B_bp.out rfl
      have cbp6 := row_cell (k := 6) (v := .int .u8 xpr) B_bp.out rfl
      have cbp7 := row_cell (k := 7) (v := .int .u32 xsrc) B_bp.out rfl
      have cbp8 := row_cell (k := 8) (v := .int .u32 xdst) B_bp.out rfl
      have cbp9 := row_cell (k := 9) (v := .slice (some xA) xl.length xc) B_bp.out rfl
      have cwq0 := row_cell (k := 0) (v := .int .u32 xtos) B_wq.out rfl
      have cwq1 := row_cell (k := 1) (v := .int .u32 xid) B_wq.out rfl
      have cwq2 := row_cell (k := 2) (v := .bool xdf) B_wq.out rfl
      have cwq3 := row_cell (k := 3) (v := .bool xmf) B_wq.out rfl
      have cwq4 := row_cell (k := 4) (v := .int .i64 xoff) B_wq.out rfl
      have cwq5 := row_cell (k := 5) (v := .int .u32 xttl) B_wq.out rfl
      have cwq6 := row_cell (k := 6) (v := .int .u32 xpr) B_wq.out rfl
      have cwq7 := row_cell (k := 7) (v := .int .u32 xsrc) B_wq.out rfl
      have cwq8 := row_cell (k := 8) (v := .int .u32 xdst) B_wq.out rfl
      have cwq9 := row_cell (k := 9) (v := .string (bs xl)) B_wq.out rfl
      have HRBF := Lib.hid HO_x.out.rb.any
      have hS0 : Ex (fun _ => False) w9 w9.drew := (Ex.refl _ w9).drew
      have z1 : ∀ w, (binOp .eql 31 (rpv (⟨xtos, xid, xdf, xmf, xoff, xttl, xpr, xsrc, xdst, xl⟩ : Pk)) (.agg #[.int .u32 xtos, .int .u32 xid, .bool xdf, .bool xmf, .int .i64 xoff, .int .u32 xttl, .int .u32 xpr, .int .u32 xsrc, .int .u32 xdst, .string (bs xl)])).run Tryd.prog w = .ok (.bool true) w := fun w => by have h := rpv_eq (⟨xtos, xid, xdf, xmf, xoff, xttl, xpr, xsrc, xdst, xl⟩ : Pk) (⟨xtos, xid, xdf, xmf, xoff, xttl, xpr, xsrc, xdst, xl⟩ : Pk) w; rw [Pk.eqB_self] at h; exact h
      have z2 : ∀ w, (eqGuard .eql 31 (.tmp 77) (.tmp 78) (rpv (⟨xtos, xid, xdf, xmf, xoff, xttl, xpr, xsrc, xdst, xl⟩ : Pk)) (.agg #[.int .u32 xtos, .int .u32 xid, .bool xdf, .bool xmf, .int .i64 xoff, .int .u32 xttl, .int .u32 xpr, .int .u32 xsrc, .int .u32 xdst, .string (bs xl)])).run Tryd.prog w = .ok () w := fun w => rpv_guard .eql (.tmp 77) (.tmp 78) (⟨xtos, xid, xdf, xmf, xoff, xttl, xpr, xsrc, xdst, xl⟩ : Pk) (⟨xtos, xid, xdf, xmf, xoff, xttl, xpr, xsrc, xdst, xl⟩ : Pk) w
      have Z1 := Lib.hid z1
      have Z2 := Lib.hid z2
      clear z1 z2
      refine wp_region_held_drew (S := fun W => Ex (fun _ => False) w9 W) (by kernel_rfl) hS0 (fun _ => ?_)
      refine wpAnyH_take (i := 0) (oi := { dst := some 74, op := Go.Op.move (Go.Operand.tmp 5), type := 4, pos := "law.go:70", after := #[], guard := none }) (v := ?v1) rfl (by kernel_rfl) (by kernel_rfl) (by kernel_rfl) (fun _ _ _ h => h) (Or.inl ⟨by rfl, ?hy1⟩) (by assumption) ?rest1
      case hy1 => (intro w hSw; (try dsimp only at hSw); have ecbp0 := hSw.cell cbp0 id; have ecbp1 := hSw.cell cbp1 id; have ecbp2 := hSw.cell cbp2 id; have ecbp3 := hSw.cell cbp3 id; have ecbp4 := hSw.cell cbp4 id; have ecbp5 := hSw.cell cbp5 id; have ecbp6 := hSw.cell cbp6 id; have ecbp7 := hSw.cell cbp7 id; have ecbp8 := hSw.cell cbp8 id; have ecbp9 := hSw.cell cbp9 id; have ecwq0 := hSw.cell cwq0 id; have ecwq1 := hSw.cell cwq1 id; have ecwq2 := hSw.cell cwq2 id; have ecwq3 := hSw.cell cwq3 id; have ecwq4 := hSw.cell cwq4 id; have ecwq5 := hSw.cell cwq5 id; have ecwq6 := hSw.cell cwq6 id; have ecwq7 := hSw.cell cwq7 id; have ecwq8 := hSw.cell cwq8 id; have ecwq9 := hSw.cell cwq9 id; have z1 := Z1.out; have z2 := Z2.out; go_simp <;> with_reducible rfl)
      try simp only [Act.put, List.setIfInBounds_toArray, List.set_cons_zero, List.set_cons_succ]
      refine wpAnyH_take (i := 1) (oi := { dst := some 75, op := Go.Op.move (Go.Operand.tmp 74), type := 4, pos := "law.go:70", after := #[{ on := 0, ground := Go.Ground.data }], guard := none }) (v := ?v2) rfl (by kernel_rfl) (by kernel_rfl) (by kernel_rfl) (fun _ _ _ h => h) (Or.inl ⟨by rfl, ?hy2⟩) (by assumption) ?rest2
      case hy2 => (intro w hSw; (try dsimp only at hSw); have ecbp0 := hSw.cell cbp0 id; have ecbp1 := hSw.cell cbp1 id; have ecbp2 := hSw.cell cbp2 id; have ecbp3 := hSw.cell cbp3 id; have ecbp4 := hSw.cell cbp4 id; have ecbp5 := hSw.cell cbp5 id; have ecbp6 := hSw.cell cbp6 id; have ecbp7 := hSw.cell cbp7 id; have ecbp8 := hSw.cell cbp8 id; have ecbp9 := hSw.cell cbp9 id; have ecwq0 := hSw.cell cwq0 id; have ecwq1 := hSw.cell cwq1 id; have ecwq2 := hSw.cell cwq2 id; have ecwq3 := hSw.cell cwq3 id; have ecwq4 := hSw.cell cwq4 id; have ecwq5 := hSw.cell cwq5 id; have ecwq6 := hSw.cell cwq6 id; have ecwq7 := hSw.cell cwq7 id; have ecwq8 := hSw.cell cwq8 id; have ecwq9 := hSw.cell cwq9 id; have z1 := Z1.out; have z2 := Z2.out; go_simp <;> with_reducible rfl)
      try simp only [Act.put, List.setIfInBounds_toArray, List.set_cons_zero, List.set_cons_succ]
      refine wpAnyH_take (i := 2) (oi := { dst := some 76, op := Go.Op.load 27 (Go.Operand.tmp 2), type := 27, pos := "law.go:70", after := #[{ on := 1, ground := Go.Ground.guard }], guard := some (1, true) }) (v := ?v3) rfl (by kernel_rfl) (by kernel_rfl) (by kernel_rfl) (fun _ _ _ h => h) (Or.inl ⟨by rfl, ?hy3⟩) (by assumption) ?rest3
      case hy3 => (intro w hSw; (try dsimp only at hSw); have ecbp0 := hSw.cell cbp0 id; have ecbp1 := hSw.cell cbp1 id; have ecbp2 := hSw.cell cbp2 id; have ecbp3 := hSw.cell cbp3 id; have ecbp4 := hSw.cell cbp4 id; have ecbp5 := hSw.cell cbp5 id; have ecbp6 := hSw.cell cbp6 id; have ecbp7 := hSw.cell cbp7 id; have ecbp8 := hSw.cell cbp8 id; have ecbp9 := hSw.cell cbp9 id; have ecwq0 := hSw.cell cwq0 id; have ecwq1 := hSw.cell cwq1 id; have ecwq2 := hSw.cell cwq2 id; have ecwq3 := hSw.cell cwq3 id; have ecwq4 := hSw.cell cwq4 id; have ecwq5 := hSw.cell cwq5 id; have ecwq6 := hSw.cell cwq6 id; have ecwq7 := hSw.cell cwq7 id; have ecwq8 := hSw.cell cwq8 id; have ecwq9 := hSw.cell cwq9 id; have z1 := Z1.out; have z2 := Z2.out; go_simp <;> with_reducible rfl)
      try simp only [Act.put, List.setIfInBounds_toArray, List.set_cons_zero, List.set_cons_succ]
      refine wpAnyH_take (i := 4) (oi := { dst := some 78, op := Go.Op.load 31 (Go.Operand.tmp 6), type := 31, pos := "law.go:70", after := #[{ on := 1, ground := Go.Ground.guard }], guard := some (1, true) }) (v := ?v4) rfl (by kernel_rfl) (by kernel_rfl) (by kernel_rfl) (fun _ _ _ h => h) (Or.inl ⟨by rfl, ?hy4⟩) (by assumption) ?rest4
      case hy4 => (intro w hSw; (try dsimp only at hSw); have ecbp0 := hSw.cell cbp0 id; have ecbp1 := hSw.cell cbp1 id; have ecbp2 := hSw.cell cbp2 id; have ecbp3 := hSw.cell cbp3 id; have ecbp4 := hSw.cell cbp4 id; have ecbp5 := hSw.cell cbp5 id; have ecbp6 := hSw.cell cbp6 id; have ecbp7 := hSw.cell cbp7 id; have ecbp8 := hSw.cell cbp8 id; have ecbp9 := hSw.cell cbp9 id; have ecwq0 := hSw.cell cwq0 id; have ecwq1 := hSw.cell cwq1 id; have ecwq2 := hSw.cell cwq2 id; have ecwq3 := hSw.cell cwq3 id; have ecwq4 := hSw.cell cwq4 id; have ecwq5 := hSw.cell cwq5 id; have ecwq6 := hSw.cell cwq6 id; have ecwq7 := hSw.cell cwq7 id; have ecwq8 := hSw.cell cwq8 id; have ecwq9 := hSw.cell cwq9 id; have z1 := Z1.out; have z2 := Z2.out; go_simp <;> with_reducible rfl)
      try simp only [Act.put, List.setIfInBounds_toArray, List.set_cons_zero, List.set_cons_succ]
      refine wpAnyH_ready (rs := [3]) (by kernel_rfl) (by simp) ?_
      refine AllReadyH.cons (o := { dst := some 77, op := Go.Op.call { callee := Go.Callee.value (Go.Operand.func 14), args := #[Go.Operand.tmp 76], argTypes := #[27] }, type := 31, pos := "law.go:70", after := #[{ on := 2, ground := Go.Ground.data }, { on := 1, ground := Go.Ground.chain }, { on := 1, ground := Go.Ground.guard }], guard := some (1, true) }) rfl (fun K hK => ?_) AllReadyH.nil
      go_simp
      refine (of10_any _ (⟨xtos, xid, xdf, xmf, xoff, xttl, xpr, xsrc, xdst, xl⟩ : Pk) (some xA) xc _ OKX.out (HRBF.out.keep (Ex.refl (fun _ => False) w9).drew (fun _ _ _ => id))).mono ?_
      rintro e wx ⟨rfl, hx⟩
      have hS1 := hS0.trans hx
      clear hx
      refine hK.out _ _ hS1 (fun _ => ?_)
      refine wpAnyH_take (i := 5) (oi := { dst := some 79, op := Go.Op.binOp Go.BinOp.eql 31 (Go.Operand.tmp 77) (Go.Operand.tmp 78) 31, type := 4, pos := "law.go:70", after := #[{ on := 3, ground := Go.Ground.data }, { on := 4, ground := Go.Ground.data }, { on := 1, ground := Go.Ground.guard }], guard := some (1, true) }) (v := ?v5) rfl (by kernel_rfl) (by kernel_rfl) (by kernel_rfl) (fun _ _ _ h => h) (Or.inl ⟨by rfl, ?hy5⟩) (by assumption) ?rest5
      case hy5 => (intro w hSw; (try dsimp only at hSw); have ecbp0 := hSw.cell cbp0 id; have ecbp1 := hSw.cell cbp1 id; have ecbp2 := hSw.cell cbp2 id; have ecbp3 := hSw.cell cbp3 id; have ecbp4 := hSw.cell cbp4 id; have ecbp5 := hSw.cell cbp5 id; have ecbp6 := hSw.cell cbp6 id; have ecbp7 := hSw.cell cbp7 id; have ecbp8 := hSw.cell cbp8 id; have ecbp9 := hSw.cell cbp9 id; have ecwq0 := hSw.cell cwq0 id; have ecwq1 := hSw.cell cwq1 id; have ecwq2 := hSw.cell cwq2 id; have ecwq3 := hSw.cell cwq3 id; have ecwq4 := hSw.cell cwq4 id; have ecwq5 := hSw.cell cwq5 id; have ecwq6 := hSw.cell cwq6 id; have ecwq7 := hSw.cell cwq7 id; have ecwq8 := hSw.cell cwq8 id; have ecwq9 := hSw.cell cwq9 id; have z1 := Z1.out; have z2 := Z2.out; go_simp <;> with_reducible rfl)
      try simp only [Act.put, List.setIfInBounds_toArray, List.set_cons_zero, List.set_cons_succ]
      refine wpAnyH_take (i := 6) (oi := { dst := some 80, op := Go.Op.pick (Go.Operand.tmp 75) (Go.Operand.tmp 79) (Go.Operand.const (Go.Value.bool false)), type := 4, pos := "law.go:70", after := #[{ on := 1, ground := Go.Ground.data }, { on := 5, ground := Go.Ground.data }], guard := none }) (v := ?v6) rfl (by kernel_rfl) (by kernel_rfl) (by kernel_rfl) (fun _ _ _ h => h) (Or.inl ⟨by rfl, ?hy6⟩) (by assumption) ?rest6
      case hy6 => (intro w hSw; (try dsimp only at hSw); have ecbp0 := hSw.cell cbp0 id; have ecbp1 := hSw.cell cbp1 id; have ecbp2 := hSw.cell cbp2 id; have ecbp3 := hSw.cell cbp3 id; have ecbp4 := hSw.cell cbp4 id; have ecbp5 := hSw.cell cbp5 id; have ecbp6 := hSw.cell cbp6 id; have ecbp7 := hSw.cell cbp7 id; have ecbp8 := hSw.cell cbp8 id; have ecbp9 := hSw.cell cbp9 id; have ecwq0 := hSw.cell cwq0 id; have ecwq1 := hSw.cell cwq1 id; have ecwq2 := hSw.cell cwq2 id; have ecwq3 := hSw.cell cwq3 id; have ecwq4 := hSw.cell cwq4 id; have ecwq5 := hSw.cell cwq5 id; have ecwq6 := hSw.cell cwq6 id; have ecwq7 := hSw.cell cwq7 id; have ecwq8 := hSw.cell cwq8 id; have ecwq9 := hSw.cell cwq9 id; have z1 := Z1.out; have z2 := Z2.out; go_simp <;> with_reducible rfl)
      try simp only [Act.put, List.setIfInBounds_toArray, List.set_cons_zero, List.set_cons_succ]
      refine wpAnyH_take (i := 7) (oi := { dst := some 4, op := Go.Op.assign (Go.Operand.tmp 80), type := 4, pos := "law.go:70", after := #[{ on := 6, ground := Go.Ground.data }, { on := 3, ground := Go.Ground.chain }, { on := 0, ground := Go.Ground.phase }, { on := 1, ground := Go.Ground.phase }, { on := 2, ground := Go.Ground.phase }, { on := 3, ground := Go.Ground.phase }, { on := 4, ground := Go.Ground.phase }, { on := 5, ground := Go.Ground.phase }, { on := 6, ground := Go.Ground.phase }], guard := none }) (v := ?v7) rfl (by kernel_rfl) (by kernel_rfl) (by kernel_rfl) (fun _ _ _ h => h) (Or.inl ⟨by rfl, ?hy7⟩) (by assumption) ?rest7
      case hy7 => (intro w hSw; (try dsimp only at hSw); have ecbp0 := hSw.cell cbp0 id; have ecbp1 := hSw.cell cbp1 id; have ecbp2 := hSw.cell cbp2 id; have ecbp3 := hSw.cell cbp3 id; have ecbp4 := hSw.cell cbp4 id; have ecbp5 := hSw.cell cbp5 id; have ecbp6 := hSw.cell cbp6 id; have ecbp7 := hSw.cell cbp7 id; have ecbp8 := hSw.cell cbp8 id; have ecbp9 := hSw.cell cbp9 id; have ecwq0 := hSw.cell cwq0 id; have ecwq1 := hSw.cell cwq1 id; have ecwq2 := hSw.cell cwq2 id; have ecwq3 := hSw.cell cwq3 id; have ecwq4 := hSw.cell cwq4 id; have ecwq5 := hSw.cell cwq5 id; have ecwq6 := hSw.cell cwq6 id; have ecwq7 := hSw.cell cwq7 id; have ecwq8 := hSw.cell cwq8 id; have ecwq9 := hSw.cell cwq9 id; have z1 := Z1.out; have z2 := Z2.out; go_simp <;> with_reducible rfl)
      try simp only [Act.put, List.setIfInBounds_toArray, List.set_cons_zero, List.set_cons_succ]
      refine wpAnyH_done (by kernel_rfl) ?_ _
      have HXF := Lib.hid hS1
      clear hS0 hS1 cbp0 cbp1 cbp2 cbp3 cbp4 cbp5 cbp6 cbp7 cbp8 cbp9 cwq0 cwq1 cwq2 cwq3 cwq4 cwq5 cwq6 cwq7 cwq8 cwq9
      go_wp2_with fail
      go_ret
      exact ⟨rfl, ((((((((HX_w1.out.trans HX_w2.out).trans HX_w3.out).andThen HX_w4.out (fun i hi e => by have := hb_bp; omega)).trans HX_w5.out).trans HX_w6.out).trans HX_w7.out).trans HX_w8.out).trans HX_w9.out).trans HXF.out⟩
  | none =>
    have HS := Lib.hid hS.symm
    obtain ⟨z, n, hpd⟩ := parts_pd hS.symm (Nat.le_trans HXN.out (by decide))
    have HPD := Lib.hid hpd
    have hn90 : n ≤ 42 := by rw [← hpd.len]; exact parts_len hS.symm HXN.out
    have HN := Lib.hid (And.intro hpd.pos hn90)
    have HRR := Lib.hid (spe_none hS.symm).2.1
    clear hS hpd hn90
    go_wp2_with fail
    refine (split_yes _ (⟨xtos, xid, xdf, xmf, xoff, xttl, xpr, xsrc, xdst, xl⟩ : Pk) (some xA) xc m w6 HO_x.out.rb (fun h => by cases h) (Nat.le_trans HXN.out (by decide)) HS.out).mono ?_
    rintro e w7 ⟨A5, c5, os, rfl, hos, hop, hobs, hx⟩
    have hon : os.length = n := by rw [← HPD.out.len, ← hos, List.length_map]
    rw [hon] at hop ⊢
    obtain ⟨g, c5', hv, hgc⟩ := hop.get 0 (by rw [hon]; exact HN.out.1)
    clear hgc
    rw [hon] at hv
    injection hv with hv _ hv2
    subst hv hv2
    have HOS := Lib.hid hos
    have HON := Lib.hid hon
    have HOP := Lib.hid hop
    have HOBS := Lib.hid hobs
    obtain ⟨Bp, hBp⟩ : ∃ Bp, Bp = w6.heap.size := ⟨_, rfl⟩
    rw [← hBp] at HOP HOBS
    have HBP := Lib.hid hBp
    clear hos hon hop hobs hBp cbp0 cbp1 cbp2 cbp3 cbp4 cbp5 cbp6 cbp7 cbp8 cbp9
    have HX_w7 := Lib.hid hx
    clear hx
    replace B_wq := Lib.hid ((HX_w7.out.block wq (row_lt B_wq.out) id).trans B_wq.out)
    have cwq0 := row_cell (k := 0) (v := .int .u32 xtos) B_wq.out rfl
    have cwq1 := row_cell (k := 1) (v := .int .u32 xid) B_wq.out rfl
    have cwq2 := row_cell (k := 2) (v := .bool xdf) B_wq.out rfl
    have cwq3 := row_cell (k := 3) (v := .bool xmf) B_wq.out rfl
    have cwq4 := row_cell (k := 4) (v := .int .i64 xoff) B_wq.out rfl
    have cwq5 := row_cell (k := 5) (v := .int .u32 xttl) B_wq.out rfl
    have cwq6 := row_cell (k := 6) (v := .int .u32 xpr) B_wq.out rfl
    have cwq7 := row_cell (k := 7) (v := .int .u32 xsrc) B_wq.out rfl
    have cwq8 := row_cell (k := 8) (v := .int .u32 xdst) B_wq.out rfl
    have cwq9 := row_cell (k := 9) (v := .string (bs xl)) B_wq.out rfl
    go_wp2_with fail
    have hcall := rsplit_yes (⟨xtos, xid, xdf, xmf, xoff, xttl, xpr, xsrc, xdst, xl⟩ : Pk) m w7 HXN.out HS.out
    rw [HPD.out.len] at hcall
    refine hcall.mono ?_
    rintro e w8 ⟨g2, c2, rfl, hor, hx⟩
    have HOR := Lib.hid hor
    clear hcall hor cwq0 cwq1 cwq2 cwq3 cwq4 cwq5 cwq6 cwq7 cwq8 cwq9
    have HX_w8 := Lib.hid hx
    clear hx
    go_wp2_with fail
    refine (told10_nil w8).mono ?_
    rintro e w9 ⟨rfl, hw⟩
    obtain rfl : w8 = w9 := hw
    have HOBS8 := Lib.hid (HOBS.out.keep HX_w8.out (fun _ _ _ _ _ _ => id))
    have hsp : Hid (SpS w8 w8 Bp g c5 n 0 os) := SpS.start (HOP.out.keep HX_w8.out (fun _ _ _ _ => id)) HOBS8.out
    replace HO_x := Lib.hid (OB.keep HO_x.out (HX_w7.out.trans HX_w8.out) (fun _ _ _ _ => id))
    replace B_bp := Lib.hid (((HX_w7.out.trans HX_w8.out).block bp (row_lt B_bp.out) id).trans B_bp.out)
    replace B_wq := Lib.hid ((HX_w8.out.block wq (row_lt B_wq.out) id).trans B_wq.out)
    go_wp2_with fail
    go_loopg [11, 12] n (fun kx s11 _ wr => ∃ (i : Nat), s11 = .int .i64 i ∧ i ≤ n ∧ n - i ≤ kx ∧ Hid (SpS w8 wr Bp g c5 n i os))
    case atStart => exact ⟨0, rfl, Nat.zero_le _, Nat.le_refl _, hsp⟩
    case round =>
      clear hsp
      obtain ⟨i, rfl, hin, hkx, HSP⟩ := hrel
      by_cases hlt : (i : Int) < (n : Int)
      · have hin2 := i_ltp hlt
        have hio : i < os.length := by rw [HON.out]; exact hin2
        obtain ⟨o, ho⟩ : ∃ o, o = os[i] := ⟨_, rfl⟩
        have hpi : (parts (⟨xtos, xid, xdf, xmf, xoff, xttl, xpr, xsrc, xdst, xl⟩ : Pk) m)[i]? = some o.1 := by rw [← HOS.out, List.getElem?_map, List.getElem?_eq_getElem hio, ho]; rfl
        have hpt : o.1 = pti (⟨xtos, xid, xdf, xmf, xoff, xttl, xpr, xsrc, xdst, xl⟩ : Pk) z n i := by
          have h1 := HPD.out.one i hin2
          rw [hpi] at h1
          exact Option.some.inj h1
        have hok : o.1.ok := by rw [hpt]; exact HPD.out.ok OKX.out HRR.out hin2
        have hbl : o.1.b.length ≤ 65535 := by
          rw [hpt, (HPD.out.place hin2).2.2]
          have h1 := HXN.out
          show min z (xl.length - i * z) ≤ 65535
          omega
        have hor : OB wr Bp (ov o) o.1.b := by rw [ho]; exact HSP.out.obs i hio (Nat.le_refl _)
        have hrw : ∀ k u, (ocl o)[k]? = some u → wr.cell? ⟨g, i * 10 + k, none⟩ = some u := by
          have h9 : OP wr Bp (.slice (some ⟨g, 0, none⟩) os.length c5) os := by rw [HON.out]; exact HSP.out.op
          rw [ho]
          exact h9.prow i hio
        have hrr : ∀ k u, (rcl o.1)[k]? = some u → wr.cell? ⟨g2, i * 10 + k, none⟩ = some u := by
          have h8 : OR wr w7.heap.size (.slice (some ⟨g2, 0, none⟩) n c2) (parts (⟨xtos, xid, xdf, xmf, xoff, xttl, xpr, xsrc, xdst, xl⟩ : Pk) m) := HOR.out.keep HSP.out.ex (fun k hk _ _ => by
            obtain ⟨cur, hc⟩ := ownsRow_isCells HOR.out hk
            exact BB.no HOBS8.out hc (by decide))
          obtain ⟨g9, c9, e9, _, h9⟩ := h8.get (by rw [HPD.out.len]; exact HN.out.1)
          injection e9 with e9 _ _
          injection e9 with e9
          injection e9 with e9
          subst e9
          have hil : i < (parts (⟨xtos, xid, xdf, xmf, xoff, xttl, xpr, xsrc, xdst, xl⟩ : Pk) m).length := by rw [HPD.out.len]; exact hin2
          rw [List.getElem?_eq_getElem hil] at hpi
          have h7 := h9 i hil
          rw [Option.some.inj hpi] at h7
          exact h7
        obtain ⟨⟨otos, oid, odf, omf, ooff, ottl, opr, osrc, odst, ob⟩, oA, oc⟩ := o
        have HOR2 : Hid (OB wr Bp (.slice oA ob.length oc) ob) := hor
        have HIN := Lib.hid hin2
        have HIO := Lib.hid hio
        have HOV : Hid (ov (os[i]'(HIO.out)) = .slice oA ob.length oc) := congrArg ov ho.symm
        have HOE : Hid (((⟨otos, oid, odf, omf, ooff, ottl, opr, osrc, odst, ob⟩ : Pk), oA, oc) = os[i]'(HIO.out)) := ho
        have HOK : Hid ((⟨otos, oid, odf, omf, ooff, ottl, opr, osrc, odst, ob⟩ : Pk).ok) := hok
        have HBL : Hid (ob.length ≤ 65535) := hbl
        have lc0 : wr.cell? ⟨g, i * 10, none⟩ = some (.int .u8 otos) := hrw 0 _ rfl
        have rc0 : wr.cell? ⟨g2, i * 10, none⟩ = some (.int .u32 otos) := hrr 0 _ rfl
        have lc1 : wr.cell? ⟨g, i * 10 + 1, none⟩ = some (.int .u16 oid) := hrw 1 _ rfl
        have rc1 : wr.cell? ⟨g2, i * 10 + 1, none⟩ = some (.int .u32 oid) := hrr 1 _ rfl
        have lc2 : wr.cell? ⟨g, i * 10 + 2, none⟩ = some (.bool odf) := hrw 2 _ rfl
        have rc2 : wr.cell? ⟨g2, i * 10 + 2, none⟩ = some (.bool odf) := hrr 2 _ rfl
        have lc3 : wr.cell? ⟨g, i * 10 + 3, none⟩ = some (.bool omf) := hrw 3 _ rfl
        have rc3 : wr.cell? ⟨g2, i * 10 + 3, none⟩ = some (.bool omf) := hrr 3 _ rfl
        have lc4 : wr.cell? ⟨g, i * 10 + 4, none⟩ = some (.int .i64 ooff) := hrw 4 _ rfl
        have rc4 : wr.cell? ⟨g2, i * 10 + 4, none⟩ = some (.int .i64 ooff) := hrr 4 _ rfl
        have lc5 : wr.cell? ⟨g, i * 10 + 5, none⟩ = some (.int .u8 ottl) := hrw 5 _ rfl
        have rc5 : wr.cell? ⟨g2, i * 10 + 5, none⟩ = some (.int .u32 ottl) := hrr 5 _ rfl
        have lc6 : wr.cell? ⟨g, i * 10 + 6, none⟩ = some (.int .u8 opr) := hrw 6 _ rfl
        have rc6 : wr.cell? ⟨g2, i * 10 + 6, none⟩ = some (.int .u32 opr) := hrr 6 _ rfl
        have lc7 : wr.cell? ⟨g, i * 10 + 7, none⟩ = some (.int .u32 osrc) := hrw 7 _ rfl
        have rc7 : wr.cell? ⟨g2, i * 10 + 7, none⟩ = some (.int .u32 osrc) := hrr 7 _ rfl
        have lc8 : wr.cell? ⟨g, i * 10 + 8, none⟩ = some (.int .u32 odst) := hrw 8 _ rfl
        have rc8 : wr.cell? ⟨g2, i * 10 + 8, none⟩ = some (.int .u32 odst) := hrr 8 _ rfl
        have lc9 : wr.cell? ⟨g, i * 10 + 9, none⟩ = some (.slice oA ob.length oc) := hrw 9 _ rfl
        have rc9 : wr.cell? ⟨g2, i * 10 + 9, none⟩ = some (.string (bs ob)) := hrr 9 _ rfl
        clear hrw hrr hor hpi hpt hok hbl ho hio hin
        go_upto_region 11 with fail
        have hS0 : Ex (fun _ => False) wr wr.drew := (Ex.refl _ wr).drew
        have z1 : ∀ w, (binOp .neq 31 (rpv (⟨otos, oid, odf, omf, ooff, ottl, opr, osrc, odst, ob⟩ : Pk)) (.agg #[.int .u32 otos, .int .u32 oid, .bool odf, .bool omf, .int .i64 ooff, .int .u32 ottl, .int .u32 opr, .int .u32 osrc, .int .u32 odst, .string (bs ob)])).run Tryd.prog w = .ok (.bool false) w := fun w => by have h := rpv_neq (⟨otos, oid, odf, omf, ooff, ottl, opr, osrc, odst, ob⟩ : Pk) (⟨otos, oid, odf, omf, ooff, ottl, opr, osrc, odst, ob⟩ : Pk) w; rw [Pk.eqB_self] at h; exact h
        have z2 : ∀ w, (eqGuard .neq 31 (.tmp 51) (.tmp 55) (rpv (⟨otos, oid, odf, omf, ooff, ottl, opr, osrc, odst, ob⟩ : Pk)) (.agg #[.int .u32 otos, .int .u32 oid, .bool odf, .bool omf, .int .i64 ooff, .int .u32 ottl, .int .u32 opr, .int .u32 osrc, .int .u32 odst, .string (bs ob)])).run Tryd.prog w = .ok () w := fun w => rpv_guard .neq (.tmp 51) (.tmp 55) (⟨otos, oid, odf, omf, ooff, ottl, opr, osrc, odst, ob⟩ : Pk) (⟨otos, oid, odf, omf, ooff, ottl, opr, osrc, odst, ob⟩ : Pk) w
        have Z1 := Lib.hid z1
        have Z2 := Lib.hid z2
        clear z1 z2
        refine wp_region_held_drew (S := fun W => Ex (fun _ => False) wr W) (by kernel_rfl) hS0 (fun _ => ?_)
        refine wpAnyH_take (i := 0) (oi := { dst := some 47, op := Go.Op.move (Go.Operand.tmp 7), type := 33, pos := "law.go:63", after := #[], guard := none }) (v := ?v8) rfl (by kernel_rfl) (by kernel_rfl) (by kernel_rfl) (fun _ _ _ h => h) (Or.inl ⟨by rfl, ?hy8⟩) (by assumption) ?rest8
        case hy8 => (intro w hSw; (try dsimp only at hSw); have elc0 := hSw.cell lc0 id; have elc1 := hSw.cell lc1 id; have elc2 := hSw.cell lc2 id; have elc3 := hSw.cell lc3 id; have elc4 := hSw.cell lc4 id; have elc5 := hSw.cell lc5 id; have elc6 := hSw.cell lc6 id; have elc7 := hSw.cell lc7 id; have elc8 := hSw.cell lc8 id; have elc9 := hSw.cell lc9 id; have erc0 := hSw.cell rc0 id; have erc1 := hSw.cell rc1 id; have erc2 := hSw.cell rc2 id; have erc3 := hSw.cell rc3 id; have erc4 := hSw.cell rc4 id; have erc5 := hSw.cell rc5 id; have erc6 := hSw.cell rc6 id; have erc7 := hSw.cell rc7 id; have erc8 := hSw.cell rc8 id; have erc9 := hSw.cell rc9 id; have z1 := Z1.out; have z2 := Z2.out; go_simp <;> with_reducible rfl)
        try simp only [Act.put, List.setIfInBounds_toArray, List.set_cons_zero, List.set_cons_succ]
        refine wpAnyH_take (i := 1) (oi := { dst := some 48, op := Go.Op.move (Go.Operand.tmp 11), type := 3, pos := "law.go:63", after := #[], guard := none }) (v := ?v9) rfl (by kernel_rfl) (by kernel_rfl) (by kernel_rfl) (fun _ _ _ h => h) (Or.inl ⟨by rfl, ?hy9⟩) (by assumption) ?rest9
        case hy9 => (intro w hSw; (try dsimp only at hSw); have elc0 := hSw.cell lc0 id; have elc1 := hSw.cell lc1 id; have elc2 := hSw.cell lc2 id; have elc3 := hSw.cell lc3 id; have elc4 := hSw.cell lc4 id; have elc5 := hSw.cell lc5 id; have elc6 := hSw.cell lc6 id; have elc7 := hSw.cell lc7 id; have elc8 := hSw.cell lc8 id; have elc9 := hSw.cell lc9 id; have erc0 := hSw.cell rc0 id; have erc1 := hSw.cell rc1 id; have erc2 := hSw.cell rc2 id; have erc3 := hSw.cell rc3 id; have erc4 := hSw.cell rc4 id; have erc5 := hSw.cell rc5 id; have erc6 := hSw.cell rc6 id; have erc7 := hSw.cell rc7 id; have erc8 := hSw.cell rc8 id; have erc9 := hSw.cell rc9 id; have z1 := Z1.out; have z2 := Z2.out; go_simp <;> with_reducible rfl)
        try simp only [Act.put, List.setIfInBounds_toArray, List.set_cons_zero, List.set_cons_succ]
        refine wpAnyH_take (i := 2) (oi := { dst := some 49, op := Go.Op.indexAddr 33 (Go.Operand.tmp 47) (Go.Operand.tmp 48), type := 0, pos := "law.go:63", after := #[{ on := 0, ground := Go.Ground.data }, { on := 1, ground := Go.Ground.data }], guard := none }) (v := ?v10) rfl (by kernel_rfl) (by kernel_rfl) (by kernel_rfl) (fun _ _ _ h => h) (Or.inl ⟨by rfl, ?hy10⟩) (by assumption) ?rest10
        case hy10 => (intro w hSw; (try dsimp only at hSw); have elc0 := hSw.cell lc0 id; have elc1 := hSw.cell lc1 id; have elc2 := hSw.cell lc2 id; have elc3 := hSw.cell lc3 id; have elc4 := hSw.cell lc4 id; have elc5 := hSw.cell lc5 id; have elc6 := hSw.cell lc6 id; have elc7 := hSw.cell lc7 id; have elc8 := hSw.cell lc8 id; have elc9 := hSw.cell lc9 id; have erc0 := hSw.cell rc0 id; have erc1 := hSw.cell rc1 id; have erc2 := hSw.cell rc2 id; have erc3 := hSw.cell rc3 id; have erc4 := hSw.cell rc4 id; have erc5 := hSw.cell rc5 id; have erc6 := hSw.cell rc6 id; have erc7 := hSw.cell rc7 id; have erc8 := hSw.cell rc8 id; have erc9 := hSw.cell rc9 id; have z1 := Z1.out; have z2 := Z2.out; go_simp <;> with_reducible rfl)
        try simp only [Act.put, List.setIfInBounds_toArray, List.set_cons_zero, List.set_cons_succ]
        refine wpAnyH_take (i := 3) (oi := { dst := some 50, op := Go.Op.load 27 (Go.Operand.tmp 49), type := 27, pos := "law.go:63", after := #[{ on := 2, ground := Go.Ground.data }], guard := none }) (v := ?v11) rfl (by kernel_rfl) (by kernel_rfl) (by kernel_rfl) (fun _ _ _ h => h) (Or.inl ⟨by rfl, ?hy11⟩) (by assumption) ?rest11
        case hy11 => (intro w hSw; (try dsimp only at hSw); have elc0 := hSw.cell lc0 id; have elc1 := hSw.cell lc1 id; have elc2 := hSw.cell lc2 id; have elc3 := hSw.cell lc3 id; have elc4 := hSw.cell lc4 id; have elc5 := hSw.cell lc5 id; have elc6 := hSw.cell lc6 id; have elc7 := hSw.cell lc7 id; have elc8 := hSw.cell lc8 id; have elc9 := hSw.cell lc9 id; have erc0 := hSw.cell rc0 id; have erc1 := hSw.cell rc1 id; have erc2 := hSw.cell rc2 id; have erc3 := hSw.cell rc3 id; have erc4 := hSw.cell rc4 id; have erc5 := hSw.cell rc5 id; have erc6 := hSw.cell rc6 id; have erc7 := hSw.cell rc7 id; have erc8 := hSw.cell rc8 id; have erc9 := hSw.cell rc9 id; have z1 := Z1.out; have z2 := Z2.out; go_simp <;> with_reducible rfl)
        try simp only [Act.put, List.setIfInBounds_toArray, List.set_cons_zero, List.set_cons_succ]
        refine wpAnyH_take (i := 5) (oi := { dst := some 52, op := Go.Op.move (Go.Operand.tmp 9), type := 38, pos := "law.go:63", after := #[], guard := none }) (v := ?v12) rfl (by kernel_rfl) (by kernel_rfl) (by kernel_rfl) (fun _ _ _ h => h) (Or.inl ⟨by rfl, ?hy12⟩) (by assumption) ?rest12
        case hy12 => (intro w hSw; (try dsimp only at hSw); have elc0 := hSw.cell lc0 id; have elc1 := hSw.cell lc1 id; have elc2 := hSw.cell lc2 id; have elc3 := hSw.cell lc3 id; have elc4 := hSw.cell lc4 id; have elc5 := hSw.cell lc5 id; have elc6 := hSw.cell lc6 id; have elc7 := hSw.cell lc7 id; have elc8 := hSw.cell lc8 id; have elc9 := hSw.cell lc9 id; have erc0 := hSw.cell rc0 id; have erc1 := hSw.cell rc1 id; have erc2 := hSw.cell rc2 id; have erc3 := hSw.cell rc3 id; have erc4 := hSw.cell rc4 id; have erc5 := hSw.cell rc5 id; have erc6 := hSw.cell rc6 id; have erc7 := hSw.cell rc7 id; have erc8 := hSw.cell rc8 id; have erc9 := hSw.cell rc9 id; have z1 := Z1.out; have z2 := Z2.out; go_simp <;> with_reducible rfl)
        try simp only [Act.put, List.setIfInBounds_toArray, List.set_cons_zero, List.set_cons_succ]
        refine wpAnyH_take (i := 6) (oi := { dst := some 53, op := Go.Op.move (Go.Operand.tmp 11), type := 3, pos := "law.go:63", after := #[], guard := none }) (v := ?v13) rfl (by kernel_rfl) (by kernel_rfl) (by kernel_rfl) (fun _ _ _ h => h) (Or.inl ⟨by rfl, ?hy13⟩) (by assumption) ?rest13
        case hy13 => (intro w hSw; (try dsimp only at hSw); have elc0 := hSw.cell lc0 id; have elc1 := hSw.cell lc1 id; have elc2 := hSw.cell lc2 id; have elc3 := hSw.cell lc3 id; have elc4 := hSw.cell lc4 id; have elc5 := hSw.cell lc5 id; have elc6 := hSw.cell lc6 id; have elc7 := hSw.cell lc7 id; have elc8 := hSw.cell lc8 id; have elc9 := hSw.cell lc9 id; have erc0 := hSw.cell rc0 id; have erc1 := hSw.cell rc1 id; have erc2 := hSw.cell rc2 id; have erc3 := hSw.cell rc3 id; have erc4 := hSw.cell rc4 id; have erc5 := hSw.cell rc5 id; have erc6 := hSw.cell rc6 id; have erc7 := hSw.cell rc7 id; have erc8 := hSw.cell rc8 id; have erc9 := hSw.cell rc9 id; have z1 := Z1.out; have z2 := Z2.out; go_simp <;> with_reducible rfl)
        try simp only [Act.put, List.setIfInBounds_toArray, List.set_cons_zero, List.set_cons_succ]
        refine wpAnyH_take (i := 7) (oi := { dst := some 54, op := Go.Op.indexAddr 38 (Go.Operand.tmp 52) (Go.Operand.tmp 53), type := 0, pos := "law.go:63", after := #[{ on := 5, ground := Go.Ground.data }, { on := 6, ground := Go.Ground.data }], guard := none }) (v := ?v14) rfl (by kernel_rfl) (by kernel_rfl) (by kernel_rfl) (fun _ _ _ h => h) (Or.inl ⟨by rfl, ?hy14⟩) (by assumption) ?rest14
        case hy14 => (intro w hSw; (try dsimp only at hSw); have elc0 := hSw.cell lc0 id; have elc1 := hSw.cell lc1 id; have elc2 := hSw.cell lc2 id; have elc3 := hSw.cell lc3 id; have elc4 := hSw.cell lc4 id; have elc5 := hSw.cell lc5 id; have elc6 := hSw.cell lc6 id; have elc7 := hSw.cell lc7 id; have elc8 := hSw.cell lc8 id; have elc9 := hSw.cell lc9 id; have erc0 := hSw.cell rc0 id; have erc1 := hSw.cell rc1 id; have erc2 := hSw.cell rc2 id; have erc3 := hSw.cell rc3 id; have erc4 := hSw.cell rc4 id; have erc5 := hSw.cell rc5 id; have erc6 := hSw.cell rc6 id; have erc7 := hSw.cell rc7 id; have erc8 := hSw.cell rc8 id; have erc9 := hSw.cell rc9 id; have z1 := Z1.out; have z2 := Z2.out; go_simp <;> with_reducible rfl)
        try simp only [Act.put, List.setIfInBounds_toArray, List.set_cons_zero, List.set_cons_succ]
        refine wpAnyH_take (i := 8) (oi := { dst := some 55, op := Go.Op.load 31 (Go.Operand.tmp 54), type := 31, pos := "law.go:63", after := #[{ on := 7, ground := Go.Ground.data }], guard := none }) (v := ?v15) rfl (by kernel_rfl) (by kernel_rfl) (by kernel_rfl) (fun _ _ _ h => h) (Or.inl ⟨by rfl, ?hy15⟩) (by assumption) ?rest15
        case hy15 => (intro w hSw; (try dsimp only at hSw); have elc0 := hSw.cell lc0 id; have elc1 := hSw.cell lc1 id; have elc2 := hSw.cell lc2 id; have elc3 := hSw.cell lc3 id; have elc4 := hSw.cell lc4 id; have elc5 := hSw.cell lc5 id; have elc6 := hSw.cell lc6 id; have elc7 := hSw.cell lc7 id; have elc8 := hSw.cell lc8 id; have elc9 := hSw.cell lc9 id; have erc0 := hSw.cell rc0 id; have erc1 := hSw.cell rc1 id; have erc2 := hSw.cell rc2 id; have erc3 := hSw.cell rc3 id; have erc4 := hSw.cell rc4 id; have erc5 := hSw.cell rc5 id; have erc6 := hSw.cell rc6 id; have erc7 := hSw.cell rc7 id; have erc8 := hSw.cell rc8 id; have erc9 := hSw.cell rc9 id; have z1 := Z1.out; have z2 := Z2.out; go_simp <;> with_reducible rfl)
        try simp only [Act.put, List.setIfInBounds_toArray, List.set_cons_zero, List.set_cons_succ]
        refine wpAnyH_ready (rs := [4]) (by kernel_rfl) (by simp) ?_
        refine AllReadyH.cons (o := { dst := some 51, op := Go.Op.call { callee := Go.Callee.value (Go.Operand.func 14), args := #[Go.Operand.tmp 50], argTypes := #[27] }, type := 31, pos := "law.go:63", after := #[{ on := 3, ground := Go.Ground.data }], guard := none }) rfl (fun K hK => ?_) AllReadyH.nil
        go_simp
        refine (of10_any _ (⟨otos, oid, odf, omf, ooff, ottl, opr, osrc, odst, ob⟩ : Pk) oA oc _ HOK.out (HOR2.out.keep (Ex.refl (fun _ => False) wr).drew (fun _ _ _ _ => id)).rb).mono ?_
        rintro e wy ⟨rfl, hx⟩
        have hS1 := hS0.trans hx
        clear hx
        refine hK.out _ _ hS1 (fun _ => ?_)
        refine wpAnyH_take (i := 9) (oi := { dst := some 56, op := Go.Op.binOp Go.BinOp.neq 31 (Go.Operand.tmp 51) (Go.Operand.tmp 55) 31, type := 4, pos := "law.go:63", after := #[{ on := 4, ground := Go.Ground.data }, { on := 8, ground := Go.Ground.data }], guard := none }) (v := ?v16) rfl (by kernel_rfl) (by kernel_rfl) (by kernel_rfl) (fun _ _ _ h => h) (Or.inl ⟨by rfl, ?hy16⟩) (by assumption) ?rest16
        case hy16 => (intro w hSw; (try dsimp only at hSw); have elc0 := hSw.cell lc0 id; have elc1 := hSw.cell lc1 id; have elc2 := hSw.cell lc2 id; have elc3 := hSw.cell lc3 id; have elc4 := hSw.cell lc4 id; have elc5 := hSw.cell lc5 id; have elc6 := hSw.cell lc6 id; have elc7 := hSw.cell lc7 id; have elc8 := hSw.cell lc8 id; have elc9 := hSw.cell lc9 id; have erc0 := hSw.cell rc0 id; have erc1 := hSw.cell rc1 id; have erc2 := hSw.cell rc2 id; have erc3 := hSw.cell rc3 id; have erc4 := hSw.cell rc4 id; have erc5 := hSw.cell rc5 id; have erc6 := hSw.cell rc6 id; have erc7 := hSw.cell rc7 id; have erc8 := hSw.cell rc8 id; have erc9 := hSw.cell rc9 id; have z1 := Z1.out; have z2 := Z2.out; go_simp <;> with_reducible rfl)
        try simp only [Act.put, List.setIfInBounds_toArray, List.set_cons_zero, List.set_cons_succ]
        refine wpAnyH_done (by kernel_rfl) ?_ _
        have HXY : Hid (Ex (fun _ => False) wr wy) := hS1
        have HSY := Lib.hid (HSP.out.keep HXY.out)
        have hoy : Hid (OB wy Bp (.slice oA ob.length oc) ob) := HOR2.out.keep HXY.out (fun _ _ _ _ => id)
        have hx0 := Lib.hid (Ex.refl (fun k => (Value.slice oA ob.length oc).ownBlock = some k) wy)
        clear hS0 hS1 Z1 Z2 lc0 lc1 lc2 lc3 lc4 lc5 lc6 lc7 lc8 lc9 rc0 rc1 rc2 rc3 rc4 rc5 rc6 rc7 rc8 rc9
        go_wp2_with fail
        go_loopg [12] ob.length (fun ky s12 wi => ∃ (k : Nat) (l' : List UInt8), s12 = .int .i64 k ∧ k ≤ ob.length ∧ ob.length - k ≤ ky ∧ Hid (l'.length = ob.length ∧ OB wi Bp (.slice oA ob.length oc) l') ∧ Hid (Ex (fun k => (Value.slice oA ob.length oc).ownBlock = some k) wy wi))
        case atStart => exact ⟨0, ob, rfl, Nat.zero_le _, Nat.le_refl _, Lib.hid ⟨rfl, hoy.out⟩, hx0⟩
        case round =>
          clear hoy hx0
          obtain ⟨k, l', rfl, hkl, hky, HLI, HXI⟩ := hrel
          have hxo : Ex (fun k => (ov (os[i]'(HIO.out))).ownBlock = some k) wy wr := by rw [HOV.out]; exact HXI.out
          have HXO := Lib.hid hxo
          have ld9 : wr.cell? ⟨g, i * 10 + 9, none⟩ = some (.slice oA ob.length oc) := by
            have h9 : OP wr Bp (.slice (some ⟨g, 0, none⟩) os.length c5) os := by rw [HON.out]; exact HSY.out.row HIO.out HXO.out
            refine h9.prow i HIO.out 9 _ ?_
            rw [← HOE.out]
            rfl
          clear hxo
          by_cases hlk : (k : Int) < (ob.length : Int)
          · have hlk2 := i_ltp hlk
            have HLK := Lib.hid hlk2
            obtain ⟨gb, cb, e, _, _⟩ := HLI.out.2.form (by rw [HLI.out.1]; exact Nat.lt_of_le_of_lt (Nat.zero_le _) hlk2)
            injection e with e _ _
            subst e
            have hki : k < l'.length := by rw [HLI.out.1]; exact hlk2
            have cj := HLI.out.2.cell k hki
            obtain ⟨Q, hQ⟩ : ∃ Q : Int, (l'[k].toNat : Int) = Q := ⟨_, rfl⟩
            rw [hQ] at cj
            clear hQ
            have fj := HLI.out.2.frozen k
            have HKY := Lib.hid hky
            clear hky hkl hki
            go_upto_region 15 with fail
            have hx : Ex (fun q => (Value.slice (some ⟨gb, 0, none⟩) ob.length oc).ownBlock = some q) wr (wr.setCell ⟨gb, k, none⟩ (.int .u8 33)) := Ex.setCell (S := fun q => (Value.slice (some ⟨gb, 0, none⟩) ob.length oc).ownBlock = some q) (Ex.refl _ wr) (p := ⟨gb, k, none⟩) (.inl rfl) _
            have ho : OB (wr.setCell ⟨gb, k, none⟩ (.int .u8 33)) Bp (.slice (some ⟨gb, 0, none⟩) ob.length oc) (l'.set k 33) := HLI.out.2.set k 33 (.int .u8 33) rfl
            have HNW := Lib.hid (And.intro hx ho)
            clear hx ho cj fj ld9
            generalize wr.setCell ⟨gb, k, none⟩ (.int .u8 33) = wj at HNW ⊢
            have hwk := wrap_p HLK.out (Nat.le_succ_of_le HBL.out)
            go_wp2_with fail
            go_roundg (ob.length - (k + 1))
            case measure => exact msrP HKY.out HLK.out
            case rel => exact ⟨k + 1, l'.set k 33, by first | (simp; done) | (rw [wrap_p2 HLK.out (Nat.le_succ_of_le HBL.out)]), HLK.out, Nat.le_refl _, Lib.hid ⟨by rw [List.length_set]; exact HLI.out.1, HNW.out.2⟩, Lib.hid (HXI.out.trans HNW.out.1)⟩
          · have HSN := Lib.hid (HSY.out.over HOBS8.out HIO.out HXO.out)
            have hwi := wrap_p HIN.out (Nat.le_trans HN.out.2 (by decide))
            clear hkl hky
            go_wp2_with fail
            go_roundg (n - (i + 1))
            case measure => exact msrP hkx HIN.out
            case rel => exact ⟨i + 1, by first | (simp; done) | (rw [wrap_p2 HIN.out (Nat.le_trans HN.out.2 (by decide))]), HIN.out, Nat.le_refl _, HSN⟩
      · obtain rfl := i_endp hlt hin
        clear hin hkx hlt
        have HBW := Lib.hid ((HSP.out.ex.block bp (row_lt B_bp.out) (BB.no HOBS8.out B_bp.out (by decide))).trans B_bp.out)
        have HQW := Lib.hid ((HSP.out.ex.block wq (row_lt B_wq.out) (BB.no HOBS8.out B_wq.out (by decide))).trans B_wq.out)
        have hlx := HO_x.out.lt
        have HRW : Hid (OB wr w2.heap.size (.slice (some xA) xl.length xc) xl) := HO_x.out.keep HSP.out.ex (fun k hk _ _ e => by
          have h1 := (BB.lo HOBS8.out e).1
          have h2 := (HOX6.out.lt k hk).2
          have h3 := HBP.out
          omega)
        have HXT := Lib.hid ((((((((HX_w1.out.trans HX_w2.out).trans HX_w3.out).andThen HX_w4.out (fun i hi e => by have := hb_bp; omega)).trans HX_w5.out).trans HX_w6.out).trans HX_w7.out).trans HX_w8.out).andThen HSP.out.ex (fun k h1 h2 => by
          have h3 := (BB.lo HOBS8.out h2).1
          have h4 := HBP.out
          have h5 := HX06.out.size
          omega))
        clear hlx
        go_upto_region 17 with fail
        replace B_bp := HBW
        replace B_wq := HQW
        have cbp0 := row_cell (k := 0) (v := .int .u8 xtos) B_bp.out rfl
        have cbp1 := row_cell (k := 1) (v := .int .u16 xid) B_bp.out rfl
        have cbp2 := row_cell (k := 2) (v := .bool xdf) B_bp.out rfl
        have cbp3 := row_cell (k := 3) (v := .bool xmf) B_bp.out rfl
        have cbp4 := row_cell (k := 4) (v := .int .i64 xoff) B_bp.out rfl
        have cbp5 := row_cell (k := 5) (v := .int .u8 xttl) B_bp.out rfl
        have cbp6 := row_cell (k := 6) (v := .int .u8 xpr) B_bp.out rfl
        have cbp7 := row_cell (k := 7) (v := .int .u32 xsrc) B_bp.out rfl
        have cbp8 := row_cell (k := 8) (v := .int .u32 xdst) B_bp.out rfl
        have cbp9 := row_cell (k := 9) (v := .slice (some xA) xl.length xc) B_bp.out rfl
        have cwq0 := row_cell (k := 0) (v := .int .u32 xtos) B_wq.out rfl
        have cwq1 := row_cell (k := 1) (v := .int .u32 xid) B_wq.out rfl
        have cwq2 := row_cell (k := 2) (v := .bool xdf) B_wq.out rfl
        have cwq3 := row_cell (k := 3) (v := .bool xmf) B_wq.out rfl
        have cwq4 := row_cell (k := 4) (v := .int .i64 xoff) B_wq.out rfl
        have cwq5 := row_cell (k := 5) (v := .int .u32 xttl) B_wq.out rfl
        have cwq6 := row_cell (k := 6) (v := .int .u32 xpr) B_wq.out rfl
        have cwq7 := row_cell (k := 7) (v := .int .u32 xsrc) B_wq.out rfl
        have cwq8 := row_cell (k := 8) (v := .int .u32 xdst) B_wq.out rfl
        have cwq9 := row_cell (k := 9) (v := .string (bs xl)) B_wq.out rfl
        have HRBF := Lib.hid HRW.out.rb.any
        have hS0 : Ex (fun _ => False) wr wr.drew := (Ex.refl _ wr).drew
        have z1 : ∀ w, (binOp .eql 31 (rpv (⟨xtos, xid, xdf, xmf, xoff, xttl, xpr, xsrc, xdst, xl⟩ : Pk)) (.agg #[.int .u32 xtos, .int .u32 xid, .bool xdf, .bool xmf, .int .i64 xoff, .int .u32 xttl, .int .u32 xpr, .int .u32 xsrc, .int .u32 xdst, .string (bs xl)])).run Tryd.prog w = .ok (.bool true) w := fun w => by have h := rpv_eq (⟨xtos, xid, xdf, xmf, xoff, xttl, xpr, xsrc, xdst, xl⟩ : Pk) (⟨xtos, xid, xdf, xmf, xoff, xttl, xpr, xsrc, xdst, xl⟩ : Pk) w; rw [Pk.eqB_self] at h; exact h
        have z2 : ∀ w, (eqGuard .eql 31 (.tmp 77) (.tmp 78) (rpv (⟨xtos, xid, xdf, xmf, xoff, xttl, xpr, xsrc, xdst, xl⟩ : Pk)) (.agg #[.int .u32 xtos, .int .u32 xid, .bool xdf, .bool xmf, .int .i64 xoff, .int .u32 xttl, .int .u32 xpr, .int .u32 xsrc, .int .u32 xdst, .string (bs xl)])).run Tryd.prog w = .ok () w := fun w => rpv_guard .eql (.tmp 77) (.tmp 78) (⟨xtos, xid, xdf, xmf, xoff, xttl, xpr, xsrc, xdst, xl⟩ : Pk) (⟨xtos, xid, xdf, xmf, xoff, xttl, xpr, xsrc, xdst, xl⟩ : Pk) w
        have Z1 := Lib.hid z1
        have Z2 := Lib.hid z2
        clear z1 z2
        refine wp_region_held_drew (S := fun W => Ex (fun _ => False) wr W) (by kernel_rfl) hS0 (fun _ => ?_)
        refine wpAnyH_take (i := 0) (oi := { dst := some 74, op := Go.Op.move (Go.Operand.tmp 5), type := 4, pos := "law.go:70", after := #[], guard := none }) (v := ?v17) rfl (by kernel_rfl) (by kernel_rfl) (by kernel_rfl) (fun _ _ _ h => h) (Or.inl ⟨by rfl, ?hy17⟩) (by assumption) ?rest17
        case hy17 => (intro w hSw; (try dsimp only at hSw); have ecbp0 := hSw.cell cbp0 id; have ecbp1 := hSw.cell cbp1 id; have ecbp2 := hSw.cell cbp2 id; have ecbp3 := hSw.cell cbp3 id; have ecbp4 := hSw.cell cbp4 id; have ecbp5 := hSw.cell cbp5 id; have ecbp6 := hSw.cell cbp6 id; have ecbp7 := hSw.cell cbp7 id; have ecbp8 := hSw.cell cbp8 id; have ecbp9 := hSw.cell cbp9 id; have ecwq0 := hSw.cell cwq0 id; have ecwq1 := hSw.cell cwq1 id; have ecwq2 := hSw.cell cwq2 id; have ecwq3 := hSw.cell cwq3 id; have ecwq4 := hSw.cell cwq4 id; have ecwq5 := hSw.cell cwq5 id; have ecwq6 := hSw.cell cwq6 id; have ecwq7 := hSw.cell cwq7 id; have ecwq8 := hSw.cell cwq8 id; have ecwq9 := hSw.cell cwq9 id; have z1 := Z1.out; have z2 := Z2.out; go_simp <;> with_reducible rfl)
        try simp only [Act.put, List.setIfInBounds_toArray, List.set_cons_zero, List.set_cons_succ]
        refine wpAnyH_take (i := 1) (oi := { dst := some 75, op := Go.Op.move (Go.Operand.tmp 74), type := 4, pos := "law.go:70", after := #[{ on := 0, ground := Go.Ground.data }], guard := none }) (v := ?v18) rfl (by kernel_rfl) (by kernel_rfl) (by kernel_rfl) (fun _ _ _ h => h) (Or.inl ⟨by rfl, ?hy18⟩) (by assumption) ?rest18
        case hy18 => (intro w hSw; (try dsimp only at hSw); have ecbp0 := hSw.cell cbp0 id; have ecbp1 := hSw.cell cbp1 id; have ecbp2 := hSw.cell cbp2 id; have ecbp3 := hSw.cell cbp3 id; have ecbp4 := hSw.cell cbp4 id; have ecbp5 := hSw.cell cbp5 id; have ecbp6 := hSw.cell cbp6 id; have ecbp7 := hSw.cell cbp7 id; have ecbp8 := hSw.cell cbp8 id; have ecbp9 := hSw.cell cbp9 id; have ecwq0 := hSw.cell cwq0 id; have ecwq1 := hSw.cell cwq1 id; have ecwq2 := hSw.cell cwq2 id; have ecwq3 := hSw.cell cwq3 id; have ecwq4 := hSw.cell cwq4 id; have ecwq5 := hSw.cell cwq5 id; have ecwq6 := hSw.cell cwq6 id; have ecwq7 := hSw.cell cwq7 id; have ecwq8 := hSw.cell cwq8 id; have ecwq9 := hSw.cell cwq9 id; have z1 := Z1.out; have z2 := Z2.out; go_simp <;> with_reducible rfl)
        try simp only [Act.put, List.setIfInBounds_toArray, List.set_cons_zero, List.set_cons_succ]
        refine wpAnyH_take (i := 2) (oi := { dst := some 76, op := Go.Op.load 27 (Go.Operand.tmp 2), type := 27, pos := "law.go:70", after := #[{ on := 1, ground := Go.Ground.guard }], guard := some (1, true) }) (v := ?v19) rfl (by kernel_rfl) (by kernel_rfl) (by kernel_rfl) (fun _ _ _ h => h) (Or.inl ⟨by rfl, ?hy19⟩) (by assumption) ?rest19
        case hy19 => (intro w hSw; (try dsimp only at hSw); have ecbp0 := hSw.cell cbp0 id; have ecbp1 := hSw.cell cbp1 id; have ecbp2 := hSw.cell cbp2 id; have ecbp3 := hSw.cell cbp3 id; have ecbp4 := hSw.cell cbp4 id; have ecbp5 := hSw.cell cbp5 id; have ecbp6 := hSw.cell cbp6 id; have ecbp7 := hSw.cell cbp7 id; have ecbp8 := hSw.cell cbp8 id; have ecbp9 := hSw.cell cbp9 id; have ecwq0 := hSw.cell cwq0 id; have ecwq1 := hSw.cell cwq1 id; have ecwq2 := hSw.cell cwq2 id; have ecwq3 := hSw.cell cwq3 id; have ecwq4 := hSw.cell cwq4 id; have ecwq5 := hSw.cell cwq5 id; have ecwq6 := hSw.cell cwq6 id; have ecwq7 := hSw.cell cwq7 id; have ecwq8 := hSw.cell cwq8 id; have ecwq9 := hSw.cell cwq9 id; have z1 := Z1.out; have z2 := Z2.out; go_simp <;> with_reducible rfl)
        try simp only [Act.put, List.setIfInBounds_toArray, List.set_cons_zero, List.set_cons_succ]
        refine wpAnyH_take (i := 4) (oi := { dst := some 78, op := Go.Op.load 31 (Go.Operand.tmp 6), type := 31, pos := "law.go:70", after := #[{ on := 1, ground := Go.Ground.guard }], guard := some (1, true) }) (v := ?v20) rfl (by kernel_rfl) (by kernel_rfl) (by kernel_rfl) (fun _ _ _ h => h) (Or.inl ⟨by rfl, ?hy20⟩) (by assumption) ?rest20
        case hy20 => (intro w hSw; (try dsimp only at hSw); have ecbp0 := hSw.cell cbp0 id; have ecbp1 := hSw.cell cbp1 id; have ecbp2 := hSw.cell cbp2 id; have ecbp3 := hSw.cell cbp3 id; have ecbp4 := hSw.cell cbp4 id; have ecbp5 := hSw.cell cbp5 id; have ecbp6 := hSw.cell cbp6 id; have ecbp7 := hSw.cell cbp7 id; have ecbp8 := hSw.cell cbp8 id; have ecbp9 := hSw.cell cbp9 id; have ecwq0 := hSw.cell cwq0 id; have ecwq1 := hSw.cell cwq1 id; have ecwq2 := hSw.cell cwq2 id; have ecwq3 := hSw.cell cwq3 id; have ecwq4 := hSw.cell cwq4 id; have ecwq5 := hSw.cell cwq5 id; have ecwq6 := hSw.cell cwq6 id; have ecwq7 := hSw.cell cwq7 id; have ecwq8 := hSw.cell cwq8 id; have ecwq9 := hSw.cell cwq9 id; have z1 := Z1.out; have z2 := Z2.out; go_simp <;> with_reducible rfl)
        try simp only [Act.put, List.setIfInBounds_toArray, List.set_cons_zero, List.set_cons_succ]
        refine wpAnyH_ready (rs := [3]) (by kernel_rfl) (by simp) ?_
        refine AllReadyH.cons (o := { dst := some 77, op := Go.Op.call { callee := Go.Callee.value (Go.Operand.func 14), args := #[Go.Operand.tmp 76], argTypes := #[27] }, type := 31, pos := "law.go:70", after := #[{ on := 2, ground := Go.Ground.data }, { on := 1, ground := Go.Ground.chain }, { on := 1, ground := Go.Ground.guard }], guard := some (1, true) }) rfl (fun K hK => ?_) AllReadyH.nil
        go_simp
        refine (of10_any _ (⟨xtos, xid, xdf, xmf, xoff, xttl, xpr, xsrc, xdst, xl⟩ : Pk) (some xA) xc _ OKX.out (HRBF.out.keep (Ex.refl (fun _ => False) wr).drew (fun _ _ _ => id))).mono ?_
        rintro e wx ⟨rfl, hx⟩
        have hS1 := hS0.trans hx
        clear hx
        refine hK.out _ _ hS1 (fun _ => ?_)
        refine wpAnyH_take (i := 5) (oi := { dst := some 79, op := Go.Op.binOp Go.BinOp.eql 31 (Go.Operand.tmp 77) (Go.Operand.tmp 78) 31, type := 4, pos := "law.go:70", after := #[{ on := 3, ground := Go.Ground.data }, { on := 4, ground := Go.Ground.data }, { on := 1, ground := Go.Ground.guard }], guard := some (1, true) }) (v := ?v21) rfl (by kernel_rfl) (by kernel_rfl) (by kernel_rfl) (fun _ _ _ h => h) (Or.inl ⟨by rfl, ?hy21⟩) (by assumption) ?rest21
        case hy21 => (intro w hSw; (try dsimp only at hSw); have ecbp0 := hSw.cell cbp0 id; have ecbp1 := hSw.cell cbp1 id; have ecbp2 := hSw.cell cbp2 id; have ecbp3 := hSw.cell cbp3 id; have ecbp4 := hSw.cell cbp4 id; have ecbp5 := hSw.cell cbp5 id; have ecbp6 := hSw.cell cbp6 id; have ecbp7 := hSw.cell cbp7 id; have ecbp8 := hSw.cell cbp8 id; have ecbp9 := hSw.cell cbp9 id; have ecwq0 := hSw.cell cwq0 id; have ecwq1 := hSw.cell cwq1 id; have ecwq2 := hSw.cell cwq2 id; have ecwq3 := hSw.cell cwq3 id; have ecwq4 := hSw.cell cwq4 id; have ecwq5 := hSw.cell cwq5 id; have ecwq6 := hSw.cell cwq6 id; have ecwq7 := hSw.cell cwq7 id; have ecwq8 := hSw.cell cwq8 id; have ecwq9 := hSw.cell cwq9 id; have z1 := Z1.out; have z2 := Z2.out; go_simp <;> with_reducible rfl)
        try simp only [Act.put, List.setIfInBounds_toArray, List.set_cons_zero, List.set_cons_succ]
        refine wpAnyH_take (i := 6) (oi := { dst := some 80, op := Go.Op.pick (Go.Operand.tmp 75) (Go.Operand.tmp 79) (Go.Operand.const (Go.Value.bool false)), type := 4, pos := "law.go:70", after := #[{ on := 1, ground := Go.Ground.data }, { on := 5, ground := Go.Ground.data }], guard := none }) (v := ?v22) rfl (by kernel_rfl) (by kernel_rfl) (by kernel_rfl) (fun _ _ _ h => h) (Or.inl ⟨by rfl, ?hy22⟩) (by assumption) ?rest22
        case hy22 => (intro w hSw; (try dsimp only at hSw); have ecbp0 := hSw.cell cbp0 id; have ecbp1 := hSw.cell cbp1 id; have ecbp2 := hSw.cell cbp2 id; have ecbp3 := hSw.cell cbp3 id; have ecbp4 := hSw.cell cbp4 id; have ecbp5 := hSw.cell cbp5 id; have ecbp6 := hSw.cell cbp6 id; have ecbp7 := hSw.cell cbp7 id; have ecbp8 := hSw.cell cbp8 id; have ecbp9 := hSw.cell cbp9 id; have ecwq0 := hSw.cell cwq0 id; have ecwq1 := hSw.cell cwq1 id; have ecwq2 := hSw.cell cwq2 id; have ecwq3 := hSw.cell cwq3 id; have ecwq4 := hSw.cell cwq4 id; have ecwq5 := hSw.cell cwq5 id; have ecwq6 := hSw.cell cwq6 id; have ecwq7 := hSw.cell cwq7 id; have ecwq8 := hSw.cell cwq8 id; have ecwq9 := hSw.cell cwq9 id; have z1 := Z1.out; have z2 := Z2.out; go_simp <;> with_reducible rfl)
        try simp only [Act.put, List.setIfInBounds_toArray, List.set_cons_zero, List.set_cons_succ]
        refine wpAnyH_take (i := 7) (oi := { dst := some 4, op := Go.Op.assign (Go.Operand.tmp 80), type := 4, pos := "law.go:70", after := #[{ on := 6, ground := Go.Ground.data }, { on := 3, ground := Go.Ground.chain }, { on := 0, ground := Go.Ground.phase }, { on := 1, ground := Go.Ground.phase }, { on := 2, ground := Go.Ground.phase }, { on := 3, ground := Go.Ground.phase }, { on := 4, ground := Go.Ground.phase }, { on := 5, ground := Go.Ground.phase }, { on := 6, ground := Go.Ground.phase }], guard := none }) (v := ?v23) rfl (by kernel_rfl) (by kernel_rfl) (by kernel_rfl) (fun _ _ _ h => h) (Or.inl ⟨by rfl, ?hy23⟩) (by assumption) ?rest23
        case hy23 => (intro w hSw; (try dsimp only at hSw); have ecbp0 := hSw.cell cbp0 id; have ecbp1 := hSw.cell cbp1 id; have ecbp2 := hSw.cell cbp2 id; have ecbp3 := hSw.cell cbp3 id; have ecbp4 := hSw.cell cbp4 id; have ecbp5 := hSw.cell cbp5 id; have ecbp6 := hSw.cell cbp6 id; have ecbp7 := hSw.cell cbp7 id; have ecbp8 := hSw.cell cbp8 id; have ecbp9 := hSw.cell cbp9 id; have ecwq0 := hSw.cell cwq0 id; have ecwq1 := hSw.cell cwq1 id; have ecwq2 := hSw.cell cwq2 id; have ecwq3 := hSw.cell cwq3 id; have ecwq4 := hSw.cell cwq4 id; have ecwq5 := hSw.cell cwq5 id; have ecwq6 := hSw.cell cwq6 id; have ecwq7 := hSw.cell cwq7 id; have ecwq8 := hSw.cell cwq8 id; have ecwq9 := hSw.cell cwq9 id; have z1 := Z1.out; have z2 := Z2.out; go_simp <;> with_reducible rfl)
        try simp only [Act.put, List.setIfInBounds_toArray, List.set_cons_zero, List.set_cons_succ]
        refine wpAnyH_done (by kernel_rfl) ?_ _
        have HXF := Lib.hid hS1
        clear hS0 hS1 cbp0 cbp1 cbp2 cbp3 cbp4 cbp5 cbp6 cbp7 cbp8 cbp9 cwq0 cwq1 cwq2 cwq3 cwq4 cwq5 cwq6 cwq7 cwq8 cwq9
        go_wp2_with fail
        go_ret
        exact ⟨rfl, HXT.out.trans HXF.out⟩
end Go.Proofs.YtabjihchcmjdmaaDoor
