/-
 The walk of FragTwo. By an AI agent.
-/
import Derived.Test.YtabjihchcmjdmaaDoorGh10
import Derived.Test.YtabjihchcmjdmaaDoorTwp10
import Derived.Test.YtabjihchcmjdmaaDoorGb10
import Derived.Test.YtabjihchcmjdmaaDoorGi10
import Derived.Test.YtabjihchcmjdmaaDoorOpenBool
namespace Go.Proofs.YtabjihchcmjdmaaDoor
open Go.RowKit

theorem obkeepT {w w' : World} {b B : Nat} {v : Value} {l : List UInt8} {cs : Array Value} {t : TypeId} (h : OB w B v l) (hx : Ex (fun j => j = b) w w') (hb : w.heap[b]? = some (Obj.cells cs t)) (ht : t ≠ 5) : OB w' B v l := h.keep hx (fun k hk _ _ e => by
 have e : k = b := e
 subst e
 obtain ⟨cur, hc⟩ := ownsRow_isCells h.2 hk
 rw [hb] at hc
 injection hc with hc
 injection hc with _ hc
 exact ht hc)
theorem PL.keepS {S : Nat → Prop} {w w' : World} {Bp : Nat} {p : Pk} {m : Int} {z n g c : Nat} {os : List Po} (h : PL w Bp p m z n g c os) (hx : Ex S w w') (hs : ∀ k, Bp ≤ k → k < w.heap.size → ¬ S k) : PL w' Bp p m z n g c os :=
 ⟨h.pd, h.one, h.len, h.op.keep hx (fun k _ h1 h2 => hs k h2 h1), h.obs.keep hx (fun _ _ k _ h1 h2 => hs k h2 h1)⟩
theorem RS.low {w w' : World} {b B rb bm : Nat} {tm : Int} {G : List Hp} (H : RS w B rb bm tm G) (hx : Ex (fun j => j = b) w w') (hb : b < B) : RS w' B rb bm tm G := by
 refine ⟨(hx.block rb (row_lt H.cell) (fun e => ?_)).trans H.cell, H.map.keep hx (fun e => ?_), fun a ha => ?_, H.apart, H.lo⟩
 ·
  have e : rb = b := e
  have := H.lo.1
  omega
 ·
  have e : bm = b := e
  have := H.lo.2
  omega
 ·
  have Ha := H.hps a ha
  refine ⟨(hx.block a.hb (row_lt Ha.1) (fun e => ?_)).trans Ha.1, Ha.2.1.keep hx (fun k _ _ hB e => ?_), fun o ho => ⟨(Ha.2.2.1 o ho).1.keep hx (fun k _ _ hB e => ?_), (Ha.2.2.1 o ho).2⟩, Ha.2.2.2⟩
  ·
   have e : a.hb = b := e
   have := Ha.2.2.2.2
   omega
  ·
   have e : k = b := e
   omega
  ·
   have e : k = b := e
   omega
theorem TwoS.low {w w' : World} {b B rb bm : Nat} {tm : Int} {p q : Pk} {z n a z' n' b' : Nat} (h : TwoS w B rb bm tm p q z n a z' n' b') (hx : Ex (fun j => j = b) w w') (hb : b < B) : TwoS w' B rb bm tm p q z n a z' n' b' := by
 obtain ⟨G, h1, h2⟩ := h
 exact ⟨G, h1.low hx hb, h2⟩
theorem pkright {p : Pk} (h0 : p.off = 0) (hm : p.mf = false) (hl : p.b.length ≤ 2000) : p.right = 0 := by
 unfold Pk.right
 rw [if_neg (by rw [h0, hm]; simp), if_neg (by omega)]
theorem PL.cap {w : World} {Bp : Nat} {p : Pk} {m : Int} {z n g c : Nat} {os : List Po} (h : PL w Bp p m z n g c os) (hn : 0 < n) : n ≤ c := by
 have hop := h.op
 rw [← h.len] at hop
 obtain ⟨g', c', e, h1, _⟩ := hop.get 0 (by rw [h.len]; exact hn)
 injection e with _ _ e
 rw [e, ← h.len]
 exact h1
theorem turn_row {w : World} {A : Option Addr} {c : Nat} {l : List Bool} (h : RBL w (.slice A l.length c) l) {i : Nat} (hi : i < l.length) : ∃ b off, A = some ⟨b, off, none⟩ ∧ w.cell? ⟨b, off + i, none⟩ = some (.bool l[i]) := by
 obtain ⟨_, A', c', e, _, hr⟩ := h
 injection e with e _ _
 subst e
 exact hr i hi
theorem RBL.keep {w w' : World} {v : Value} {l : List Bool} (h : RBL w v l) (hx : Ex (fun _ => False) w w') : RBL w' v l := by
 obtain ⟨h1, A, c, h2, h3, h4⟩ := h
 refine ⟨h1, A, c, h2, h3, fun i hi => ?_⟩
 obtain ⟨b, off, e, hc⟩ := h4 i hi
 exact ⟨b, off, e, hx.cell hc id⟩
theorem two_sum {la lb a b n0 n1 : Nat} (h : la + a = n0 ∧ lb + b = n1) (h0 : n0 ≤ 42) (h1 : n1 ≤ 42) : ∃ s : Nat, wrap64 ((la : Int) + (lb : Int)) = (s : Int) ∧ s = la + lb := ⟨la + lb, by unfold wrap64; omega, rfl⟩
theorem i_ltt {i l : Nat} (h : (i : Int) < (l : Int)) : i < l := by omega
theorem i_1t {i : Nat} (h : i ≤ 84) : wrap64 ((i : Int) + 1) = (i : Int) + 1 := by unfold wrap64; omega
theorem i_2t {i : Nat} (h : i ≤ 84) : wrap64 ((i : Int) + 1) = ((i + 1 : Nat) : Int) := by unfold wrap64; omega
theorem off_next (g o c : Nat) : ∃ on : Nat, (if c = 0 then some (⟨g, o, none⟩ : Addr) else some ⟨g, o + 10, none⟩) = some ⟨g, on, none⟩ ∧ (c ≠ 0 → on = o + 10) := by
 by_cases h : c = 0
 ·
  exact ⟨o, by rw [if_pos h], fun h' => absurd h h'⟩
 ·
  exact ⟨o + 10, by rw [if_neg h], fun _ => rfl⟩
theorem t_ne0 {l : Nat} (h : l ≠ 0) : ((l : Int) == 0) = false := by rw [beq_eq_false_iff_ne]; omega
theorem t_eq0 {l : Nat} (h : l = 0) : ((l : Int) == 0) = true := by subst h; rfl
theorem ta_size : (Tryd.prog.info? 60).map (·.size) = some 20 := by kernel_rfl
theorem two_ne {p q : Pk} (okp : p.ok) (okq : q.ok) (h : p.id = 0) (h' : q.id = 1) : kb p ≠ kb q := by
 intro e
 have := (kb_inj okp okq e).2.2.2
 omega
set_option maxRecDepth 100000 in
set_option maxHeartbeats 16000000 in
theorem two10_any (p q : Pk) (A A' : Option Addr) (c c' : Nat) (m0 : Int) (tA : Option Addr) (tn tc : Nat) (tl : List Bool) (w : World) (ok : p.ok) (okq : q.ok) (hp : RB w (fun _ => True) (.slice A p.b.length c) p.b) (hq : RB w (fun _ => True) (.slice A' q.b.length c') q.b) (ht : RBL w (.slice tA tn tc) tl) (hg : ET w) :
  Calls Tryd.prog 7 #[pkv p (.slice A p.b.length c), pkv q (.slice A' q.b.length c'), .int .i64 m0, .slice tA tn tc] w fun e w' => e = .returned (.bool true) ∧ Ex (fun _ => False) w w' := by
 obtain ⟨k1, hk1, hk1b⟩ := and16 m0
 obtain ⟨r1, hr1, hr1b⟩ := rem5 k1
 have HKB := Lib.hid hr1b
 have HR1 := Lib.hid hr1
 have HK1 := Lib.hid hk1
 have htn : tn = tl.length := by obtain ⟨_, _, _, e, _⟩ := ht; injection e
 subst htn
 have HTL := Lib.hid ht
 clear hk1b hr1b hk1 hr1 ht
 obtain ⟨xtos, xid, xdf, xmf, xoff, xttl, xpr, xsrc, xdst, xb⟩ := p
 obtain ⟨ytos, yid, ydf, ymf, yoff, yttl, ypr, ysrc, ydst, yb⟩ := q
 simp only at hp hq
 have HG := Lib.hid hg
 have HP := Lib.hid hp
 have HQ := Lib.hid hq
 have OKP := Lib.hid ok
 have OKQ := Lib.hid okq
 clear hp hq ok okq hg
 show Calls Tryd.prog 7 #[.agg #[.int .u8 xtos, .int .u16 xid, .bool xdf, .bool xmf, .int .i64 xoff, .int .u8 xttl, .int .u8 xpr, .int .u32 xsrc, .int .u32 xdst, .slice A xb.length c], .agg #[.int .u8 ytos, .int .u16 yid, .bool ydf, .bool ymf, .int .i64 yoff, .int .u8 yttl, .int .u8 ypr, .int .u32 ysrc, .int .u32 ydst, .slice A' yb.length c'], .int .i64 m0, .slice tA tl.length tc] w _
 go_enter Tryd.func7, Tryd.ntmps7
 go_upto_region 1 with fail
 have hx : Ex (fun _ => False) w (w.alloc (.cells #[.int .u8 xtos, .int .u16 xid, .bool xdf, .bool xmf, .int .i64 xoff, .int .u8 xttl, .int .u8 xpr, .int .u32 xsrc, .int .u32 xdst, .slice A xb.length c] 27)) := (Ex.refl _ w).alloc _
 have hb : (w.alloc (.cells #[.int .u8 xtos, .int .u16 xid, .bool xdf, .bool xmf, .int .i64 xoff, .int .u8 xttl, .int .u8 xpr, .int .u32 xsrc, .int .u32 xdst, .slice A xb.length c] 27)).heap[w.heap.size]? = some (.cells #[.int .u8 xtos, .int .u16 xid, .bool xdf, .bool xmf, .int .i64 xoff, .int .u8 xttl, .int .u8 xpr, .int .u32 xsrc, .int .u32 xdst, .slice A xb.length c] 27) := heap_alloc_new w _
 have hs1 : (w.alloc (.cells #[.int .u8 xtos, .int .u16 xid, .bool xdf, .bool xmf, .int .i64 xoff, .int .u8 xttl, .int .u8 xpr, .int .u32 xsrc, .int .u32 xdst, .slice A xb.length c] 27)).heap.size = w.heap.size + 1 := by simp
 obtain ⟨bp, hbp⟩ : ∃ bp, bp = w.heap.size := ⟨_, rfl⟩
 have hb_bp : w.heap.size ≤ bp := by omega
 rw [← hbp] at hb hs1 
 try simp only [← hbp]
 generalize w.alloc (.cells #[.int .u8 xtos, .int .u16 xid, .bool xdf, .bool xmf, .int .i64 xoff, .int .u8 xttl, .int .u8 xpr, .int .u32 xsrc, .int .u32 xdst, .slice A xb.length c] 27) = w1 at hx hb  hs1 ⊢
 try simp only [← hs1]
 clear hs1
 clear hbp
 have HX_w1 := Lib.hid hx
 clear hx
 have B_bp := Lib.hid hb
 clear hb
 have hx : Ex (fun _ => False) w1 (w1.alloc (.cells #[.int .u8 ytos, .int .u16 yid, .bool ydf, .bool ymf, .int .i64 yoff, .int .u8 yttl, .int .u8 ypr, .int .u32 ysrc, .int .u32 ydst, .slice A' yb.length c'] 27)) := (Ex.refl _ w1).alloc _
 have hb : (w1.alloc (.cells #[.int .u8 ytos, .int .u16 yid, .bool ydf, .bool ymf, .int .i64 yoff, .int .u8 yttl, .int .u8 ypr, .int .u32 ysrc, .int .u32 ydst, .slice A' yb.length c'] 27)).heap[w1.heap.size]? = some (.cells #[.int .u8 ytos, .int .u16 yid, .bool ydf, .bool ymf, .int .i64 yoff, .int .u8 yttl, .int .u8 ypr, .int .u32 ysrc, .int .u32 ydst, .slice A' yb.length c'] 27) := heap_alloc_new w1 _
 obtain ⟨bq, hbq⟩ : ∃ bq, bq = w1.heap.size := ⟨_, rfl⟩
 have hb_bq : w1.heap.size ≤ bq := by omega
 rw [← hbq] at hb
 try simp only [← hbq]
 generalize w1.alloc (.cells #[.int .u8 ytos, .int .u16 yid, .bool ydf, .bool ymf, .int .i64 yoff, .int .u8 yttl, .int .u8 ypr, .int .u32 ysrc, .int .u32 ydst, .slice A' yb.length c'] 27) = w2 at hx hb ⊢
 clear hbq
 have HX_w2 := Lib.hid hx
 clear hx
 have B_bq := Lib.hid hb
 clear hb
 go_wp2_with fail
 refine (shown10_any w2 (HG.out.keep (HX_w1.out.trans HX_w2.out) id)).mono ?_
 rintro e w3 ⟨rfl, hx⟩
 have hk1 := HK1.out
 have hr1 := HR1.out
 have HX_w3 := Lib.hid hx
 clear hx
 go_upto_region 3 with fail
 clear hk1 hr1
 obtain ⟨M, hM⟩ : ∃ M : Int, M = wrap64 (68 + (r1 : Int)) := ⟨_, rfl⟩
 try rw [← hM]
 have HM68 : Hid (68 ≤ M) := by
  show 68 ≤ M
  have := HKB.out
  rw [hM]
  unfold wrap64
  omega
 clear hM
 obtain ⟨xl, hxl⟩ : ∃ l, l = xb.take 2000 := ⟨_, rfl⟩
 obtain ⟨yl, hyl⟩ : ∃ l, l = yb.take 2000 := ⟨_, rfl⟩
 have HXN : Hid (xl.length ≤ 2000) := by show xl.length ≤ 2000; rw [hxl, List.length_take]; exact Nat.min_le_left _ _
 have HYN : Hid (yl.length ≤ 2000) := by show yl.length ≤ 2000; rw [hyl, List.length_take]; exact Nat.min_le_left _ _
 have HxL := Lib.hid hxl
 have HyL := Lib.hid hyl
 have HX03 := Lib.hid ((HX_w1.out.trans HX_w2.out).trans HX_w3.out)
 have HPX := Lib.hid (RB.keep HP.out ((HX_w1.out.trans HX_w2.out).trans HX_w3.out) (fun _ _ _ => id))
 have HPY := Lib.hid (RB.keep HQ.out ((HX_w1.out.trans HX_w2.out).trans HX_w3.out) (fun _ _ _ => id))
 have HG3 : Hid (ET w3) := (HG.out.keep ((HX_w1.out.trans HX_w2.out).trans HX_w3.out) id)
 clear hxl hyl
 replace B_bp := Lib.hid (((HX_w2.out.trans HX_w3.out).block bp (row_lt B_bp.out) id).trans B_bp.out)
 replace B_bq := Lib.hid ((HX_w3.out.block bq (row_lt B_bq.out) id).trans B_bq.out)
 generalize w3 = w4 at *
 have cbp0 := row_cell (k := 0) (v := .int .u8 xtos) B_bp.out rfl
 have cbp1 := row_cell (k := 1) (v := .int .u16 xid) B_bp.out rfl
 have cbp2 := row_cell (k := 2) (v := .bool xdf) B_bp.out rfl
 have cbp3 := row_cell (k := 3) (v := .bool xmf) B_bp.out rfl
 have cbp4 := row_cell (k := 4) (v := .int .i64 xoff) B_bp.out rfl
 have cbp5 := row_cell (k := 5) (v := .int .u8 xttl) B_bp.out rfl
 have cbp6 := row_cell (k := 6) (v := .int .u8 xpr) B_bp.out rfl
 have cbp7 := row_cell (k := 7) (v := .int .u32 xsrc) B_bp.out rfl
 have cbp8 := row_cell (k := 8) (v := .int .u32 xdst) B_bp.out rfl
 have cbp9 := row_cell (k := 9) (v := .slice A xb.length c) B_bp.out rfl
 have cbq0 := row_cell (k := 0) (v := .int .u8 ytos) B_bq.out rfl
 have cbq1 := row_cell (k := 1) (v := .int .u16 yid) B_bq.out rfl
 have cbq2 := row_cell (k := 2) (v := .bool ydf) B_bq.out rfl
 have cbq3 := row_cell (k := 3) (v := .bool ymf) B_bq.out rfl
 have cbq4 := row_cell (k := 4) (v := .int .i64 yoff) B_bq.out rfl
 have cbq5 := row_cell (k := 5) (v := .int .u8 yttl) B_bq.out rfl
 have cbq6 := row_cell (k := 6) (v := .int .u8 ypr) B_bq.out rfl
 have cbq7 := row_cell (k := 7) (v := .int .u32 ysrc) B_bq.out rfl
 have cbq8 := row_cell (k := 8) (v := .int .u32 ydst) B_bq.out rfl
 have cbq9 := row_cell (k := 9) (v := .slice A' yb.length c') B_bq.out rfl
 go_cut [10] (fun x wx => ∃ b2 xA xc yA yc, x = .pointer (some ⟨b2, 0, none⟩) ∧ Hid (wx.heap[b2]? = some (.cells #[.int .u8 xtos, .int .u16 xid, .bool xdf, .bool xmf, .int .i64 xoff, .int .u8 xttl, .int .u8 xpr, .int .u32 xsrc, .int .u32 xdst, .slice (some xA) xl.length xc, .int .u8 ytos, .int .u16 yid, .bool ydf, .bool ymf, .int .i64 yoff, .int .u8 yttl, .int .u8 ypr, .int .u32 ysrc, .int .u32 ydst, .slice (some yA) yl.length yc] 60)) ∧ Hid (w4.heap.size ≤ b2) ∧ Hid (OB wx w4.heap.size (.slice (some xA) xl.length xc) xl) ∧ Hid (OB wx w4.heap.size (.slice (some yA) yl.length yc) yl) ∧ Hid (Ex (fun _ => False) w4 wx))
 case first =>
  have hS0 : Ex (fun _ => False) w4 w4.drew := (Ex.refl _ w4).drew
  refine wp_region_held_drew (S := fun W => Ex (fun _ => False) w4 W) (by kernel_rfl) hS0 (fun _ => ?_)
  have HX_wd := Lib.hid ((Ex.refl (fun _ => False) w4).drew)
  generalize w4.drew = wd at hS0 HX_wd ⊢
  refine wpAnyH_take (i := 0) (oi := { dst := some 26, op := .load 27 (.tmp 4), type := 27, pos := "more.go:13", after := #[], guard := none }) (v := ?v1) rfl (by kernel_rfl) (by kernel_rfl) (by kernel_rfl) (fun _ _ _ h => h) (Or.inl ⟨by rfl, ?hy1⟩) (by assumption) ?rest1
  case hy1 => (intro w hSw; (try dsimp only at hSw); have ecbp0 := hSw.cell cbp0 id; have ecbp1 := hSw.cell cbp1 id; have ecbp2 := hSw.cell cbp2 id; have ecbp3 := hSw.cell cbp3 id; have ecbp4 := hSw.cell cbp4 id; have ecbp5 := hSw.cell cbp5 id; have ecbp6 := hSw.cell cbp6 id; have ecbp7 := hSw.cell cbp7 id; have ecbp8 := hSw.cell cbp8 id; have ecbp9 := hSw.cell cbp9 id; go_simp <;> with_reducible rfl)
  try simp only [Act.put, List.setIfInBounds_toArray, List.set_cons_zero, List.set_cons_succ]
  refine wpAnyH_take (i := 2) (oi := { dst := some 28, op := .load 27 (.tmp 5), type := 27, pos := "more.go:13", after := #[], guard := none }) (v := ?v2) rfl (by kernel_rfl) (by kernel_rfl) (by kernel_rfl) (fun _ _ _ h => h) (Or.inl ⟨by rfl, ?hy2⟩) (by assumption) ?rest2
  case hy2 => (intro w hSw; (try dsimp only at hSw); have ecbq0 := hSw.cell cbq0 id; have ecbq1 := hSw.cell cbq1 id; have ecbq2 := hSw.cell cbq2 id; have ecbq3 := hSw.cell cbq3 id; have ecbq4 := hSw.cell cbq4 id; have ecbq5 := hSw.cell cbq5 id; have ecbq6 := hSw.cell cbq6 id; have ecbq7 := hSw.cell cbq7 id; have ecbq8 := hSw.cell cbq8 id; have ecbq9 := hSw.cell cbq9 id; go_simp <;> with_reducible rfl)
  try simp only [Act.put, List.setIfInBounds_toArray, List.set_cons_zero, List.set_cons_succ]
  refine wpAnyH_ready (rs := [1, 5]) (by kernel_rfl) (by simp) ?_
  refine AllReadyH.cons (o := { dst := some 27, op := .call { callee := .value (.func 13), args := #[.tmp 26], argTypes := #[27] }, type := 27, pos := "more.go:13", after := #[{ on := 0, ground := .data }], guard := none }) rfl (fun K hK => ?_) ?_
  ·
   go_simp
   refine (few10_any (fun _ => True) (⟨xtos, xid, xdf, xmf, xoff, xttl, xpr, xsrc, xdst, xb⟩ : Pk) A c _ (RB.keep HPX.out HX_wd.out (fun _ _ _ => id))).mono ?_
   rintro e wx1 ⟨xA, xc, rfl, ho, hx⟩
   have hfw : (⟨xtos, xid, xdf, xmf, xoff, xttl, xpr, xsrc, xdst, xb⟩ : Pk).few 2000 = (⟨xtos, xid, xdf, xmf, xoff, xttl, xpr, xsrc, xdst, xl⟩ : Pk) := by rw [HxL.out]; rfl
   rw [hfw] at ho ⊢
   have hv : pkv (⟨xtos, xid, xdf, xmf, xoff, xttl, xpr, xsrc, xdst, xl⟩ : Pk) (.slice (some xA) (⟨xtos, xid, xdf, xmf, xoff, xttl, xpr, xsrc, xdst, xl⟩ : Pk).b.length xc) = .agg #[.int .u8 xtos, .int .u16 xid, .bool xdf, .bool xmf, .int .i64 xoff, .int .u8 xttl, .int .u8 xpr, .int .u32 xsrc, .int .u32 xdst, .slice (some xA) xl.length xc] := rfl
   rw [hv]
   have hf : OB wx1 w4.heap.size (.slice (some xA) xl.length xc) xl := OB.mono ho HX_wd.out.size
   clear hv hfw ho
   have HX_wx1 := Lib.hid hx
   clear hx
   have HO_x := Lib.hid hf
   clear hf
   have hS_wx1 : Ex (fun _ => False) w4 wx1 := (HX_wd.out.trans HX_wx1.out)
   refine hK.out _ _ hS_wx1 (fun _ => ?_)
   refine wpAnyH_ready (rs := [3, 5]) (by kernel_rfl) (by simp) ?_
   refine AllReadyH.cons (o := { dst := some 29, op := .call { callee := .value (.func 13), args := #[.tmp 28], argTypes := #[27] }, type := 27, pos := "more.go:13", after := #[{ on := 2, ground := .data }, { on := 1, ground := .chain }], guard := none }) rfl (fun K hK => ?_) ?_
   ·
    go_simp
    refine (few10_any (fun _ => True) (⟨ytos, yid, ydf, ymf, yoff, yttl, ypr, ysrc, ydst, yb⟩ : Pk) A' c' _ (RB.keep HPY.out (HX_wd.out.trans HX_wx1.out) (fun _ _ _ => id))).mono ?_
    rintro e wy1 ⟨yA, yc, rfl, ho, hx⟩
    have hfw : (⟨ytos, yid, ydf, ymf, yoff, yttl, ypr, ysrc, ydst, yb⟩ : Pk).few 2000 = (⟨ytos, yid, ydf, ymf, yoff, yttl, ypr, ysrc, ydst, yl⟩ : Pk) := by rw [HyL.out]; rfl
    rw [hfw] at ho ⊢
    have hv : pkv (⟨ytos, yid, ydf, ymf, yoff, yttl, ypr, ysrc, ydst, yl⟩ : Pk) (.slice (some yA) (⟨ytos, yid, ydf, ymf, yoff, yttl, ypr, ysrc, ydst, yl⟩ : Pk).b.length yc) = .agg #[.int .u8 ytos, .int .u16 yid, .bool ydf, .bool ymf, .int .i64 yoff, .int .u8 yttl, .int .u8 ypr, .int .u32 ysrc, .int .u32 ydst, .slice (some yA) yl.length yc] := rfl
    rw [hv]
    have hf : OB wy1 w4.heap.size (.slice (some yA) yl.length yc) yl := OB.mono ho (HX_wd.out.trans HX_wx1.out).size
    clear hv hfw ho
    have HX_wy1 := Lib.hid hx
    clear hx
    have HO_y := Lib.hid hf
    clear hf
    have hS_wy1 : Ex (fun _ => False) w4 wy1 := ((HX_wd.out.trans HX_wx1.out).trans HX_wy1.out)
    refine hK.out _ _ hS_wy1 (fun _ => ?_)
    refine wpAnyH_take (i := 4) (oi := { dst := some 30, op := .build 60 #[(0, .tmp 27), (1, .tmp 29)], type := 60, pos := "more.go:13", after := #[{ on := 1, ground := .data }, { on := 3, ground := .data }], guard := none }) (v := ?v3) rfl (by kernel_rfl) (by kernel_rfl) (by kernel_rfl) (fun _ _ _ h => h) (Or.inl ⟨by rfl, ?hy3⟩) (by assumption) ?rest3
    case hy3 => (intro w hSw; (try dsimp only at hSw); go_simp <;> with_reducible rfl)
    try simp only [Act.put, List.setIfInBounds_toArray, List.set_cons_zero, List.set_cons_succ]
    refine wpAnyH_ready (rs := [5]) (by kernel_rfl) (by simp) ?_
    refine AllReadyH.cons (o := { dst := some 10, op := .alloc 60, type := 0, pos := "more.go:13", after := #[], guard := none }) rfl (fun K hK => ?_) AllReadyH.nil
    go_simp
    have hx : Ex (fun _ => False) wy1 (wy1.alloc (.cells #[.int .u8 0, .int .u16 0, .bool false, .bool false, .int .i64 0, .int .u8 0, .int .u8 0, .int .u32 0, .int .u32 0, .slice none 0 0, .int .u8 0, .int .u16 0, .bool false, .bool false, .int .i64 0, .int .u8 0, .int .u8 0, .int .u32 0, .int .u32 0, .slice none 0 0] 60)) := (Ex.refl _ wy1).alloc _
    have hb : (wy1.alloc (.cells #[.int .u8 0, .int .u16 0, .bool false, .bool false, .int .i64 0, .int .u8 0, .int .u8 0, .int .u32 0, .int .u32 0, .slice none 0 0, .int .u8 0, .int .u16 0, .bool false, .bool false, .int .i64 0, .int .u8 0, .int .u8 0, .int .u32 0, .int .u32 0, .slice none 0 0] 60)).heap[wy1.heap.size]? = some (.cells #[.int .u8 0, .int .u16 0, .bool false, .bool false, .int .i64 0, .int .u8 0, .int .u8 0, .int .u32 0, .int .u32 0, .slice none 0 0, .int .u8 0, .int .u16 0, .bool false, .bool false, .int .i64 0, .int .u8 0, .int .u8 0, .int .u32 0, .int .u32 0, .slice none 0 0] 60) := heap_alloc_new wy1 _
    obtain ⟨b2, hb2⟩ : ∃ b2, b2 = wy1.heap.size := ⟨_, rfl⟩
    have hb_b2 : wy1.heap.size ≤ b2 := by omega
    rw [← hb2] at hb
    try simp only [← hb2]
    generalize wy1.alloc (.cells #[.int .u8 0, .int .u16 0, .bool false, .bool false, .int .i64 0, .int .u8 0, .int .u8 0, .int .u32 0, .int .u32 0, .slice none 0 0, .int .u8 0, .int .u16 0, .bool false, .bool false, .int .i64 0, .int .u8 0, .int .u8 0, .int .u32 0, .int .u32 0, .slice none 0 0] 60) = wb1 at hx hb ⊢
    clear hb2
    have HX_wb1 := Lib.hid hx
    clear hx
    have B_b2 := Lib.hid hb
    clear hb
    have hS_wb1 : Ex (fun _ => False) w4 wb1 := (((HX_wd.out.trans HX_wx1.out).trans HX_wy1.out).trans HX_wb1.out)
    refine hK.out _ _ hS_wb1 (fun _ => ?_)
    refine wpAnyH_ready (rs := [6]) (by kernel_rfl) (by simp) ?_
    refine AllReadyH.cons (o := { dst := none, op := .store 60 (.tmp 10) (.tmp 30), type := 0, pos := "more.go:13", after := #[{ on := 5, ground := .data }, { on := 4, ground := .data }, { on := 3, ground := .chain }, { on := 0, ground := .phase }, { on := 1, ground := .phase }, { on := 2, ground := .phase }, { on := 3, ground := .phase }, { on := 4, ground := .phase }, { on := 5, ground := .phase }], guard := none }) rfl (fun K hK => ?_) AllReadyH.nil
    replace HO_x := Lib.hid (OB.keep HO_x.out (HX_wy1.out.trans HX_wb1.out) (fun _ _ _ _ => id))
    replace HO_y := Lib.hid (OB.keep HO_y.out HX_wb1.out (fun _ _ _ _ => id))
    have HB2 := B_b2
    rw [if_pos (by simp [Region.wanted])]
    refine wp_store_row 60 (.tmp 10) (.tmp 30) rfl b2 #[.int .u8 xtos, .int .u16 xid, .bool xdf, .bool xmf, .int .i64 xoff, .int .u8 xttl, .int .u8 xpr, .int .u32 xsrc, .int .u32 xdst, .slice (some xA) xl.length xc, .int .u8 ytos, .int .u16 yid, .bool ydf, .bool ymf, .int .i64 yoff, .int .u8 yttl, .int .u8 ypr, .int .u32 ysrc, .int .u32 ydst, .slice (some yA) yl.length yc] rfl rfl 60 _ B_b2.out ta_size rfl (by simp [Value.oneCell']) ?_
    have hb := setRow_heap wb1 b2 _ #[.int .u8 xtos, .int .u16 xid, .bool xdf, .bool xmf, .int .i64 xoff, .int .u8 xttl, .int .u8 xpr, .int .u32 xsrc, .int .u32 xdst, .slice (some xA) xl.length xc, .int .u8 ytos, .int .u16 yid, .bool ydf, .bool ymf, .int .i64 yoff, .int .u8 yttl, .int .u8 ypr, .int .u32 ysrc, .int .u32 ydst, .slice (some yA) yl.length yc] 60 _ B_b2.out
    have hx : Ex (fun j => j = b2) wb1 (wb1.setRow b2 #[.int .u8 xtos, .int .u16 xid, .bool xdf, .bool xmf, .int .i64 xoff, .int .u8 xttl, .int .u8 xpr, .int .u32 xsrc, .int .u32 xdst, .slice (some xA) xl.length xc, .int .u8 ytos, .int .u16 yid, .bool ydf, .bool ymf, .int .i64 yoff, .int .u8 yttl, .int .u8 ypr, .int .u32 ysrc, .int .u32 ydst, .slice (some yA) yl.length yc]) := ⟨rfl, rfl, rfl, by simp [World.setRow], fun k _ hk => setRow_other _ _ _ _ hk⟩
    generalize wb1.setRow b2 #[.int .u8 xtos, .int .u16 xid, .bool xdf, .bool xmf, .int .i64 xoff, .int .u8 xttl, .int .u8 xpr, .int .u32 xsrc, .int .u32 xdst, .slice (some xA) xl.length xc, .int .u8 ytos, .int .u16 yid, .bool ydf, .bool ymf, .int .i64 yoff, .int .u8 yttl, .int .u8 ypr, .int .u32 ysrc, .int .u32 ydst, .slice (some yA) yl.length yc] = wst at hb hx ⊢
    replace B_b2 := Lib.hid hb
    clear hb
    have HX_wst := Lib.hid hx
    clear hx
    replace HO_x := Lib.hid (obkeepT HO_x.out HX_wst.out HB2.out (by decide))
    replace HO_y := Lib.hid (obkeepT HO_y.out HX_wst.out HB2.out (by decide))
    clear HB2
    have hS_wst : Ex (fun _ => False) w4 wst := ((((HX_wd.out.trans HX_wx1.out).trans HX_wy1.out).trans HX_wb1.out).andThen HX_wst.out (fun i hi e => by have := ((HX_wd.out.trans HX_wx1.out).trans HX_wy1.out).size; have := hb_b2; omega))
    refine hK.out _ _ hS_wst (fun _ => ?_)
    refine wpAnyH_done (by kernel_rfl) ?_ _
    have hlo : w4.heap.size ≤ b2 := Nat.le_trans ((HX_wd.out.trans HX_wx1.out).trans HX_wy1.out).size hb_b2
    go_wp2_with fail
    go_meet
    exact ⟨b2, xA, xc, yA, yc, rfl, B_b2, Lib.hid hlo, Lib.hid HO_x.out, Lib.hid HO_y.out, Lib.hid ((((HX_wd.out.trans HX_wx1.out).trans HX_wy1.out).trans HX_wb1.out).andThen HX_wst.out (fun i hi e => by have := ((HX_wd.out.trans HX_wx1.out).trans HX_wy1.out).size; have := hb_b2; omega))⟩
   refine AllReadyH.cons (o := { dst := some 10, op := .alloc 60, type := 0, pos := "more.go:13", after := #[], guard := none }) rfl (fun K hK => ?_) AllReadyH.nil
   go_simp
   have hx : Ex (fun _ => False) wx1 (wx1.alloc (.cells #[.int .u8 0, .int .u16 0, .bool false, .bool false, .int .i64 0, .int .u8 0, .int .u8 0, .int .u32 0, .int .u32 0, .slice none 0 0, .int .u8 0, .int .u16 0, .bool false, .bool false, .int .i64 0, .int .u8 0, .int .u8 0, .int .u32 0, .int .u32 0, .slice none 0 0] 60)) := (Ex.refl _ wx1).alloc _
   have hb : (wx1.alloc (.cells #[.int .u8 0, .int .u16 0, .bool false, .bool false, .int .i64 0, .int .u8 0, .int .u8 0, .int .u32 0, .int .u32 0, .slice none 0 0, .int .u8 0, .int .u16 0, .bool false, .bool false, .int .i64 0, .int .u8 0, .int .u8 0, .int .u32 0, .int .u32 0, .slice none 0 0] 60)).heap[wx1.heap.size]? = some (.cells #[.int .u8 0, .int .u16 0, .bool false, .bool false, .int .i64 0, .int .u8 0, .int .u8 0, .int .u32 0, .int .u32 0, .slice none 0 0, .int .u8 0, .int .u16 0, .bool false, .bool false, .int .i64 0, .int .u8 0, .int .u8 0, .int .u32 0, .int .u32 0, .slice none 0 0] 60) := heap_alloc_new wx1 _
   obtain ⟨b2, hb2⟩ : ∃ b2, b2 = wx1.heap.size := ⟨_, rfl⟩
   have hb_b2 : wx1.heap.size ≤ b2 := by omega
   rw [← hb2] at hb
   try simp only [← hb2]
   generalize wx1.alloc (.cells #[.int .u8 0, .int .u16 0, .bool false, .bool false, .int .i64 0, .int .u8 0, .int .u8 0, .int .u32 0, .int .u32 0, .slice none 0 0, .int .u8 0, .int .u16 0, .bool false, .bool false, .int .i64 0, .int .u8 0, .int .u8 0, .int .u32 0, .int .u32 0, .slice none 0 0] 60) = wb1 at hx hb ⊢
   clear hb2
   have HX_wb1 := Lib.hid hx
   clear hx
   have B_b2 := Lib.hid hb
   clear hb
   have hS_wb1 : Ex (fun _ => False) w4 wb1 := ((HX_wd.out.trans HX_wx1.out).trans HX_wb1.out)
   refine hK.out _ _ hS_wb1 (fun _ => ?_)
   refine wpAnyH_ready (rs := [3]) (by kernel_rfl) (by simp) ?_
   refine AllReadyH.cons (o := { dst := some 29, op := .call { callee := .value (.func 13), args := #[.tmp 28], argTypes := #[27] }, type := 27, pos := "more.go:13", after := #[{ on := 2, ground := .data }, { on := 1, ground := .chain }], guard := none }) rfl (fun K hK => ?_) AllReadyH.nil
   go_simp
   refine (few10_any (fun _ => True) (⟨ytos, yid, ydf, ymf, yoff, yttl, ypr, ysrc, ydst, yb⟩ : Pk) A' c' _ (RB.keep HPY.out ((HX_wd.out.trans HX_wx1.out).trans HX_wb1.out) (fun _ _ _ => id))).mono ?_
   rintro e wy1 ⟨yA, yc, rfl, ho, hx⟩
   have hfw : (⟨ytos, yid, ydf, ymf, yoff, yttl, ypr, ysrc, ydst, yb⟩ : Pk).few 2000 = (⟨ytos, yid, ydf, ymf, yoff, yttl, ypr, ysrc, ydst, yl⟩ : Pk) := by rw [HyL.out]; rfl
   rw [hfw] at ho ⊢
   have hv : pkv (⟨ytos, yid, ydf, ymf, yoff, yttl, ypr, ysrc, ydst, yl⟩ : Pk) (.slice (some yA) (⟨ytos, yid, ydf, ymf, yoff, yttl, ypr, ysrc, ydst, yl⟩ : Pk).b.length yc) = .agg #[.int .u8 ytos, .int .u16 yid, .bool ydf, .bool ymf, .int .i64 yoff, .int .u8 yttl, .int .u8 ypr, .int .u32 ysrc, .int .u32 ydst, .slice (some yA) yl.length yc] := rfl
   rw [hv]
   have hf : OB wy1 w4.heap.size (.slice (some yA) yl.length yc) yl := OB.mono ho ((HX_wd.out.trans HX_wx1.out).trans HX_wb1.out).size
   clear hv hfw ho
   have HX_wy1 := Lib.hid hx
   clear hx
   have HO_y := Lib.hid hf
   clear hf
   have hS_wy1 : Ex (fun _ => False) w4 wy1 := (((HX_wd.out.trans HX_wx1.out).trans HX_wb1.out).trans HX_wy1.out)
   refine hK.out _ _ hS_wy1 (fun _ => ?_)
   refine wpAnyH_take (i := 4) (oi := { dst := some 30, op := .build 60 #[(0, .tmp 27), (1, .tmp 29)], type := 60, pos := "more.go:13", after := #[{ on := 1, ground := .data }, { on := 3, ground := .data }], guard := none }) (v := ?v4) rfl (by kernel_rfl) (by kernel_rfl) (by kernel_rfl) (fun _ _ _ h => h) (Or.inl ⟨by rfl, ?hy4⟩) (by assumption) ?rest4
   case hy4 => (intro w hSw; (try dsimp only at hSw); go_simp <;> with_reducible rfl)
   try simp only [Act.put, List.setIfInBounds_toArray, List.set_cons_zero, List.set_cons_succ]
   refine wpAnyH_ready (rs := [6]) (by kernel_rfl) (by simp) ?_
   refine AllReadyH.cons (o := { dst := none, op := .store 60 (.tmp 10) (.tmp 30), type := 0, pos := "more.go:13", after := #[{ on := 5, ground := .data }, { on := 4, ground := .data }, { on := 3, ground := .chain }, { on := 0, ground := .phase }, { on := 1, ground := .phase }, { on := 2, ground := .phase }, { on := 3, ground := .phase }, { on := 4, ground := .phase }, { on := 5, ground := .phase }], guard := none }) rfl (fun K hK => ?_) AllReadyH.nil
   replace B_b2 := Lib.hid ((HX_wy1.out.block b2 (row_lt B_b2.out) id).trans B_b2.out)
   replace HO_x := Lib.hid (OB.keep HO_x.out (HX_wb1.out.trans HX_wy1.out) (fun _ _ _ _ => id))
   have HB2 := B_b2
   rw [if_pos (by simp [Region.wanted])]
   refine wp_store_row 60 (.tmp 10) (.tmp 30) rfl b2 #[.int .u8 xtos, .int .u16 xid, .bool xdf, .bool xmf, .int .i64 xoff, .int .u8 xttl, .int .u8 xpr, .int .u32 xsrc, .int .u32 xdst, .slice (some xA) xl.length xc, .int .u8 ytos, .int .u16 yid, .bool ydf, .bool ymf, .int .i64 yoff, .int .u8 yttl, .int .u8 ypr, .int .u32 ysrc, .int .u32 ydst, .slice (some yA) yl.length yc] rfl rfl 60 _ B_b2.out ta_size rfl (by simp [Value.oneCell']) ?_
   have hb := setRow_heap wy1 b2 _ #[.int .u8 xtos, .int .u16 xid, .bool xdf, .bool xmf, .int .i64 xoff, .int .u8 xttl, .int .u8 xpr, .int .u32 xsrc, .int .u32 xdst, .slice (some xA) xl.length xc, .int .u8 ytos, .int .u16 yid, .bool ydf, .bool ymf, .int .i64 yoff, .int .u8 yttl, .int .u8 ypr, .int .u32 ysrc, .int .u32 ydst, .slice (some yA) yl.length yc] 60 _ B_b2.out
   have hx : Ex (fun j => j = b2) wy1 (wy1.setRow b2 #[.int .u8 xtos, .int .u16 xid, .bool xdf, .bool xmf, .int .i64 xoff, .int .u8 xttl, .int .u8 xpr, .int .u32 xsrc, .int .u32 xdst, .slice (some xA) xl.length xc, .int .u8 ytos, .int .u16 yid, .bool ydf, .bool ymf, .int .i64 yoff, .int .u8 yttl, .int .u8 ypr, .int .u32 ysrc, .int .u32 ydst, .slice (some yA) yl.length yc]) := ⟨rfl, rfl, rfl, by simp [World.setRow], fun k _ hk => setRow_other _ _ _ _ hk⟩
   generalize wy1.setRow b2 #[.int .u8 xtos, .int .u16 xid, .bool xdf, .bool xmf, .int .i64 xoff, .int .u8 xttl, .int .u8 xpr, .int .u32 xsrc, .int .u32 xdst, .slice (some xA) xl.length xc, .int .u8 ytos, .int .u16 yid, .bool ydf, .bool ymf, .int .i64 yoff, .int .u8 yttl, .int .u8 ypr, .int .u32 ysrc, .int .u32 ydst, .slice (some yA) yl.length yc] = wst at hb hx ⊢
   replace B_b2 := Lib.hid hb
   clear hb
   have HX_wst := Lib.hid hx
   clear hx
   replace HO_x := Lib.hid (obkeepT HO_x.out HX_wst.out HB2.out (by decide))
   replace HO_y := Lib.hid (obkeepT HO_y.out HX_wst.out HB2.out (by decide))
   clear HB2
   have hS_wst : Ex (fun _ => False) w4 wst := ((((HX_wd.out.trans HX_wx1.out).trans HX_wb1.out).trans HX_wy1.out).andThen HX_wst.out (fun i hi e => by have := (HX_wd.out.trans HX_wx1.out).size; have := hb_b2; omega))
   refine hK.out _ _ hS_wst (fun _ => ?_)
   refine wpAnyH_done (by kernel_rfl) ?_ _
   have hlo : w4.heap.size ≤ b2 := Nat.le_trans (HX_wd.out.trans HX_wx1.out).size hb_b2
   go_wp2_with fail
   go_meet
   exact ⟨b2, xA, xc, yA, yc, rfl, B_b2, Lib.hid hlo, Lib.hid HO_x.out, Lib.hid HO_y.out, Lib.hid ((((HX_wd.out.trans HX_wx1.out).trans HX_wb1.out).trans HX_wy1.out).andThen HX_wst.out (fun i hi e => by have := (HX_wd.out.trans HX_wx1.out).size; have := hb_b2; omega))⟩
  refine AllReadyH.cons (o := { dst := some 10, op := .alloc 60, type := 0, pos := "more.go:13", after := #[], guard := none }) rfl (fun K hK => ?_) AllReadyH.nil
  go_simp
  have hx : Ex (fun _ => False) wd (wd.alloc (.cells #[.int .u8 0, .int .u16 0, .bool false, .bool false, .int .i64 0, .int .u8 0, .int .u8 0, .int .u32 0, .int .u32 0, .slice none 0 0, .int .u8 0, .int .u16 0, .bool false, .bool false, .int .i64 0, .int .u8 0, .int .u8 0, .int .u32 0, .int .u32 0, .slice none 0 0] 60)) := (Ex.refl _ wd).alloc _
  have hb : (wd.alloc (.cells #[.int .u8 0, .int .u16 0, .bool false, .bool false, .int .i64 0, .int .u8 0, .int .u8 0, .int .u32 0, .int .u32 0, .slice none 0 0, .int .u8 0, .int .u16 0, .bool false, .bool false, .int .i64 0, .int .u8 0, .int .u8 0, .int .u32 0, .int .u32 0, .slice none 0 0] 60)).heap[wd.heap.size]? = some (.cells #[.int .u8 0, .int .u16 0, .bool false, .bool false, .int .i64 0, .int .u8 0, .int .u8 0, .int .u32 0, .int .u32 0, .slice none 0 0, .int .u8 0, .int .u16 0, .bool false, .bool false, .int .i64 0, .int .u8 0, .int .u8 0, .int .u32 0, .int .u32 0, .slice none 0 0] 60) := heap_alloc_new wd _
  obtain ⟨b2, hb2⟩ : ∃ b2, b2 = wd.heap.size := ⟨_, rfl⟩
  have hb_b2 : wd.heap.size ≤ b2 := by omega
  rw [← hb2] at hb
  try simp only [← hb2]
  generalize wd.alloc (.cells #[.int .u8 0, .int .u16 0, .bool false, .bool false, .int .i64 0, .int .u8 0, .int .u8 0, .int .u32 0, .int .u32 0, .slice none 0 0, .int .u8 0, .int .u16 0, .bool false, .bool false, .int .i64 0, .int .u8 0, .int .u8 0, .int .u32 0, .int .u32 0, .slice none 0 0] 60) = wb1 at hx hb ⊢
  clear hb2
  have HX_wb1 := Lib.hid hx
  clear hx
  have B_b2 := Lib.hid hb
  clear hb
  have hS_wb1 : Ex (fun _ => False) w4 wb1 := (HX_wd.out.trans HX_wb1.out)
  refine hK.out _ _ hS_wb1 (fun _ => ?_)
  refine wpAnyH_ready (rs := [1]) (by kernel_rfl) (by simp) ?_
  refine AllReadyH.cons (o := { dst := some 27, op := .call { callee := .value (.func 13), args := #[.tmp 26], argTypes := #[27] }, type := 27, pos := "more.go:13", after := #[{ on := 0, ground := .data }], guard := none }) rfl (fun K hK => ?_) AllReadyH.nil
  go_simp
  refine (few10_any (fun _ => True) (⟨xtos, xid, xdf, xmf, xoff, xttl, xpr, xsrc, xdst, xb⟩ : Pk) A c _ (RB.keep HPX.out (HX_wd.out.trans HX_wb1.out) (fun _ _ _ => id))).mono ?_
  rintro e wx1 ⟨xA, xc, rfl, ho, hx⟩
  have hfw : (⟨xtos, xid, xdf, xmf, xoff, xttl, xpr, xsrc, xdst, xb⟩ : Pk).few 2000 = (⟨xtos, xid, xdf, xmf, xoff, xttl, xpr, xsrc, xdst, xl⟩ : Pk) := by rw [HxL.out]; rfl
  rw [hfw] at ho ⊢
  have hv : pkv (⟨xtos, xid, xdf, xmf, xoff, xttl, xpr, xsrc, xdst, xl⟩ : Pk) (.slice (some xA) (⟨xtos, xid, xdf, xmf, xoff, xttl, xpr, xsrc, xdst, xl⟩ : Pk).b.length xc) = .agg #[.int .u8 xtos, .int .u16 xid, .bool xdf, .bool xmf, .int .i64 xoff, .int .u8 xttl, .int .u8 xpr, .int .u32 xsrc, .int .u32 xdst, .slice (some xA) xl.length xc] := rfl
  rw [hv]
  have hf : OB wx1 w4.heap.size (.slice (some xA) xl.length xc) xl := OB.mono ho (HX_wd.out.trans HX_wb1.out).size
  clear hv hfw ho
  have HX_wx1 := Lib.hid hx
  clear hx
  have HO_x := Lib.hid hf
  clear hf
  have hS_wx1 : Ex (fun _ => False) w4 wx1 := ((HX_wd.out.trans HX_wb1.out).trans HX_wx1.out)
  refine hK.out _ _ hS_wx1 (fun _ => ?_)
  refine wpAnyH_ready (rs := [3]) (by kernel_rfl) (by simp) ?_
  refine AllReadyH.cons (o := { dst := some 29, op := .call { callee := .value (.func 13), args := #[.tmp 28], argTypes := #[27] }, type := 27, pos := "more.go:13", after := #[{ on := 2, ground := .data }, { on := 1, ground := .chain }], guard := none }) rfl (fun K hK => ?_) AllReadyH.nil
  go_simp
  refine (few10_any (fun _ => True) (⟨ytos, yid, ydf, ymf, yoff, yttl, ypr, ysrc, ydst, yb⟩ : Pk) A' c' _ (RB.keep HPY.out ((HX_wd.out.trans HX_wb1.out).trans HX_wx1.out) (fun _ _ _ => id))).mono ?_
  rintro e wy1 ⟨yA, yc, rfl, ho, hx⟩
  have hfw : (⟨ytos, yid, ydf, ymf, yoff, yttl, ypr, ysrc, ydst, yb⟩ : Pk).few 2000 = (⟨ytos, yid, ydf, ymf, yoff, yttl, ypr, ysrc, ydst, yl⟩ : Pk) := by rw [HyL.out]; rfl
  rw [hfw] at ho ⊢
  have hv : pkv (⟨ytos, yid, ydf, ymf, yoff, yttl, ypr, ysrc, ydst, yl⟩ : Pk) (.slice (some yA) (⟨ytos, yid, ydf, ymf, yoff, yttl, ypr, ysrc, ydst, yl⟩ : Pk).b.length yc) = .agg #[.int .u8 ytos, .int .u16 yid, .bool ydf, .bool ymf, .int .i64 yoff, .int .u8 yttl, .int .u8 ypr, .int .u32 ysrc, .int .u32 ydst, .slice (some yA) yl.length yc] := rfl
  rw [hv]
  have hf : OB wy1 w4.heap.size (.slice (some yA) yl.length yc) yl := OB.mono ho ((HX_wd.out.trans HX_wb1.out).trans HX_wx1.out).size
  clear hv hfw ho
  have HX_wy1 := Lib.hid hx
  clear hx
  have HO_y := Lib.hid hf
  clear hf
  have hS_wy1 : Ex (fun _ => False) w4 wy1 := (((HX_wd.out.trans HX_wb1.out).trans HX_wx1.out).trans HX_wy1.out)
  refine hK.out _ _ hS_wy1 (fun _ => ?_)
  refine wpAnyH_take (i := 4) (oi := { dst := some 30, op := .build 60 #[(0, .tmp 27), (1, .tmp 29)], type := 60, pos := "more.go:13", after := #[{ on := 1, ground := .data }, { on := 3, ground := .data }], guard := none }) (v := ?v5) rfl (by kernel_rfl) (by kernel_rfl) (by kernel_rfl) (fun _ _ _ h => h) (Or.inl ⟨by rfl, ?hy5⟩) (by assumption) ?rest5
  case hy5 => (intro w hSw; (try dsimp only at hSw); go_simp <;> with_reducible rfl)
  try simp only [Act.put, List.setIfInBounds_toArray, List.set_cons_zero, List.set_cons_succ]
  refine wpAnyH_ready (rs := [6]) (by kernel_rfl) (by simp) ?_
  refine AllReadyH.cons (o := { dst := none, op := .store 60 (.tmp 10) (.tmp 30), type := 0, pos := "more.go:13", after := #[{ on := 5, ground := .data }, { on := 4, ground := .data }, { on := 3, ground := .chain }, { on := 0, ground := .phase }, { on := 1, ground := .phase }, { on := 2, ground := .phase }, { on := 3, ground := .phase }, { on := 4, ground := .phase }, { on := 5, ground := .phase }], guard := none }) rfl (fun K hK => ?_) AllReadyH.nil
  replace B_b2 := Lib.hid (((HX_wx1.out.trans HX_wy1.out).block b2 (row_lt B_b2.out) id).trans B_b2.out)
  replace HO_x := Lib.hid (OB.keep HO_x.out HX_wy1.out (fun _ _ _ _ => id))
  have HB2 := B_b2
  rw [if_pos (by simp [Region.wanted])]
  refine wp_store_row 60 (.tmp 10) (.tmp 30) rfl b2 #[.int .u8 xtos, .int .u16 xid, .bool xdf, .bool xmf, .int .i64 xoff, .int .u8 xttl, .int .u8 xpr, .int .u32 xsrc, .int .u32 xdst, .slice (some xA) xl.length xc, .int .u8 ytos, .int .u16 yid, .bool ydf, .bool ymf, .int .i64 yoff, .int .u8 yttl, .int .u8 ypr, .int .u32 ysrc, .int .u32 ydst, .slice (some yA) yl.length yc] rfl rfl 60 _ B_b2.out ta_size rfl (by simp [Value.oneCell']) ?_
  have hb := setRow_heap wy1 b2 _ #[.int .u8 xtos, .int .u16 xid, .bool xdf, .bool xmf, .int .i64 xoff, .int .u8 xttl, .int .u8 xpr, .int .u32 xsrc, .int .u32 xdst, .slice (some xA) xl.length xc, .int .u8 ytos, .int .u16 yid, .bool ydf, .bool ymf, .int .i64 yoff, .int .u8 yttl, .int .u8 ypr, .int .u32 ysrc, .int .u32 ydst, .slice (some yA) yl.length yc] 60 _ B_b2.out
  have hx : Ex (fun j => j = b2) wy1 (wy1.setRow b2 #[.int .u8 xtos, .int .u16 xid, .bool xdf, .bool xmf, .int .i64 xoff, .int .u8 xttl, .int .u8 xpr, .int .u32 xsrc, .int .u32 xdst, .slice (some xA) xl.length xc, .int .u8 ytos, .int .u16 yid, .bool ydf, .bool ymf, .int .i64 yoff, .int .u8 yttl, .int .u8 ypr, .int .u32 ysrc, .int .u32 ydst, .slice (some yA) yl.length yc]) := ⟨rfl, rfl, rfl, by simp [World.setRow], fun k _ hk => setRow_other _ _ _ _ hk⟩
  generalize wy1.setRow b2 #[.int .u8 xtos, .int .u16 xid, .bool xdf, .bool xmf, .int .i64 xoff, .int .u8 xttl, .int .u8 xpr, .int .u32 xsrc, .int .u32 xdst, .slice (some xA) xl.length xc, .int .u8 ytos, .int .u16 yid, .bool ydf, .bool ymf, .int .i64 yoff, .int .u8 yttl, .int .u8 ypr, .int .u32 ysrc, .int .u32 ydst, .slice (some yA) yl.length yc] = wst at hb hx ⊢
  replace B_b2 := Lib.hid hb
  clear hb
  have HX_wst := Lib.hid hx
  clear hx
  replace HO_x := Lib.hid (obkeepT HO_x.out HX_wst.out HB2.out (by decide))
  replace HO_y := Lib.hid (obkeepT HO_y.out HX_wst.out HB2.out (by decide))
  clear HB2
  have hS_wst : Ex (fun _ => False) w4 wst := ((((HX_wd.out.trans HX_wb1.out).trans HX_wx1.out).trans HX_wy1.out).andThen HX_wst.out (fun i hi e => by have := HX_wd.out.size; have := hb_b2; omega))
  refine hK.out _ _ hS_wst (fun _ => ?_)
  refine wpAnyH_done (by kernel_rfl) ?_ _
  have hlo : w4.heap.size ≤ b2 := Nat.le_trans HX_wd.out.size hb_b2
  go_wp2_with fail
  go_meet
  exact ⟨b2, xA, xc, yA, yc, rfl, B_b2, Lib.hid hlo, Lib.hid HO_x.out, Lib.hid HO_y.out, Lib.hid ((((HX_wd.out.trans HX_wb1.out).trans HX_wx1.out).trans HX_wy1.out).andThen HX_wst.out (fun i hi e => by have := HX_wd.out.size; have := hb_b2; omega))⟩
 case rest =>
  obtain ⟨b2, xA, xc, yA, yc, rfl, B_b2, HLO, HO_x, HO_y, HXC⟩ := hcut
  have HOKX : Hid ((⟨xtos, 0, false, false, 0, xttl, xpr, xsrc, xdst, xl⟩ : Pk).ok) := ⟨OKP.out.1, ⟨by show (0 : Int) ≤ 0; decide, by show (0 : Int) ≤ 65535; decide⟩, ⟨by show (-9223372036854775808 : Int) ≤ 0; decide, by show (0 : Int) ≤ 9223372036854775807; decide⟩, OKP.out.2.2.2⟩
  have HOKY : Hid ((⟨ytos, 1, false, false, 0, yttl, ypr, ysrc, ydst, yl⟩ : Pk).ok) := ⟨OKQ.out.1, ⟨by show (0 : Int) ≤ 1; decide, by show (1 : Int) ≤ 65535; decide⟩, ⟨by show (-9223372036854775808 : Int) ≤ 0; decide, by show (0 : Int) ≤ 9223372036854775807; decide⟩, OKQ.out.2.2.2⟩
  have HRX : Hid ((⟨xtos, 0, false, false, 0, xttl, xpr, xsrc, xdst, xl⟩ : Pk).right = 0) := pkright rfl rfl HXN.out
  have HRY : Hid ((⟨ytos, 1, false, false, 0, yttl, ypr, ysrc, ydst, yl⟩ : Pk).right = 0) := pkright rfl rfl HYN.out
  have HKB : Hid (kb (⟨xtos, 0, false, false, 0, xttl, xpr, xsrc, xdst, xl⟩ : Pk) ≠ kb (⟨ytos, 1, false, false, 0, yttl, ypr, ysrc, ydst, yl⟩ : Pk)) := two_ne HOKX.out HOKY.out rfl rfl
  clear cbp0 cbp1 cbp2 cbp3 cbp4 cbp5 cbp6 cbp7 cbp8 cbp9 cbq0 cbq1 cbq2 cbq3 cbq4 cbq5 cbq6 cbq7 cbq8 cbq9
  have HB2C := B_b2
  go_upto_region 5 with fail
  have hx : Ex (fun _ => False) wc (wc.alloc (.cells #[.slice none 0 0, .slice none 0 0] 61)) := (Ex.refl _ wc).alloc _
  have hb : (wc.alloc (.cells #[.slice none 0 0, .slice none 0 0] 61)).heap[wc.heap.size]? = some (.cells #[.slice none 0 0, .slice none 0 0] 61) := heap_alloc_new wc _
  obtain ⟨b3, hb3⟩ : ∃ b3, b3 = wc.heap.size := ⟨_, rfl⟩
  have hb_b3 : wc.heap.size ≤ b3 := by omega
  rw [← hb3] at hb
  try simp only [← hb3]
  generalize wc.alloc (.cells #[.slice none 0 0, .slice none 0 0] 61) = wp at hx hb ⊢
  clear hb3
  have HX_wp := Lib.hid hx
  clear hx
  have B_b3 := Lib.hid hb
  clear hb
  replace B_b2 := Lib.hid ((HX_wp.out.block b2 (row_lt B_b2.out) id).trans B_b2.out)
  replace HO_x := Lib.hid (OB.keep HO_x.out HX_wp.out (fun _ _ _ _ => id))
  replace HO_y := Lib.hid (OB.keep HO_y.out HX_wp.out (fun _ _ _ _ => id))
  have HXP := Lib.hid (HXC.out.trans HX_wp.out)
  have hb23 := row_lt (show wc.heap[b2]? = _ from HB2C.out)
  have HB23 := Lib.hid (show b2 < b3 by omega)
  have HB3L := Lib.hid (show w4.heap.size ≤ b3 by have := HXC.out.size; omega)
  have HB2L := Lib.hid HLO.out
  have HB3W := Lib.hid (row_lt B_b3.out)
  clear hb23
  go_wp2_with fail
  go_loopg [12, 13, 14] 2 (fun kx s12 _ _ wr => (s12 = .int .i64 0 ∧ 2 ≤ kx ∧ Hid (wp = wr)) ∨ (s12 = .int .i64 1 ∧ 1 ≤ kx ∧ (∃ (g0 c0 z0 n0 B0 : Nat) (os0 : List Po), Hid (wr.heap[b2]? = some (.cells #[.int .u8 xtos, .int .u16 0, .bool false, .bool false, .int .i64 0, .int .u8 xttl, .int .u8 xpr, .int .u32 xsrc, .int .u32 xdst, .slice (some xA) xl.length xc, .int .u8 ytos, .int .u16 yid, .bool ydf, .bool ymf, .int .i64 yoff, .int .u8 yttl, .int .u8 ypr, .int .u32 ysrc, .int .u32 ydst, .slice (some yA) yl.length yc] 60)) ∧ Hid (wr.heap[b3]? = some (.cells #[.slice (some ⟨g0, 0, none⟩) n0 c0, .slice none 0 0] 61)) ∧ Hid (PL wr B0 (⟨xtos, 0, false, false, 0, xttl, xpr, xsrc, xdst, xl⟩ : Pk) M z0 n0 g0 c0 os0) ∧ Hid (1 ≤ n0 ∧ n0 ≤ 42) ∧ Hid (b3 < B0) ∧ Hid (OB wr w4.heap.size (.slice (some xA) xl.length xc) xl) ∧ Hid (OB wr w4.heap.size (.slice (some yA) yl.length yc) yl) ∧ Hid (Ex (fun _ => False) w4 wr))) ∨ (s12 = .int .i64 2 ∧ (∃ (g0 c0 z0 n0 B0 : Nat) (os0 : List Po) (g1 c1 z1 n1 B1 : Nat) (os1 : List Po), Hid (wr.heap[b2]? = some (.cells #[.int .u8 xtos, .int .u16 0, .bool false, .bool false, .int .i64 0, .int .u8 xttl, .int .u8 xpr, .int .u32 xsrc, .int .u32 xdst, .slice (some xA) xl.length xc, .int .u8 ytos, .int .u16 1, .bool false, .bool false, .int .i64 0, .int .u8 yttl, .int .u8 ypr, .int .u32 ysrc, .int .u32 ydst, .slice (some yA) yl.length yc] 60)) ∧ Hid (wr.heap[b3]? = some (.cells #[.slice (some ⟨g0, 0, none⟩) n0 c0, .slice (some ⟨g1, 0, none⟩) n1 c1] 61)) ∧ Hid (PL wr B0 (⟨xtos, 0, false, false, 0, xttl, xpr, xsrc, xdst, xl⟩ : Pk) M z0 n0 g0 c0 os0) ∧ Hid (1 ≤ n0 ∧ n0 ≤ 42) ∧ Hid (b3 < B0) ∧ Hid (PL wr B1 (⟨ytos, 1, false, false, 0, yttl, ypr, ysrc, ydst, yl⟩ : Pk) M z1 n1 g1 c1 os1) ∧ Hid (1 ≤ n1 ∧ n1 ≤ 42) ∧ Hid (b3 < B1) ∧ Hid (OB wr w4.heap.size (.slice (some xA) xl.length xc) xl) ∧ Hid (OB wr w4.heap.size (.slice (some yA) yl.length yc) yl) ∧ Hid (Ex (fun _ => False) w4 wr))))
  case atStart => exact .inl ⟨rfl, Nat.le_refl _, (rfl : wp = wp)⟩
  case round =>
   rcases hrel with ⟨rfl, hkx, hwr⟩ | ⟨rfl, hkx, g0, c0, z0, n0, B0, os0, B_b2, B_b3, HPL0, HN0, HB0, HO_x, HO_y, HXR⟩ | ⟨rfl, g0, c0, z0, n0, B0, os0, g1, c1, z1, n1, B1, os1, B_b2, B_b3, HPL0, HN0, HB0, HPL1, HN1, HB1, HO_x, HO_y, HXR⟩
   ·
    obtain rfl : wp = wr := hwr.out
    have HXR := HXP
    have ne_b2_b3 : b2 ≠ b3 := Nat.ne_of_lt HB23.out
    have cb24 := row_cell (k := 4) (v := .int .i64 xoff) B_b2.out rfl
    have fb24 := row_frozen B_b2.out 4
    have HBT := B_b2
    go_upto_region 9 with fail
    have hb : (wp.setCell ⟨b2, 4, none⟩ (.int .i64 0)).heap[b2]? = some (.cells #[.int .u8 xtos, .int .u16 xid, .bool xdf, .bool xmf, .int .i64 0, .int .u8 xttl, .int .u8 xpr, .int .u32 xsrc, .int .u32 xdst, .slice (some xA) xl.length xc, .int .u8 ytos, .int .u16 yid, .bool ydf, .bool ymf, .int .i64 yoff, .int .u8 yttl, .int .u8 ypr, .int .u32 ysrc, .int .u32 ydst, .slice (some yA) yl.length yc] 60) := (row_set B_b2.out 4 (.int .i64 0))
    have hx : Ex (fun j => j = b2) wp (wp.setCell ⟨b2, 4, none⟩ (.int .i64 0)) := ((Ex.refl (fun j => j = b2) wp).setCell (p := ⟨b2, 4, none⟩) (.inl rfl) (.int .i64 0))
    clear cb24 fb24
    generalize (wp.setCell ⟨b2, 4, none⟩ (.int .i64 0)) = v00 at hx hb ⊢
    clear B_b2
    have HX_v00 := Lib.hid hx
    clear hx
    have B_b2 := Lib.hid hb
    clear hb
    replace HO_x := Lib.hid (obkeepT HO_x.out HX_v00.out HBT.out (by decide))
    replace HO_y := Lib.hid (obkeepT HO_y.out HX_v00.out HBT.out (by decide))
    clear HBT
    have cb23 := row_cell (k := 3) (v := .bool xmf) B_b2.out rfl
    have fb23 := row_frozen B_b2.out 3
    have HBT := B_b2
    go_upto_region 10 with fail
    have hb : (v00.setCell ⟨b2, 3, none⟩ (.bool false)).heap[b2]? = some (.cells #[.int .u8 xtos, .int .u16 xid, .bool xdf, .bool false, .int .i64 0, .int .u8 xttl, .int .u8 xpr, .int .u32 xsrc, .int .u32 xdst, .slice (some xA) xl.length xc, .int .u8 ytos, .int .u16 yid, .bool ydf, .bool ymf, .int .i64 yoff, .int .u8 yttl, .int .u8 ypr, .int .u32 ysrc, .int .u32 ydst, .slice (some yA) yl.length yc] 60) := (row_set B_b2.out 3 (.bool false))
    have hx : Ex (fun j => j = b2) v00 (v00.setCell ⟨b2, 3, none⟩ (.bool false)) := ((Ex.refl (fun j => j = b2) v00).setCell (p := ⟨b2, 3, none⟩) (.inl rfl) (.bool false))
    clear cb23 fb23
    generalize (v00.setCell ⟨b2, 3, none⟩ (.bool false)) = v01 at hx hb ⊢
    clear B_b2
    have HX_v01 := Lib.hid hx
    clear hx
    have B_b2 := Lib.hid hb
    clear hb
    replace HO_x := Lib.hid (obkeepT HO_x.out HX_v01.out HBT.out (by decide))
    replace HO_y := Lib.hid (obkeepT HO_y.out HX_v01.out HBT.out (by decide))
    clear HBT
    have cb22 := row_cell (k := 2) (v := .bool xdf) B_b2.out rfl
    have fb22 := row_frozen B_b2.out 2
    have HBT := B_b2
    go_upto_region 11 with fail
    have hb : (v01.setCell ⟨b2, 2, none⟩ (.bool false)).heap[b2]? = some (.cells #[.int .u8 xtos, .int .u16 xid, .bool false, .bool false, .int .i64 0, .int .u8 xttl, .int .u8 xpr, .int .u32 xsrc, .int .u32 xdst, .slice (some xA) xl.length xc, .int .u8 ytos, .int .u16 yid, .bool ydf, .bool ymf, .int .i64 yoff, .int .u8 yttl, .int .u8 ypr, .int .u32 ysrc, .int .u32 ydst, .slice (some yA) yl.length yc] 60) := (row_set B_b2.out 2 (.bool false))
    have hx : Ex (fun j => j = b2) v01 (v01.setCell ⟨b2, 2, none⟩ (.bool false)) := ((Ex.refl (fun j => j = b2) v01).setCell (p := ⟨b2, 2, none⟩) (.inl rfl) (.bool false))
    clear cb22 fb22
    generalize (v01.setCell ⟨b2, 2, none⟩ (.bool false)) = v02 at hx hb ⊢
    clear B_b2
    have HX_v02 := Lib.hid hx
    clear hx
    have B_b2 := Lib.hid hb
    clear hb
    replace HO_x := Lib.hid (obkeepT HO_x.out HX_v02.out HBT.out (by decide))
    replace HO_y := Lib.hid (obkeepT HO_y.out HX_v02.out HBT.out (by decide))
    clear HBT
    have cb21 := row_cell (k := 1) (v := .int .u16 xid) B_b2.out rfl
    have fb21 := row_frozen B_b2.out 1
    have hu16 : IntKind.u16.wrap 0 = 0 := by decide
    have HBT := B_b2
    go_upto_region 12 with fail
    clear hu16
    have hb : (v02.setCell ⟨b2, 1, none⟩ (.int .u16 0)).heap[b2]? = some (.cells #[.int .u8 xtos, .int .u16 0, .bool false, .bool false, .int .i64 0, .int .u8 xttl, .int .u8 xpr, .int .u32 xsrc, .int .u32 xdst, .slice (some xA) xl.length xc, .int .u8 ytos, .int .u16 yid, .bool ydf, .bool ymf, .int .i64 yoff, .int .u8 yttl, .int .u8 ypr, .int .u32 ysrc, .int .u32 ydst, .slice (some yA) yl.length yc] 60) := (row_set B_b2.out 1 (.int .u16 0))
    have hx : Ex (fun j => j = b2) v02 (v02.setCell ⟨b2, 1, none⟩ (.int .u16 0)) := ((Ex.refl (fun j => j = b2) v02).setCell (p := ⟨b2, 1, none⟩) (.inl rfl) (.int .u16 0))
    clear cb21 fb21
    generalize (v02.setCell ⟨b2, 1, none⟩ (.int .u16 0)) = v03 at hx hb ⊢
    clear B_b2
    have HX_v03 := Lib.hid hx
    clear hx
    have B_b2 := Lib.hid hb
    clear hb
    replace HO_x := Lib.hid (obkeepT HO_x.out HX_v03.out HBT.out (by decide))
    replace HO_y := Lib.hid (obkeepT HO_y.out HX_v03.out HBT.out (by decide))
    clear HBT
    have cb20 := row_cell (k := 0) (v := .int .u8 xtos) B_b2.out rfl
    have cb21 := row_cell (k := 1) (v := .int .u16 0) B_b2.out rfl
    have cb22 := row_cell (k := 2) (v := .bool false) B_b2.out rfl
    have cb23 := row_cell (k := 3) (v := .bool false) B_b2.out rfl
    have cb24 := row_cell (k := 4) (v := .int .i64 0) B_b2.out rfl
    have cb25 := row_cell (k := 5) (v := .int .u8 xttl) B_b2.out rfl
    have cb26 := row_cell (k := 6) (v := .int .u8 xpr) B_b2.out rfl
    have cb27 := row_cell (k := 7) (v := .int .u32 xsrc) B_b2.out rfl
    have cb28 := row_cell (k := 8) (v := .int .u32 xdst) B_b2.out rfl
    have cb29 := row_cell (k := 9) (v := .slice (some xA) xl.length xc) B_b2.out rfl
    replace B_b3 := Lib.hid ((HX_v03.out.block b3 (row_lt ((HX_v02.out.block b3 (row_lt ((HX_v01.out.block b3 (row_lt ((HX_v00.out.block b3 (row_lt B_b3.out) ne_b2_b3.symm).trans B_b3.out)) ne_b2_b3.symm).trans ((HX_v00.out.block b3 (row_lt B_b3.out) ne_b2_b3.symm).trans B_b3.out))) ne_b2_b3.symm).trans ((HX_v01.out.block b3 (row_lt ((HX_v00.out.block b3 (row_lt B_b3.out) ne_b2_b3.symm).trans B_b3.out)) ne_b2_b3.symm).trans ((HX_v00.out.block b3 (row_lt B_b3.out) ne_b2_b3.symm).trans B_b3.out)))) ne_b2_b3.symm).trans ((HX_v02.out.block b3 (row_lt ((HX_v01.out.block b3 (row_lt ((HX_v00.out.block b3 (row_lt B_b3.out) ne_b2_b3.symm).trans B_b3.out)) ne_b2_b3.symm).trans ((HX_v00.out.block b3 (row_lt B_b3.out) ne_b2_b3.symm).trans B_b3.out))) ne_b2_b3.symm).trans ((HX_v01.out.block b3 (row_lt ((HX_v00.out.block b3 (row_lt B_b3.out) ne_b2_b3.symm).trans B_b3.out)) ne_b2_b3.symm).trans ((HX_v00.out.block b3 (row_lt B_b3.out) ne_b2_b3.symm).trans B_b3.out))))
    go_wp2_with fail
    refine (split_pl _ (⟨xtos, 0, false, false, 0, xttl, xpr, xsrc, xdst, xl⟩ : Pk) (some xA) xc M v03 HO_x.out.rb (fun h => by cases h) HXN.out (spe_good HM68.out HRX.out rfl)).mono ?_
    rintro e vs ⟨g, c5, z, n, os, rfl, hpl, hn42, hgb, hx⟩
    have HPLN := Lib.hid hpl
    have HNN := Lib.hid hn42
    have HBN := Lib.hid (show b3 < v03.heap.size from row_lt B_b3.out)
    clear hpl hn42 hgb cb20 cb21 cb22 cb23 cb24 cb25 cb26 cb27 cb28 cb29
    have HX_vs := Lib.hid hx
    clear hx
    replace B_b3 := Lib.hid ((HX_vs.out.block b3 (row_lt B_b3.out) id).trans B_b3.out)
    replace B_b2 := Lib.hid ((HX_vs.out.block b2 (row_lt B_b2.out) id).trans B_b2.out)
    replace HO_x := Lib.hid (OB.keep HO_x.out HX_vs.out (fun _ _ _ _ => id))
    replace HO_y := Lib.hid (OB.keep HO_y.out HX_vs.out (fun _ _ _ _ => id))
    have cb30 := row_cell (k := 0) (v := .slice none 0 0) B_b3.out rfl
    have fb30 := row_frozen B_b3.out 0
    have HBT := B_b3
    go_upto_region 7 with fail
    have hb : (vs.setCell ⟨b3, 0, none⟩ (.slice (some ⟨g, 0, none⟩) n c5)).heap[b3]? = some (.cells #[.slice (some ⟨g, 0, none⟩) n c5, .slice none 0 0] 61) := (row_set B_b3.out 0 (.slice (some ⟨g, 0, none⟩) n c5))
    have hx : Ex (fun j => j = b3) vs (vs.setCell ⟨b3, 0, none⟩ (.slice (some ⟨g, 0, none⟩) n c5)) := ((Ex.refl (fun j => j = b3) vs).setCell (p := ⟨b3, 0, none⟩) (.inl rfl) (.slice (some ⟨g, 0, none⟩) n c5))
    clear cb30 fb30
    generalize (vs.setCell ⟨b3, 0, none⟩ (.slice (some ⟨g, 0, none⟩) n c5)) = vt at hx hb ⊢
    clear B_b3
    have HX_vt := Lib.hid hx
    clear hx
    have B_b3 := Lib.hid hb
    clear hb
    replace HO_x := Lib.hid (obkeepT HO_x.out HX_vt.out HBT.out (by decide))
    replace HO_y := Lib.hid (obkeepT HO_y.out HX_vt.out HBT.out (by decide))
    replace B_b2 := Lib.hid ((HX_vt.out.block b2 (row_lt B_b2.out) ne_b2_b3).trans B_b2.out)
    replace HPLN := Lib.hid (HPLN.out.keepS HX_vt.out (fun k h1 _ e => by have e : k = b3 := e; have h3 := HBN.out; omega))
    have HXT : Hid (Ex (fun _ => False) w4 vt) := ((HXR.out.andThen (HX_v00.out.trans (HX_v01.out.trans (HX_v02.out.trans HX_v03.out))) (fun k h1 e => by have e : k = b2 := e; have h3 := HB2L.out; omega)).trans HX_vs.out).andThen HX_vt.out (fun k h1 e => by have e : k = b3 := e; have h3 := HB3L.out; omega)
    go_wp2_with fail
    go_roundg 1
    case measure => omega
    case rel => exact .inr (.inl ⟨by first | rfl | decide, Nat.le_refl _, g, c5, z, n, _, os, B_b2, B_b3, HPLN, HNN, HBN, HO_x, HO_y, HXT⟩)
   ·
    have ne_b2_b3 : b2 ≠ b3 := Nat.ne_of_lt HB23.out
    have cb214 := row_cell (k := 14) (v := .int .i64 yoff) B_b2.out rfl
    have fb214 := row_frozen B_b2.out 14
    have HBT := B_b2
    go_upto_region 9 with fail
    have hb : (wr.setCell ⟨b2, 14, none⟩ (.int .i64 0)).heap[b2]? = some (.cells #[.int .u8 xtos, .int .u16 0, .bool false, .bool false, .int .i64 0, .int .u8 xttl, .int .u8 xpr, .int .u32 xsrc, .int .u32 xdst, .slice (some xA) xl.length xc, .int .u8 ytos, .int .u16 yid, .bool ydf, .bool ymf, .int .i64 0, .int .u8 yttl, .int .u8 ypr, .int .u32 ysrc, .int .u32 ydst, .slice (some yA) yl.length yc] 60) := (row_set B_b2.out 14 (.int .i64 0))
    have hx : Ex (fun j => j = b2) wr (wr.setCell ⟨b2, 14, none⟩ (.int .i64 0)) := ((Ex.refl (fun j => j = b2) wr).setCell (p := ⟨b2, 14, none⟩) (.inl rfl) (.int .i64 0))
    clear cb214 fb214
    generalize (wr.setCell ⟨b2, 14, none⟩ (.int .i64 0)) = v10 at hx hb ⊢
    clear B_b2
    have HX_v10 := Lib.hid hx
    clear hx
    have B_b2 := Lib.hid hb
    clear hb
    replace HO_x := Lib.hid (obkeepT HO_x.out HX_v10.out HBT.out (by decide))
    replace HO_y := Lib.hid (obkeepT HO_y.out HX_v10.out HBT.out (by decide))
    clear HBT
    have cb213 := row_cell (k := 13) (v := .bool ymf) B_b2.out rfl
    have fb213 := row_frozen B_b2.out 13
    have HBT := B_b2
    go_upto_region 10 with fail
    have hb : (v10.setCell ⟨b2, 13, none⟩ (.bool false)).heap[b2]? = some (.cells #[.int .u8 xtos, .int .u16 0, .bool false, .bool false, .int .i64 0, .int .u8 xttl, .int .u8 xpr, .int .u32 xsrc, .int .u32 xdst, .slice (some xA) xl.length xc, .int .u8 ytos, .int .u16 yid, .bool ydf, .bool false, .int .i64 0, .int .u8 yttl, .int .u8 ypr, .int .u32 ysrc, .int .u32 ydst, .slice (some yA) yl.length yc] 60) := (row_set B_b2.out 13 (.bool false))
    have hx : Ex (fun j => j = b2) v10 (v10.setCell ⟨b2, 13, none⟩ (.bool false)) := ((Ex.refl (fun j => j = b2) v10).setCell (p := ⟨b2, 13, none⟩) (.inl rfl) (.bool false))
    clear cb213 fb213
    generalize (v10.setCell ⟨b2, 13, none⟩ (.bool false)) = v11 at hx hb ⊢
    clear B_b2
    have HX_v11 := Lib.hid hx
    clear hx
    have B_b2 := Lib.hid hb
    clear hb
    replace HO_x := Lib.hid (obkeepT HO_x.out HX_v11.out HBT.out (by decide))
    replace HO_y := Lib.hid (obkeepT HO_y.out HX_v11.out HBT.out (by decide))
    clear HBT
    have cb212 := row_cell (k := 12) (v := .bool ydf) B_b2.out rfl
    have fb212 := row_frozen B_b2.out 12
    have HBT := B_b2
    go_upto_region 11 with fail
    have hb : (v11.setCell ⟨b2, 12, none⟩ (.bool false)).heap[b2]? = some (.cells #[.int .u8 xtos, .int .u16 0, .bool false, .bool false, .int .i64 0, .int .u8 xttl, .int .u8 xpr, .int .u32 xsrc, .int .u32 xdst, .slice (some xA) xl.length xc, .int .u8 ytos, .int .u16 yid, .bool false, .bool false, .int .i64 0, .int .u8 yttl, .int .u8 ypr, .int .u32 ysrc, .int .u32 ydst, .slice (some yA) yl.length yc] 60) := (row_set B_b2.out 12 (.bool false))
    have hx : Ex (fun j => j = b2) v11 (v11.setCell ⟨b2, 12, none⟩ (.bool false)) := ((Ex.refl (fun j => j = b2) v11).setCell (p := ⟨b2, 12, none⟩) (.inl rfl) (.bool false))
    clear cb212 fb212
    generalize (v11.setCell ⟨b2, 12, none⟩ (.bool false)) = v12 at hx hb ⊢
    clear B_b2
    have HX_v12 := Lib.hid hx
    clear hx
    have B_b2 := Lib.hid hb
    clear hb
    replace HO_x := Lib.hid (obkeepT HO_x.out HX_v12.out HBT.out (by decide))
    replace HO_y := Lib.hid (obkeepT HO_y.out HX_v12.out HBT.out (by decide))
    clear HBT
    have cb211 := row_cell (k := 11) (v := .int .u16 yid) B_b2.out rfl
    have fb211 := row_frozen B_b2.out 11
    have hu16 : IntKind.u16.wrap 1 = 1 := by decide
    have HBT := B_b2
    go_upto_region 12 with fail
    clear hu16
    have hb : (v12.setCell ⟨b2, 11, none⟩ (.int .u16 1)).heap[b2]? = some (.cells #[.int .u8 xtos, .int .u16 0, .bool false, .bool false, .int .i64 0, .int .u8 xttl, .int .u8 xpr, .int .u32 xsrc, .int .u32 xdst, .slice (some xA) xl.length xc, .int .u8 ytos, .int .u16 1, .bool false, .bool false, .int .i64 0, .int .u8 yttl, .int .u8 ypr, .int .u32 ysrc, .int .u32 ydst, .slice (some yA) yl.length yc] 60) := (row_set B_b2.out 11 (.int .u16 1))
    have hx : Ex (fun j => j = b2) v12 (v12.setCell ⟨b2, 11, none⟩ (.int .u16 1)) := ((Ex.refl (fun j => j = b2) v12).setCell (p := ⟨b2, 11, none⟩) (.inl rfl) (.int .u16 1))
    clear cb211 fb211
    generalize (v12.setCell ⟨b2, 11, none⟩ (.int .u16 1)) = v13 at hx hb ⊢
    clear B_b2
    have HX_v13 := Lib.hid hx
    clear hx
    have B_b2 := Lib.hid hb
    clear hb
    replace HO_x := Lib.hid (obkeepT HO_x.out HX_v13.out HBT.out (by decide))
    replace HO_y := Lib.hid (obkeepT HO_y.out HX_v13.out HBT.out (by decide))
    clear HBT
    have cb210 := row_cell (k := 10) (v := .int .u8 ytos) B_b2.out rfl
    have cb211 := row_cell (k := 11) (v := .int .u16 1) B_b2.out rfl
    have cb212 := row_cell (k := 12) (v := .bool false) B_b2.out rfl
    have cb213 := row_cell (k := 13) (v := .bool false) B_b2.out rfl
    have cb214 := row_cell (k := 14) (v := .int .i64 0) B_b2.out rfl
    have cb215 := row_cell (k := 15) (v := .int .u8 yttl) B_b2.out rfl
    have cb216 := row_cell (k := 16) (v := .int .u8 ypr) B_b2.out rfl
    have cb217 := row_cell (k := 17) (v := .int .u32 ysrc) B_b2.out rfl
    have cb218 := row_cell (k := 18) (v := .int .u32 ydst) B_b2.out rfl
    have cb219 := row_cell (k := 19) (v := .slice (some yA) yl.length yc) B_b2.out rfl
    have HPLA := Lib.hid (HPL0.out.keepS (HX_v10.out.trans (HX_v11.out.trans (HX_v12.out.trans HX_v13.out))) (fun k h1 _ e => by have e : k = b2 := e; have h3 := HB0.out; have h4 := HB23.out; omega))
    replace B_b3 := Lib.hid ((HX_v13.out.block b3 (row_lt ((HX_v12.out.block b3 (row_lt ((HX_v11.out.block b3 (row_lt ((HX_v10.out.block b3 (row_lt B_b3.out) ne_b2_b3.symm).trans B_b3.out)) ne_b2_b3.symm).trans ((HX_v10.out.block b3 (row_lt B_b3.out) ne_b2_b3.symm).trans B_b3.out))) ne_b2_b3.symm).trans ((HX_v11.out.block b3 (row_lt ((HX_v10.out.block b3 (row_lt B_b3.out) ne_b2_b3.symm).trans B_b3.out)) ne_b2_b3.symm).trans ((HX_v10.out.block b3 (row_lt B_b3.out) ne_b2_b3.symm).trans B_b3.out)))) ne_b2_b3.symm).trans ((HX_v12.out.block b3 (row_lt ((HX_v11.out.block b3 (row_lt ((HX_v10.out.block b3 (row_lt B_b3.out) ne_b2_b3.symm).trans B_b3.out)) ne_b2_b3.symm).trans ((HX_v10.out.block b3 (row_lt B_b3.out) ne_b2_b3.symm).trans B_b3.out))) ne_b2_b3.symm).trans ((HX_v11.out.block b3 (row_lt ((HX_v10.out.block b3 (row_lt B_b3.out) ne_b2_b3.symm).trans B_b3.out)) ne_b2_b3.symm).trans ((HX_v10.out.block b3 (row_lt B_b3.out) ne_b2_b3.symm).trans B_b3.out))))
    go_wp2_with fail
    refine (split_pl _ (⟨ytos, 1, false, false, 0, yttl, ypr, ysrc, ydst, yl⟩ : Pk) (some yA) yc M v13 HO_y.out.rb (fun h => by cases h) HYN.out (spe_good HM68.out HRY.out rfl)).mono ?_
    rintro e vs ⟨g, c5, z, n, os, rfl, hpl, hn42, hgb, hx⟩
    have HPLN := Lib.hid hpl
    have HNN := Lib.hid hn42
    have HBN := Lib.hid (show b3 < v13.heap.size from row_lt B_b3.out)
    clear hpl hn42 hgb cb210 cb211 cb212 cb213 cb214 cb215 cb216 cb217 cb218 cb219
    have HX_vs := Lib.hid hx
    clear hx
    replace B_b3 := Lib.hid ((HX_vs.out.block b3 (row_lt B_b3.out) id).trans B_b3.out)
    replace B_b2 := Lib.hid ((HX_vs.out.block b2 (row_lt B_b2.out) id).trans B_b2.out)
    replace HO_x := Lib.hid (OB.keep HO_x.out HX_vs.out (fun _ _ _ _ => id))
    replace HO_y := Lib.hid (OB.keep HO_y.out HX_vs.out (fun _ _ _ _ => id))
    have cb31 := row_cell (k := 1) (v := .slice none 0 0) B_b3.out rfl
    have fb31 := row_frozen B_b3.out 1
    have HBT := B_b3
    go_upto_region 7 with fail
    have hb : (vs.setCell ⟨b3, 1, none⟩ (.slice (some ⟨g, 0, none⟩) n c5)).heap[b3]? = some (.cells #[.slice (some ⟨g0, 0, none⟩) n0 c0, .slice (some ⟨g, 0, none⟩) n c5] 61) := (row_set B_b3.out 1 (.slice (some ⟨g, 0, none⟩) n c5))
    have hx : Ex (fun j => j = b3) vs (vs.setCell ⟨b3, 1, none⟩ (.slice (some ⟨g, 0, none⟩) n c5)) := ((Ex.refl (fun j => j = b3) vs).setCell (p := ⟨b3, 1, none⟩) (.inl rfl) (.slice (some ⟨g, 0, none⟩) n c5))
    clear cb31 fb31
    generalize (vs.setCell ⟨b3, 1, none⟩ (.slice (some ⟨g, 0, none⟩) n c5)) = vt at hx hb ⊢
    clear B_b3
    have HX_vt := Lib.hid hx
    clear hx
    have B_b3 := Lib.hid hb
    clear hb
    replace HO_x := Lib.hid (obkeepT HO_x.out HX_vt.out HBT.out (by decide))
    replace HO_y := Lib.hid (obkeepT HO_y.out HX_vt.out HBT.out (by decide))
    replace B_b2 := Lib.hid ((HX_vt.out.block b2 (row_lt B_b2.out) ne_b2_b3).trans B_b2.out)
    replace HPLN := Lib.hid (HPLN.out.keepS HX_vt.out (fun k h1 _ e => by have e : k = b3 := e; have h3 := HBN.out; omega))
    replace HPLA := Lib.hid ((HPLA.out.keep HX_vs.out).keepS HX_vt.out (fun k h1 _ e => by have e : k = b3 := e; have h3 := HB0.out; omega))
    have HXT : Hid (Ex (fun _ => False) w4 vt) := ((HXR.out.andThen (HX_v10.out.trans (HX_v11.out.trans (HX_v12.out.trans HX_v13.out))) (fun k h1 e => by have e : k = b2 := e; have h3 := HB2L.out; omega)).trans HX_vs.out).andThen HX_vt.out (fun k h1 e => by have e : k = b3 := e; have h3 := HB3L.out; omega)
    go_wp2_with fail
    go_roundg 0
    case measure => omega
    case rel => exact .inr (.inr ⟨by first | rfl | decide, g0, c0, z0, n0, B0, os0, g, c5, z, n, _, os, B_b2, B_b3, HPLA, HN0, HB0, HPLN, HNN, HBN, HO_x, HO_y, HXT⟩)
   ·
    obtain ⟨wq, rfl⟩ : ∃ W, W = wr := ⟨_, rfl⟩
    go_wp2_with fail
    refine (new_any 9 wq).mono ?_
    rintro e w9 ⟨rb, bm, rfl, hrs, hx⟩
    obtain ⟨B, hBe⟩ : ∃ B, B = wq.heap.size := ⟨_, rfl⟩
    rw [← hBe] at hrs
    have HBE := Lib.hid hBe
    have HB3Q := B_b3
    have HB3B := Lib.hid (show b3 < B by rw [hBe]; exact row_lt B_b3.out)
    have HTW0 := Lib.hid (TwoS.start (⟨xtos, 0, false, false, 0, xttl, xpr, xsrc, xdst, xl⟩ : Pk) (⟨ytos, 1, false, false, 0, yttl, ypr, ysrc, ydst, yl⟩ : Pk) z0 n0 z1 n1 hrs)
    clear hrs hBe
    have HX_w9 := Lib.hid hx
    clear hx
    replace B_b3 := Lib.hid ((HX_w9.out.block b3 (row_lt B_b3.out) id).trans B_b3.out)
    have HXQ0 : Hid (Ex (fun k => k = b3 ∨ B ≤ k) wq w9) := HX_w9.out.mono (fun _ _ h => h.elim)
    go_wp2_with fail
    go_loopg [16, 17, 18, 19, 20] (n0 + n1) (fun kx s16 _ _ _ _ wr => ∃ (i a b la lb ca cb oa ob : Nat), s16 = .int .i64 i ∧ la + lb ≤ kx ∧ Hid (la + a = n0 ∧ lb + b = n1 ∧ (la = 0 ∨ oa = a * 10) ∧ (lb = 0 ∨ ob = b * 10) ∧ la ≤ ca ∧ lb ≤ cb ∧ i = a + b) ∧ Hid (wr.heap[b3]? = some (.cells #[.slice (some ⟨g0, oa, none⟩) la ca, .slice (some ⟨g1, ob, none⟩) lb cb] 61)) ∧ Hid (TwoS wr B rb bm 9 (⟨xtos, 0, false, false, 0, xttl, xpr, xsrc, xdst, xl⟩ : Pk) (⟨ytos, 1, false, false, 0, yttl, ypr, ysrc, ydst, yl⟩ : Pk) z0 n0 a z1 n1 b) ∧ Hid (Ex (fun k => k = b3 ∨ B ≤ k) wq wr))
    case atStart => exact ⟨0, 0, 0, n0, n1, c0, c1, 0, 0, rfl, Nat.le_refl _, Lib.hid ⟨rfl, rfl, .inr (Nat.zero_mul 10).symm, .inr (Nat.zero_mul 10).symm, HPL0.out.cap HN0.out.1, HPL1.out.cap HN1.out.1, rfl⟩, B_b3, HTW0, HXQ0⟩
    case round =>
     clear HTW0 HXQ0
     obtain ⟨i, a, b, la, lb, ca, cb, oa, ob, rfl, hkx, HAB, B_b3, HTW, HXQ⟩ := hrel
     obtain ⟨s, hsw, hs⟩ := two_sum ⟨HAB.out.1, HAB.out.2.1⟩ HN0.out.2 HN1.out.2
     have HS := Lib.hid hs
     clear hs
     have cb30 := row_cell (k := 0) (v := .slice (some ⟨g0, oa, none⟩) la ca) B_b3.out rfl
     have cb31 := row_cell (k := 1) (v := .slice (some ⟨g1, ob, none⟩) lb cb) B_b3.out rfl
     by_cases hpos : (0 : Int) < (s : Int)
     ·
      obtain ⟨tb, htb⟩ : ∃ tb, tb = (decide (i < tl.length) && tl.getD i false) := ⟨_, rfl⟩
      have HTB := Lib.hid htb
      have hxw : Ex (fun _ => False) w wr := (HX03.out.trans HXR.out).andThen HXQ.out (fun k h1 h2 => by
       have h3 := HBE.out
       have h4 := (HX03.out.trans HXR.out).size
       have h5 := HB3L.out
       have h6 := HX03.out.size
       rcases h2 with h2 | h2 <;> omega)
      have HTR := Lib.hid (HTL.out.keep hxw)
      have HXW := Lib.hid hxw
      clear htb hxw
      go_upto_region 23 with fail
      clear hsw cb30 cb31
      go_cut [84] from 65 to 131 (fun x wx => x = .bool tb ∧ wx = wr)
      case first =>
       by_cases hi : (i : Int) < (tl.length : Int)
       ·
        obtain ⟨bt, off, rfl, hc⟩ := turn_row HTR.out (i_ltt hi)
        have hb : tl[i]'(i_ltt hi) = tb := by
         rw [HTB.out, decide_eq_true (i_ltt hi), Bool.true_and, List.getD_eq_getElem?_getD, List.getElem?_eq_getElem (i_ltt hi)]
         rfl
        rw [hb] at hc
        clear hb
        go_wp2_with fail
        go_meet
        exact ⟨rfl, rfl⟩
       ·
        have hid : decide ((i : Int) < (tl.length : Int)) = false := decide_eq_false hi
        have hb : tb = false := by
         rw [HTB.out, decide_eq_false (fun h => hi (Int.ofNat_lt.2 h)), Bool.false_and]
        go_wp2_with fail
        go_meet
        exact ⟨by rw [hb], rfl⟩
      case rest =>
       obtain ⟨rfl, hwc⟩ := hcut
       have hwc2 := hwc.symm
       clear hwc
       subst hwc2
       obtain ⟨kk, hkk⟩ : ∃ kk : Nat, kk = (if tb = true then 1 else 0) := ⟨_, rfl⟩
       have HKK := Lib.hid hkk
       clear hkk
       go_upto_if 84 with fail
       go_cut [17] from 65 to 131 (fun x wx => x = .int .i64 (kk : Int) ∧ wx = wr)
       case first =>
        cases tb with
        | true =>
         obtain rfl : kk = 1 := HKK.out
         go_wp2_with fail
         go_meet
         exact ⟨rfl, rfl⟩
        | false =>
         obtain rfl : kk = 0 := HKK.out
         go_wp2_with fail
         go_meet
         exact ⟨rfl, rfl⟩
       case rest =>
        obtain ⟨rfl, hwc⟩ := hcut
        have hwc2 := hwc.symm
        clear hwc
        subst hwc2
        have hk01 : kk = 0 ∨ kk = 1 := by
         rw [HKK.out]
         split
         ·
          exact .inr rfl
         ·
          exact .inl rfl
        have hi84 : i ≤ 84 := by have h := HAB.out; have h0 := HN0.out; have h1 := HN1.out; omega
        have HI84 := Lib.hid hi84
        have HPOS := Lib.hid (show 0 < la + lb by have := HS.out; omega)
        have HKX := Lib.hid hkx
        have HK01 := Lib.hid hk01
        obtain ⟨eb, heb⟩ : ∃ eb, eb = decide ((if kk = 0 then la else lb) = 0) := ⟨_, rfl⟩
        have HEB := Lib.hid heb
        clear hi84 hkx hpos hk01 heb
        go_upto_region 25 with fail
        go_cut [89] from 65 to 131 (fun x wx => x = .bool eb ∧ wx = wr)
        case first =>
         have cb30 := row_cell (k := 0) (v := .slice (some ⟨g0, oa, none⟩) la ca) B_b3.out rfl
         have cb31 := row_cell (k := 1) (v := .slice (some ⟨g1, ob, none⟩) lb cb) B_b3.out rfl
         rcases HK01.out with rfl | rfl
         ·
          by_cases hz : la = 0
          ·
           have hzb := t_eq0 hz
           obtain rfl : eb = true := by rw [HEB.out]; simp [hz]
           clear hz
           go_wp2_with fail
           go_meet
           exact ⟨rfl, rfl⟩
          ·
           have hzb := t_ne0 hz
           obtain rfl : eb = false := by rw [HEB.out]; simp [hz]
           clear hz
           go_wp2_with fail
           go_meet
           exact ⟨rfl, rfl⟩
         ·
          by_cases hz : lb = 0
          ·
           have hzb := t_eq0 hz
           obtain rfl : eb = true := by rw [HEB.out]; simp [hz]
           clear hz
           go_wp2_with fail
           go_meet
           exact ⟨rfl, rfl⟩
          ·
           have hzb := t_ne0 hz
           obtain rfl : eb = false := by rw [HEB.out]; simp [hz]
           clear hz
           go_wp2_with fail
           go_meet
           exact ⟨rfl, rfl⟩
        case rest =>
         obtain ⟨rfl, hwc⟩ := hcut
         have hwc2 := hwc.symm
         clear hwc
         subst hwc2
         go_upto_if 89 with fail
         go_cut [17] from 65 to 131 (fun x wx => ∃ ko : Nat, x = .int .i64 (ko : Int) ∧ Hid ((ko = 0 ∧ la ≠ 0) ∨ (ko = 1 ∧ lb ≠ 0)) ∧ wx = wr)
         case first =>
          cases eb with
          | true =>
           rcases HK01.out with rfl | rfl
           ·
            go_wp2_with fail
            go_meet
            exact ⟨1, rfl, Lib.hid (.inr ⟨rfl, by have h := of_decide_eq_true HEB.out.symm; have := HPOS.out; simp only [if_true] at h; omega⟩), rfl⟩
           ·
            go_wp2_with fail
            go_meet
            exact ⟨0, rfl, Lib.hid (.inl ⟨rfl, by have h := of_decide_eq_true HEB.out.symm; have := HPOS.out; simp at h; omega⟩), rfl⟩
          | false =>
           rcases HK01.out with rfl | rfl
           ·
            go_wp2_with fail
            go_meet
            exact ⟨0, rfl, Lib.hid (.inl ⟨rfl, by have h := of_decide_eq_false HEB.out.symm; simpa using h⟩), rfl⟩
           ·
            go_wp2_with fail
            go_meet
            exact ⟨1, rfl, Lib.hid (.inr ⟨rfl, by have h := of_decide_eq_false HEB.out.symm; simpa using h⟩), rfl⟩
         case rest =>
          obtain ⟨ko, rfl, HKO, hwc⟩ := hcut
          have hwc2 := hwc.symm
          clear hwc
          subst hwc2
          rcases HKO.out with ⟨rfl, hlz⟩ | ⟨rfl, hlz⟩
          ·
           have HLZ9 := Lib.hid hlz
           clear hlz
           go_upto_region 27 with fail
           have cb30 := row_cell (k := 0) (v := .slice (some ⟨g0, oa, none⟩) la ca) B_b3.out rfl
           have cb31 := row_cell (k := 1) (v := .slice (some ⟨g1, ob, none⟩) lb cb) B_b3.out rfl
           have hlz := HLZ9.out
           have HLZ := Lib.hid hlz
           have HOA := Lib.hid (HAB.out.2.2.1.resolve_left hlz)
           obtain ⟨l1, hl1⟩ : ∃ l1, la = l1 + 1 := ⟨la - 1, by omega⟩
           obtain ⟨cc1, hc1⟩ : ∃ c1, ca = c1 + 1 := ⟨ca - 1, by have h := HAB.out; omega⟩
           have han : a < n0 := by have h := HAB.out; omega
           have HL1 := Lib.hid hl1
           have HC1 := Lib.hid hc1
           have HAN := Lib.hid han
           subst hl1 hc1
           obtain ⟨on, hon, hon2⟩ := off_next g0 oa cc1
           have HON := Lib.hid hon
           have HON2 := Lib.hid hon2
           clear hon hon2
           have hplr := HPL0.out.keepS HXQ.out (fun j h1 h2 h3 => by
            have h4 := HB0.out
            have h5 := HBE.out
            rcases h3 with h3 | h3 <;> omega)
           obtain ⟨vmf, voff, vb, vA, vc, hpe_v, hbl_v, hob_v, hrow_v⟩ := hplr.row han
           rw [← HOA.out] at hrow_v
           have lc0 : wr.cell? ⟨g0, oa, none⟩ = some (.int .u8 xtos) := hrow_v 0 _ rfl
           have lc1 : wr.cell? ⟨g0, oa + 1, none⟩ = some (.int .u16 0) := hrow_v 1 _ rfl
           have lc2 : wr.cell? ⟨g0, oa + 2, none⟩ = some (.bool false) := hrow_v 2 _ rfl
           have lc3 : wr.cell? ⟨g0, oa + 3, none⟩ = some (.bool vmf) := hrow_v 3 _ rfl
           have lc4 : wr.cell? ⟨g0, oa + 4, none⟩ = some (.int .i64 voff) := hrow_v 4 _ rfl
           have lc5 : wr.cell? ⟨g0, oa + 5, none⟩ = some (.int .u8 xttl) := hrow_v 5 _ rfl
           have lc6 : wr.cell? ⟨g0, oa + 6, none⟩ = some (.int .u8 xpr) := hrow_v 6 _ rfl
           have lc7 : wr.cell? ⟨g0, oa + 7, none⟩ = some (.int .u32 xsrc) := hrow_v 7 _ rfl
           have lc8 : wr.cell? ⟨g0, oa + 8, none⟩ = some (.int .u32 xdst) := hrow_v 8 _ rfl
           have lc9 : wr.cell? ⟨g0, oa + 9, none⟩ = some (.slice vA vb.length vc) := hrow_v 9 _ rfl
           have hcall := two_take HPL0.out.pd HN0.out.2 HOKX.out rfl rfl HRX.out HXN.out HKB.out han (⟨xtos, 0, false, vmf, voff, xttl, xpr, xsrc, xdst, vb⟩ : Pk) hpe_v.symm vA vc 1 B rb bm 9 wr HTW.out (RB.any hob_v.rb) hob_v.anyA
           have HC := Lib.hid hcall
           clear hcall hrow_v hpe_v hob_v hbl_v hplr han
           go_wp2_with fail
           refine HC.out.mono ?_
           rintro e wt ⟨htw, hup, ⟨hlt, rfl⟩ | ⟨heq, A9, c9, rfl, hob9⟩⟩
           ·
            have HB3T := Lib.hid (box_up B_b3.out hup HB3B.out)
            have HTWT := Lib.hid htw
            have HXT : Hid (Ex (fun k => k = b3 ∨ B ≤ k) wq wt) := HXQ.out.trans (hup.mono (fun _ _ h => .inr h))
            have HL1Z : Hid (((l1 : Int) == 0) = false) := t_ne0 (by have h := HAB.out; omega)
            clear hlt
            clear htw hup HC lc0 lc1 lc2 lc3 lc4 lc5 lc6 lc7 lc8 lc9
            go_upto_region 28 with fail
            replace B_b3 := HB3T
            have hx : Ex (fun _ => False) wt (wt.alloc (.cells #[.int .u8 0, .int .u16 0, .bool false, .bool false, .int .i64 0, .int .u8 0, .int .u8 0, .int .u32 0, .int .u32 0, .slice none 0 0] 27)) := (Ex.refl _ wt).alloc _
            have hb : (wt.alloc (.cells #[.int .u8 0, .int .u16 0, .bool false, .bool false, .int .i64 0, .int .u8 0, .int .u8 0, .int .u32 0, .int .u32 0, .slice none 0 0] 27)).heap[wt.heap.size]? = some (.cells #[.int .u8 0, .int .u16 0, .bool false, .bool false, .int .i64 0, .int .u8 0, .int .u8 0, .int .u32 0, .int .u32 0, .slice none 0 0] 27) := heap_alloc_new wt _
            obtain ⟨xq, hxq⟩ : ∃ xq, xq = wt.heap.size := ⟨_, rfl⟩
            have hb_xq : wt.heap.size ≤ xq := by omega
            rw [← hxq] at hb
            try simp only [← hxq]
            generalize wt.alloc (.cells #[.int .u8 0, .int .u16 0, .bool false, .bool false, .int .i64 0, .int .u8 0, .int .u8 0, .int .u32 0, .int .u32 0, .slice none 0 0] 27) = wu at hx hb ⊢
            clear hxq
            have HX_wu := Lib.hid hx
            clear hx
            have B_xq := Lib.hid hb
            clear hb
            have HB3L2 := Lib.hid (row_lt B_b3.out)
            have ne_xq_b3 : xq ≠ b3 := by have := HB3L2.out; omega
            have cb30 := row_cell (k := 0) (v := .slice (some ⟨g0, oa, none⟩) (l1 + 1) (cc1 + 1)) ((HX_wu.out.block b3 (row_lt B_b3.out) id).trans B_b3.out) rfl
            have fb30 := row_frozen ((HX_wu.out.block b3 (row_lt B_b3.out) id).trans B_b3.out) 0
            have hon := HON.out
            go_upto_region 29 with fail
            clear hon
            replace B_b3 := Lib.hid ((HX_wu.out.block b3 (row_lt B_b3.out) id).trans B_b3.out)
            have hb : (wu.setCell ⟨b3, 0, none⟩ (.slice (some ⟨g0, on, none⟩) l1 cc1)).heap[b3]? = some (.cells #[.slice (some ⟨g0, on, none⟩) l1 cc1, .slice (some ⟨g1, ob, none⟩) lb cb] 61) := (row_set B_b3.out 0 (.slice (some ⟨g0, on, none⟩) l1 cc1))
            have hx : Ex (fun j => j = b3) wu (wu.setCell ⟨b3, 0, none⟩ (.slice (some ⟨g0, on, none⟩) l1 cc1)) := ((Ex.refl (fun j => j = b3) wu).setCell (p := ⟨b3, 0, none⟩) (.inl rfl) (.slice (some ⟨g0, on, none⟩) l1 cc1))
            clear cb30 fb30
            generalize (wu.setCell ⟨b3, 0, none⟩ (.slice (some ⟨g0, on, none⟩) l1 cc1)) = wv at hx hb ⊢
            clear B_b3
            have HX_wv := Lib.hid hx
            clear hx
            have B_b3 := Lib.hid hb
            clear hb
            have cb30 := row_cell (k := 0) (v := .slice (some ⟨g0, on, none⟩) l1 cc1) B_b3.out rfl
            have hS0 : Ex (fun _ => False) wv wv.drew := (Ex.refl _ wv).drew
            refine wp_region_held_drew (S := fun W => Ex (fun _ => False) wv W) (by kernel_rfl) hS0 (fun _ => ?_)
            refine wpAnyH_take (i := 0) (oi := { dst := some 109, op := .move (.tmp 20), type := 35, pos := "more.go:40", after := #[], guard := none }) (v := ?v6) rfl (by kernel_rfl) (by kernel_rfl) (by kernel_rfl) (fun _ _ _ h => h) (Or.inl ⟨by rfl, ?hy6⟩) (by assumption) ?rest6
            case hy6 => (intro w hSw; (try dsimp only at hSw); go_simp <;> with_reducible rfl)
            try simp only [Act.put, List.setIfInBounds_toArray, List.set_cons_zero, List.set_cons_succ]
            refine wpAnyH_take (i := 1) (oi := { dst := some 110, op := .binOp .neq 35 (.tmp 109) (.const .nilIface) 35, type := 4, pos := "more.go:40", after := #[{ on := 0, ground := .data }], guard := none }) (v := ?v7) rfl (by kernel_rfl) (by kernel_rfl) (by kernel_rfl) (fun _ _ _ h => h) (Or.inl ⟨by rfl, ?hy7⟩) (by assumption) ?rest7
            case hy7 => (intro w hSw; (try dsimp only at hSw); go_simp <;> with_reducible rfl)
            try simp only [Act.put, List.setIfInBounds_toArray, List.set_cons_zero, List.set_cons_succ]
            refine wpAnyH_take (i := 2) (oi := { dst := some 111, op := .move (.tmp 110), type := 4, pos := "more.go:40", after := #[{ on := 1, ground := .data }], guard := none }) (v := ?v8) rfl (by kernel_rfl) (by kernel_rfl) (by kernel_rfl) (fun _ _ _ h => h) (Or.inl ⟨by rfl, ?hy8⟩) (by assumption) ?rest8
            case hy8 => (intro w hSw; (try dsimp only at hSw); go_simp <;> with_reducible rfl)
            try simp only [Act.put, List.setIfInBounds_toArray, List.set_cons_zero, List.set_cons_succ]
            refine wpAnyH_take (i := 3) (oi := { dst := some 112, op := .move (.tmp 19), type := 4, pos := "more.go:40", after := #[{ on := 2, ground := .guard }], guard := some (2, false) }) (v := ?v9) rfl (by kernel_rfl) (by kernel_rfl) (by kernel_rfl) (fun _ _ _ h => h) (Or.inl ⟨by rfl, ?hy9⟩) (by assumption) ?rest9
            case hy9 => (intro w hSw; (try dsimp only at hSw); go_simp <;> with_reducible rfl)
            try simp only [Act.put, List.setIfInBounds_toArray, List.set_cons_zero, List.set_cons_succ]
            refine wpAnyH_take (i := 4) (oi := { dst := some 113, op := .move (.tmp 17), type := 3, pos := "more.go:40", after := #[{ on := 2, ground := .guard }], guard := some (2, false) }) (v := ?v10) rfl (by kernel_rfl) (by kernel_rfl) (by kernel_rfl) (fun _ _ _ h => h) (Or.inl ⟨by rfl, ?hy10⟩) (by assumption) ?rest10
            case hy10 => (intro w hSw; (try dsimp only at hSw); go_simp <;> with_reducible rfl)
            try simp only [Act.put, List.setIfInBounds_toArray, List.set_cons_zero, List.set_cons_succ]
            refine wpAnyH_take (i := 5) (oi := { dst := some 114, op := .indexAddr 61 (.tmp 11) (.tmp 113), type := 0, pos := "more.go:40", after := #[{ on := 4, ground := .data }, { on := 2, ground := .guard }], guard := some (2, false) }) (v := ?v11) rfl (by kernel_rfl) (by kernel_rfl) (by kernel_rfl) (fun _ _ _ h => h) (Or.inl ⟨by rfl, ?hy11⟩) (by assumption) ?rest11
            case hy11 => (intro w hSw; (try dsimp only at hSw); go_simp <;> with_reducible rfl)
            try simp only [Act.put, List.setIfInBounds_toArray, List.set_cons_zero, List.set_cons_succ]
            refine wpAnyH_take (i := 6) (oi := { dst := some 115, op := .load 33 (.tmp 114), type := 33, pos := "more.go:40", after := #[{ on := 5, ground := .data }, { on := 2, ground := .guard }], guard := some (2, false) }) (v := ?v12) rfl (by kernel_rfl) (by kernel_rfl) (by kernel_rfl) (fun _ _ _ h => h) (Or.inl ⟨by rfl, ?hy12⟩) (by assumption) ?rest12
            case hy12 => (intro w hSw; (try dsimp only at hSw); have ecb30 := hSw.cell cb30 id; go_simp <;> with_reducible rfl)
            try simp only [Act.put, List.setIfInBounds_toArray, List.set_cons_zero, List.set_cons_succ]
            refine wpAnyH_take (i := 7) (oi := { dst := some 116, op := .call { callee := .builtin .len, args := #[.tmp 115], argTypes := #[33] }, type := 3, pos := "more.go:40", after := #[{ on := 6, ground := .data }, { on := 2, ground := .guard }], guard := some (2, false) }) (v := ?v13) rfl (by kernel_rfl) (by kernel_rfl) (by kernel_rfl) (fun _ _ _ h => h) (Or.inl ⟨by rfl, ?hy13⟩) (by assumption) ?rest13
            case hy13 => (intro w hSw; (try dsimp only at hSw); go_simp <;> with_reducible rfl)
            try simp only [Act.put, List.setIfInBounds_toArray, List.set_cons_zero, List.set_cons_succ]
            refine wpAnyH_take (i := 8) (oi := { dst := some 117, op := .binOp .eql 3 (.tmp 116) (.const (.int .i64 0)) 3, type := 4, pos := "more.go:40", after := #[{ on := 7, ground := .data }, { on := 2, ground := .guard }], guard := some (2, false) }) (v := ?v14) rfl (by kernel_rfl) (by kernel_rfl) (by kernel_rfl) (fun _ _ _ h => h) (Or.inl ⟨by rfl, ?hy14⟩) (by assumption) ?rest14
            case hy14 => (intro w hSw; (try dsimp only at hSw); have hl1z := HL1Z.out; go_simp <;> with_reducible rfl)
            try simp only [Act.put, List.setIfInBounds_toArray, List.set_cons_zero, List.set_cons_succ]
            refine wpAnyH_take (i := 9) (oi := { dst := some 118, op := .binOp .neq 4 (.tmp 112) (.tmp 117) 4, type := 4, pos := "more.go:40", after := #[{ on := 3, ground := .data }, { on := 8, ground := .data }, { on := 2, ground := .guard }], guard := some (2, false) }) (v := ?v15) rfl (by kernel_rfl) (by kernel_rfl) (by kernel_rfl) (fun _ _ _ h => h) (Or.inl ⟨by rfl, ?hy15⟩) (by assumption) ?rest15
            case hy15 => (intro w hSw; (try dsimp only at hSw); go_simp <;> with_reducible rfl)
            try simp only [Act.put, List.setIfInBounds_toArray, List.set_cons_zero, List.set_cons_succ]
            refine wpAnyH_take (i := 10) (oi := { dst := some 119, op := .pick (.tmp 111) (.const (.bool true)) (.tmp 118), type := 4, pos := "more.go:40", after := #[{ on := 2, ground := .data }, { on := 9, ground := .data }], guard := none }) (v := ?v16) rfl (by kernel_rfl) (by kernel_rfl) (by kernel_rfl) (fun _ _ _ h => h) (Or.inl ⟨by rfl, ?hy16⟩) (by assumption) ?rest16
            case hy16 => (intro w hSw; (try dsimp only at hSw); go_simp <;> with_reducible rfl)
            try simp only [Act.put, List.setIfInBounds_toArray, List.set_cons_zero, List.set_cons_succ]
            refine wpAnyH_take (i := 11) (oi := { dst := some 120, op := .move (.tmp 119), type := 4, pos := "more.go:40", after := #[{ on := 10, ground := .data }, { on := 2, ground := .chain }], guard := none }) (v := ?v17) rfl (by kernel_rfl) (by kernel_rfl) (by kernel_rfl) (fun _ _ _ h => h) (Or.inl ⟨by rfl, ?hy17⟩) (by assumption) ?rest17
            case hy17 => (intro w hSw; (try dsimp only at hSw); go_simp <;> with_reducible rfl)
            try simp only [Act.put, List.setIfInBounds_toArray, List.set_cons_zero, List.set_cons_succ]
            refine wpAnyH_take (i := 12) (oi := { dst := some 121, op := .move (.tmp 19), type := 4, pos := "more.go:40", after := #[{ on := 11, ground := .guard }], guard := some (11, false) }) (v := ?v18) rfl (by kernel_rfl) (by kernel_rfl) (by kernel_rfl) (fun _ _ _ h => h) (Or.inl ⟨by rfl, ?hy18⟩) (by assumption) ?rest18
            case hy18 => (intro w hSw; (try dsimp only at hSw); go_simp <;> with_reducible rfl)
            try simp only [Act.put, List.setIfInBounds_toArray, List.set_cons_zero, List.set_cons_succ]
            refine wpAnyH_take (i := 13) (oi := { dst := some 122, op := .move (.tmp 121), type := 4, pos := "more.go:40", after := #[{ on := 12, ground := .data }, { on := 11, ground := .chain }, { on := 11, ground := .guard }], guard := some (11, false) }) (v := ?v19) rfl (by kernel_rfl) (by kernel_rfl) (by kernel_rfl) (fun _ _ _ h => h) (Or.inl ⟨by rfl, ?hy19⟩) (by assumption) ?rest19
            case hy19 => (intro w hSw; (try dsimp only at hSw); go_simp <;> with_reducible rfl)
            try simp only [Act.put, List.setIfInBounds_toArray, List.set_cons_zero, List.set_cons_succ]
            refine wpAnyH_take (i := 14) (oi := { dst := some 123, op := .load 27 (.tmp 18), type := 27, pos := "more.go:40", after := #[{ on := 13, ground := .guard }], guard := some (13, true) }) (v := undef) rfl (by kernel_rfl) (by kernel_rfl) (by kernel_rfl) (fun _ _ _ h => h) (Or.inr ⟨by rfl, rfl⟩) (by assumption) ?rest20
            try simp only [Act.put, List.setIfInBounds_toArray, List.set_cons_zero, List.set_cons_succ]
            refine wpAnyH_take (i := 15) (oi := { dst := some 124, op := .call { callee := .value (.func 14), args := #[.tmp 123], argTypes := #[27] }, type := 31, pos := "more.go:40", after := #[{ on := 14, ground := .data }, { on := 13, ground := .chain }, { on := 13, ground := .guard }], guard := some (13, true) }) (v := undef) rfl (by kernel_rfl) (by kernel_rfl) (by kernel_rfl) (fun _ _ _ h => h) (Or.inr ⟨by rfl, rfl⟩) (by assumption) ?rest21
            try simp only [Act.put, List.setIfInBounds_toArray, List.set_cons_zero, List.set_cons_succ]
            refine wpAnyH_take (i := 16) (oi := { dst := some 125, op := .move (.tmp 17), type := 3, pos := "more.go:40", after := #[{ on := 13, ground := .guard }], guard := some (13, true) }) (v := undef) rfl (by kernel_rfl) (by kernel_rfl) (by kernel_rfl) (fun _ _ _ h => h) (Or.inr ⟨by rfl, rfl⟩) (by assumption) ?rest22
            try simp only [Act.put, List.setIfInBounds_toArray, List.set_cons_zero, List.set_cons_succ]
            refine wpAnyH_take (i := 17) (oi := { dst := some 126, op := .indexAddr 60 (.tmp 10) (.tmp 125), type := 0, pos := "more.go:40", after := #[{ on := 16, ground := .data }, { on := 13, ground := .guard }], guard := some (13, true) }) (v := undef) rfl (by kernel_rfl) (by kernel_rfl) (by kernel_rfl) (fun _ _ _ h => h) (Or.inr ⟨by rfl, rfl⟩) (by assumption) ?rest23
            try simp only [Act.put, List.setIfInBounds_toArray, List.set_cons_zero, List.set_cons_succ]
            refine wpAnyH_take (i := 18) (oi := { dst := some 127, op := .load 27 (.tmp 126), type := 27, pos := "more.go:40", after := #[{ on := 17, ground := .data }, { on := 13, ground := .guard }], guard := some (13, true) }) (v := undef) rfl (by kernel_rfl) (by kernel_rfl) (by kernel_rfl) (fun _ _ _ h => h) (Or.inr ⟨by rfl, rfl⟩) (by assumption) ?rest24
            try simp only [Act.put, List.setIfInBounds_toArray, List.set_cons_zero, List.set_cons_succ]
            refine wpAnyH_take (i := 19) (oi := { dst := some 128, op := .call { callee := .value (.func 14), args := #[.tmp 127], argTypes := #[27] }, type := 31, pos := "more.go:40", after := #[{ on := 18, ground := .data }, { on := 15, ground := .chain }, { on := 13, ground := .guard }], guard := some (13, true) }) (v := undef) rfl (by kernel_rfl) (by kernel_rfl) (by kernel_rfl) (fun _ _ _ h => h) (Or.inr ⟨by rfl, rfl⟩) (by assumption) ?rest25
            try simp only [Act.put, List.setIfInBounds_toArray, List.set_cons_zero, List.set_cons_succ]
            refine wpAnyH_take (i := 20) (oi := { dst := some 129, op := .binOp .neq 31 (.tmp 124) (.tmp 128) 31, type := 4, pos := "more.go:40", after := #[{ on := 15, ground := .data }, { on := 19, ground := .data }, { on := 13, ground := .guard }], guard := some (13, true) }) (v := undef) rfl (by kernel_rfl) (by kernel_rfl) (by kernel_rfl) (fun _ _ _ h => h) (Or.inr ⟨by rfl, rfl⟩) (by assumption) ?rest26
            try simp only [Act.put, List.setIfInBounds_toArray, List.set_cons_zero, List.set_cons_succ]
            refine wpAnyH_take (i := 21) (oi := { dst := some 130, op := .pick (.tmp 122) (.tmp 129) (.const (.bool false)), type := 4, pos := "more.go:40", after := #[{ on := 13, ground := .data }, { on := 20, ground := .data }, { on := 11, ground := .guard }], guard := some (11, false) }) (v := ?v27) rfl (by kernel_rfl) (by kernel_rfl) (by kernel_rfl) (fun _ _ _ h => h) (Or.inl ⟨by rfl, ?hy27⟩) (by assumption) ?rest27
            case hy27 => (intro w hSw; (try dsimp only at hSw); go_simp <;> with_reducible rfl)
            try simp only [Act.put, List.setIfInBounds_toArray, List.set_cons_zero, List.set_cons_succ]
            refine wpAnyH_take (i := 22) (oi := { dst := some 131, op := .pick (.tmp 120) (.const (.bool true)) (.tmp 130), type := 4, pos := "more.go:40", after := #[{ on := 11, ground := .data }, { on := 21, ground := .data }], guard := none }) (v := ?v28) rfl (by kernel_rfl) (by kernel_rfl) (by kernel_rfl) (fun _ _ _ h => h) (Or.inl ⟨by rfl, ?hy28⟩) (by assumption) ?rest28
            case hy28 => (intro w hSw; (try dsimp only at hSw); go_simp <;> with_reducible rfl)
            try simp only [Act.put, List.setIfInBounds_toArray, List.set_cons_zero, List.set_cons_succ]
            refine wpAnyH_done (by kernel_rfl) ?_ _
            have HXE : Hid (Ex (fun _ => False) wv wv.drew) := hS0
            clear hS0 cb30
            have HXN3 : Hid (Ex (fun j => j = b3) wt wv) := (HX_wu.out.mono (fun _ _ h => h.elim)).trans HX_wv.out
            have HTWV := Lib.hid (((HTWT.out.keep HX_wu.out).low HX_wv.out HB3B.out).keep HXE.out)
            have HB3E := Lib.hid ((HXE.out.block b3 (row_lt B_b3.out) id).trans B_b3.out)
            have HXQE : Hid (Ex (fun k => k = b3 ∨ B ≤ k) wq wv.drew) := (HXT.out.trans (HXN3.out.mono (fun _ _ h => .inl h))).trans (HXE.out.mono (fun _ _ h => h.elim))
            have hwi := i_1t HI84.out
            generalize wv.drew = we at HTWV HB3E HXQE HXE ⊢
            go_wp2_with fail
            go_roundg (l1 + lb)
            case measure => have h := HKX.out; omega
            case rel => exact ⟨i + 1, a + 1, b, l1, lb, cc1, cb, on, ob, by first | (simp; done) | (rw [i_2t HI84.out]), Nat.le_refl _, Lib.hid (by have h := HAB.out; have h2 := HON2.out; have h3 := HOA.out; omega), HB3E, HTWV, HXQE⟩
           ·
            have HB3T := Lib.hid (box_up B_b3.out hup HB3B.out)
            have HTWT := Lib.hid htw
            have HXT : Hid (Ex (fun k => k = b3 ∨ B ≤ k) wq wt) := HXQ.out.trans (hup.mono (fun _ _ h => .inr h))
            have HL1Z : Hid (((l1 : Int) == 0) = true) := t_eq0 (by have h := HAB.out; omega)
            have HO9 := Lib.hid (show OB wt wr.heap.size (.slice A9 xl.length c9) xl from hob9)
            have hv : pkv (⟨xtos, 0, false, false, 0, xttl, xpr, xsrc, xdst, xl⟩ : Pk) (.slice A9 (⟨xtos, 0, false, false, 0, xttl, xpr, xsrc, xdst, xl⟩ : Pk).b.length c9) = .agg #[.int .u8 xtos, .int .u16 0, .bool false, .bool false, .int .i64 0, .int .u8 xttl, .int .u8 xpr, .int .u32 xsrc, .int .u32 xdst, .slice A9 xl.length c9] := rfl
            rw [hv]
            clear hv hob9 heq
            clear htw hup HC lc0 lc1 lc2 lc3 lc4 lc5 lc6 lc7 lc8 lc9
            go_upto_region 28 with fail
            replace B_b3 := HB3T
            have hx : Ex (fun _ => False) wt (wt.alloc (.cells #[.int .u8 xtos, .int .u16 0, .bool false, .bool false, .int .i64 0, .int .u8 xttl, .int .u8 xpr, .int .u32 xsrc, .int .u32 xdst, .slice A9 xl.length c9] 27)) := (Ex.refl _ wt).alloc _
            have hb : (wt.alloc (.cells #[.int .u8 xtos, .int .u16 0, .bool false, .bool false, .int .i64 0, .int .u8 xttl, .int .u8 xpr, .int .u32 xsrc, .int .u32 xdst, .slice A9 xl.length c9] 27)).heap[wt.heap.size]? = some (.cells #[.int .u8 xtos, .int .u16 0, .bool false, .bool false, .int .i64 0, .int .u8 xttl, .int .u8 xpr, .int .u32 xsrc, .int .u32 xdst, .slice A9 xl.length c9] 27) := heap_alloc_new wt _
            obtain ⟨xq, hxq⟩ : ∃ xq, xq = wt.heap.size := ⟨_, rfl⟩
            have hb_xq : wt.heap.size ≤ xq := by omega
            rw [← hxq] at hb
            try simp only [← hxq]
            generalize wt.alloc (.cells #[.int .u8 xtos, .int .u16 0, .bool false, .bool false, .int .i64 0, .int .u8 xttl, .int .u8 xpr, .int .u32 xsrc, .int .u32 xdst, .slice A9 xl.length c9] 27) = wu at hx hb ⊢
            clear hxq
            have HX_wu := Lib.hid hx
            clear hx
            have B_xq := Lib.hid hb
            clear hb
            have HB3L2 := Lib.hid (row_lt B_b3.out)
            have ne_xq_b3 : xq ≠ b3 := by have := HB3L2.out; omega
            have cb30 := row_cell (k := 0) (v := .slice (some ⟨g0, oa, none⟩) (l1 + 1) (cc1 + 1)) ((HX_wu.out.block b3 (row_lt B_b3.out) id).trans B_b3.out) rfl
            have fb30 := row_frozen ((HX_wu.out.block b3 (row_lt B_b3.out) id).trans B_b3.out) 0
            have hon := HON.out
            go_upto_region 29 with fail
            clear hon
            replace B_b3 := Lib.hid ((HX_wu.out.block b3 (row_lt B_b3.out) id).trans B_b3.out)
            have hb : (wu.setCell ⟨b3, 0, none⟩ (.slice (some ⟨g0, on, none⟩) l1 cc1)).heap[b3]? = some (.cells #[.slice (some ⟨g0, on, none⟩) l1 cc1, .slice (some ⟨g1, ob, none⟩) lb cb] 61) := (row_set B_b3.out 0 (.slice (some ⟨g0, on, none⟩) l1 cc1))
            have hx : Ex (fun j => j = b3) wu (wu.setCell ⟨b3, 0, none⟩ (.slice (some ⟨g0, on, none⟩) l1 cc1)) := ((Ex.refl (fun j => j = b3) wu).setCell (p := ⟨b3, 0, none⟩) (.inl rfl) (.slice (some ⟨g0, on, none⟩) l1 cc1))
            clear cb30 fb30
            generalize (wu.setCell ⟨b3, 0, none⟩ (.slice (some ⟨g0, on, none⟩) l1 cc1)) = wv at hx hb ⊢
            clear B_b3
            have HX_wv := Lib.hid hx
            clear hx
            have B_b3 := Lib.hid hb
            clear hb
            have cb30 := row_cell (k := 0) (v := .slice (some ⟨g0, on, none⟩) l1 cc1) B_b3.out rfl
            replace B_xq := Lib.hid ((HX_wv.out.block xq (row_lt B_xq.out) ne_xq_b3).trans B_xq.out)
            have cxq0 := row_cell (k := 0) (v := .int .u8 xtos) B_xq.out rfl
            have cxq1 := row_cell (k := 1) (v := .int .u16 0) B_xq.out rfl
            have cxq2 := row_cell (k := 2) (v := .bool false) B_xq.out rfl
            have cxq3 := row_cell (k := 3) (v := .bool false) B_xq.out rfl
            have cxq4 := row_cell (k := 4) (v := .int .i64 0) B_xq.out rfl
            have cxq5 := row_cell (k := 5) (v := .int .u8 xttl) B_xq.out rfl
            have cxq6 := row_cell (k := 6) (v := .int .u8 xpr) B_xq.out rfl
            have cxq7 := row_cell (k := 7) (v := .int .u32 xsrc) B_xq.out rfl
            have cxq8 := row_cell (k := 8) (v := .int .u32 xdst) B_xq.out rfl
            have cxq9 := row_cell (k := 9) (v := .slice A9 xl.length c9) B_xq.out rfl
            have HXV : Hid (Ex (fun k => k = b3 ∨ B ≤ k) wq wv) := (HXT.out.trans (HX_wu.out.mono (fun _ _ h => h.elim))).trans (HX_wv.out.mono (fun _ _ h => .inl h))
            have hb2v := (HXV.out.block b2 (row_lt B_b2.out) (fun e => by have h4 := HB23.out; have h5 := HB3B.out; rcases e with e | e <;> omega)).trans B_b2.out
            have cv0 := row_cell (k := 0) (v := .int .u8 xtos) hb2v rfl
            have cv1 := row_cell (k := 1) (v := .int .u16 0) hb2v rfl
            have cv2 := row_cell (k := 2) (v := .bool false) hb2v rfl
            have cv3 := row_cell (k := 3) (v := .bool false) hb2v rfl
            have cv4 := row_cell (k := 4) (v := .int .i64 0) hb2v rfl
            have cv5 := row_cell (k := 5) (v := .int .u8 xttl) hb2v rfl
            have cv6 := row_cell (k := 6) (v := .int .u8 xpr) hb2v rfl
            have cv7 := row_cell (k := 7) (v := .int .u32 xsrc) hb2v rfl
            have cv8 := row_cell (k := 8) (v := .int .u32 xdst) hb2v rfl
            have cv9 := row_cell (k := 9) (v := .slice (some xA) xl.length xc) hb2v rfl
            have HO9V := Lib.hid (obkeepT (HO9.out.keep HX_wu.out (fun _ _ _ _ => id)) HX_wv.out ((HX_wu.out.block b3 HB3L2.out id).trans HB3T.out) (by decide))
            have HOKV : Hid (OB wv w4.heap.size (.slice (some xA) xl.length xc) xl) := HO_x.out.keep HXV.out (fun j hj h1 h2 h3 => by
             rcases h3 with h3 | h3
             ·
              obtain ⟨cur, hc⟩ := ownsRow_isCells HO_x.out.2 hj
              have h6 := HB3Q.out
              rw [h3] at hc
              rw [h6] at hc
              injection hc with hc
              injection hc with _ hc
              exact absurd hc (by decide)
             ·
              have h5 := HBE.out
              omega)
            have z1 : ∀ w, (binOp .neq 31 (rpv (⟨xtos, 0, false, false, 0, xttl, xpr, xsrc, xdst, xl⟩ : Pk)) (rpv (⟨xtos, 0, false, false, 0, xttl, xpr, xsrc, xdst, xl⟩ : Pk))).run Tryd.prog w = .ok (.bool false) w := fun w => by have h := rpv_neq (⟨xtos, 0, false, false, 0, xttl, xpr, xsrc, xdst, xl⟩ : Pk) (⟨xtos, 0, false, false, 0, xttl, xpr, xsrc, xdst, xl⟩ : Pk) w; rw [Pk.eqB_self] at h; exact h
            have z2 : ∀ w, (eqGuard .neq 31 (.tmp 124) (.tmp 128) (rpv (⟨xtos, 0, false, false, 0, xttl, xpr, xsrc, xdst, xl⟩ : Pk)) (rpv (⟨xtos, 0, false, false, 0, xttl, xpr, xsrc, xdst, xl⟩ : Pk))).run Tryd.prog w = .ok () w := fun w => rpv_guard .neq (.tmp 124) (.tmp 128) (⟨xtos, 0, false, false, 0, xttl, xpr, xsrc, xdst, xl⟩ : Pk) (⟨xtos, 0, false, false, 0, xttl, xpr, xsrc, xdst, xl⟩ : Pk) w
            have Z1 := Lib.hid z1
            have Z2 := Lib.hid z2
            clear hb2v z1 z2
            have hS0 : Ex (fun _ => False) wv wv.drew := (Ex.refl _ wv).drew
            refine wp_region_held_drew (S := fun W => Ex (fun _ => False) wv W) (by kernel_rfl) hS0 (fun _ => ?_)
            refine wpAnyH_take (i := 0) (oi := { dst := some 109, op := .move (.tmp 20), type := 35, pos := "more.go:40", after := #[], guard := none }) (v := ?v29) rfl (by kernel_rfl) (by kernel_rfl) (by kernel_rfl) (fun _ _ _ h => h) (Or.inl ⟨by rfl, ?hy29⟩) (by assumption) ?rest29
            case hy29 => (intro w hSw; (try dsimp only at hSw); go_simp <;> with_reducible rfl)
            try simp only [Act.put, List.setIfInBounds_toArray, List.set_cons_zero, List.set_cons_succ]
            refine wpAnyH_take (i := 1) (oi := { dst := some 110, op := .binOp .neq 35 (.tmp 109) (.const .nilIface) 35, type := 4, pos := "more.go:40", after := #[{ on := 0, ground := .data }], guard := none }) (v := ?v30) rfl (by kernel_rfl) (by kernel_rfl) (by kernel_rfl) (fun _ _ _ h => h) (Or.inl ⟨by rfl, ?hy30⟩) (by assumption) ?rest30
            case hy30 => (intro w hSw; (try dsimp only at hSw); go_simp <;> with_reducible rfl)
            try simp only [Act.put, List.setIfInBounds_toArray, List.set_cons_zero, List.set_cons_succ]
            refine wpAnyH_take (i := 2) (oi := { dst := some 111, op := .move (.tmp 110), type := 4, pos := "more.go:40", after := #[{ on := 1, ground := .data }], guard := none }) (v := ?v31) rfl (by kernel_rfl) (by kernel_rfl) (by kernel_rfl) (fun _ _ _ h => h) (Or.inl ⟨by rfl, ?hy31⟩) (by assumption) ?rest31
            case hy31 => (intro w hSw; (try dsimp only at hSw); go_simp <;> with_reducible rfl)
            try simp only [Act.put, List.setIfInBounds_toArray, List.set_cons_zero, List.set_cons_succ]
            refine wpAnyH_take (i := 3) (oi := { dst := some 112, op := .move (.tmp 19), type := 4, pos := "more.go:40", after := #[{ on := 2, ground := .guard }], guard := some (2, false) }) (v := ?v32) rfl (by kernel_rfl) (by kernel_rfl) (by kernel_rfl) (fun _ _ _ h => h) (Or.inl ⟨by rfl, ?hy32⟩) (by assumption) ?rest32
            case hy32 => (intro w hSw; (try dsimp only at hSw); go_simp <;> with_reducible rfl)
            try simp only [Act.put, List.setIfInBounds_toArray, List.set_cons_zero, List.set_cons_succ]
            refine wpAnyH_take (i := 4) (oi := { dst := some 113, op := .move (.tmp 17), type := 3, pos := "more.go:40", after := #[{ on := 2, ground := .guard }], guard := some (2, false) }) (v := ?v33) rfl (by kernel_rfl) (by kernel_rfl) (by kernel_rfl) (fun _ _ _ h => h) (Or.inl ⟨by rfl, ?hy33⟩) (by assumption) ?rest33
            case hy33 => (intro w hSw; (try dsimp only at hSw); go_simp <;> with_reducible rfl)
            try simp only [Act.put, List.setIfInBounds_toArray, List.set_cons_zero, List.set_cons_succ]
            refine wpAnyH_take (i := 5) (oi := { dst := some 114, op := .indexAddr 61 (.tmp 11) (.tmp 113), type := 0, pos := "more.go:40", after := #[{ on := 4, ground := .data }, { on := 2, ground := .guard }], guard := some (2, false) }) (v := ?v34) rfl (by kernel_rfl) (by kernel_rfl) (by kernel_rfl) (fun _ _ _ h => h) (Or.inl ⟨by rfl, ?hy34⟩) (by assumption) ?rest34
            case hy34 => (intro w hSw; (try dsimp only at hSw); go_simp <;> with_reducible rfl)
            try simp only [Act.put, List.setIfInBounds_toArray, List.set_cons_zero, List.set_cons_succ]
            refine wpAnyH_take (i := 6) (oi := { dst := some 115, op := .load 33 (.tmp 114), type := 33, pos := "more.go:40", after := #[{ on := 5, ground := .data }, { on := 2, ground := .guard }], guard := some (2, false) }) (v := ?v35) rfl (by kernel_rfl) (by kernel_rfl) (by kernel_rfl) (fun _ _ _ h => h) (Or.inl ⟨by rfl, ?hy35⟩) (by assumption) ?rest35
            case hy35 => (intro w hSw; (try dsimp only at hSw); have ecb30 := hSw.cell cb30 id; go_simp <;> with_reducible rfl)
            try simp only [Act.put, List.setIfInBounds_toArray, List.set_cons_zero, List.set_cons_succ]
            refine wpAnyH_take (i := 7) (oi := { dst := some 116, op := .call { callee := .builtin .len, args := #[.tmp 115], argTypes := #[33] }, type := 3, pos := "more.go:40", after := #[{ on := 6, ground := .data }, { on := 2, ground := .guard }], guard := some (2, false) }) (v := ?v36) rfl (by kernel_rfl) (by kernel_rfl) (by kernel_rfl) (fun _ _ _ h => h) (Or.inl ⟨by rfl, ?hy36⟩) (by assumption) ?rest36
            case hy36 => (intro w hSw; (try dsimp only at hSw); go_simp <;> with_reducible rfl)
            try simp only [Act.put, List.setIfInBounds_toArray, List.set_cons_zero, List.set_cons_succ]
            refine wpAnyH_take (i := 8) (oi := { dst := some 117, op := .binOp .eql 3 (.tmp 116) (.const (.int .i64 0)) 3, type := 4, pos := "more.go:40", after := #[{ on := 7, ground := .data }, { on := 2, ground := .guard }], guard := some (2, false) }) (v := ?v37) rfl (by kernel_rfl) (by kernel_rfl) (by kernel_rfl) (fun _ _ _ h => h) (Or.inl ⟨by rfl, ?hy37⟩) (by assumption) ?rest37
            case hy37 => (intro w hSw; (try dsimp only at hSw); have hl1z := HL1Z.out; go_simp <;> with_reducible rfl)
            try simp only [Act.put, List.setIfInBounds_toArray, List.set_cons_zero, List.set_cons_succ]
            refine wpAnyH_take (i := 9) (oi := { dst := some 118, op := .binOp .neq 4 (.tmp 112) (.tmp 117) 4, type := 4, pos := "more.go:40", after := #[{ on := 3, ground := .data }, { on := 8, ground := .data }, { on := 2, ground := .guard }], guard := some (2, false) }) (v := ?v38) rfl (by kernel_rfl) (by kernel_rfl) (by kernel_rfl) (fun _ _ _ h => h) (Or.inl ⟨by rfl, ?hy38⟩) (by assumption) ?rest38
            case hy38 => (intro w hSw; (try dsimp only at hSw); go_simp <;> with_reducible rfl)
            try simp only [Act.put, List.setIfInBounds_toArray, List.set_cons_zero, List.set_cons_succ]
            refine wpAnyH_take (i := 10) (oi := { dst := some 119, op := .pick (.tmp 111) (.const (.bool true)) (.tmp 118), type := 4, pos := "more.go:40", after := #[{ on := 2, ground := .data }, { on := 9, ground := .data }], guard := none }) (v := ?v39) rfl (by kernel_rfl) (by kernel_rfl) (by kernel_rfl) (fun _ _ _ h => h) (Or.inl ⟨by rfl, ?hy39⟩) (by assumption) ?rest39
            case hy39 => (intro w hSw; (try dsimp only at hSw); go_simp <;> with_reducible rfl)
            try simp only [Act.put, List.setIfInBounds_toArray, List.set_cons_zero, List.set_cons_succ]
            refine wpAnyH_take (i := 11) (oi := { dst := some 120, op := .move (.tmp 119), type := 4, pos := "more.go:40", after := #[{ on := 10, ground := .data }, { on := 2, ground := .chain }], guard := none }) (v := ?v40) rfl (by kernel_rfl) (by kernel_rfl) (by kernel_rfl) (fun _ _ _ h => h) (Or.inl ⟨by rfl, ?hy40⟩) (by assumption) ?rest40
            case hy40 => (intro w hSw; (try dsimp only at hSw); go_simp <;> with_reducible rfl)
            try simp only [Act.put, List.setIfInBounds_toArray, List.set_cons_zero, List.set_cons_succ]
            refine wpAnyH_take (i := 12) (oi := { dst := some 121, op := .move (.tmp 19), type := 4, pos := "more.go:40", after := #[{ on := 11, ground := .guard }], guard := some (11, false) }) (v := ?v41) rfl (by kernel_rfl) (by kernel_rfl) (by kernel_rfl) (fun _ _ _ h => h) (Or.inl ⟨by rfl, ?hy41⟩) (by assumption) ?rest41
            case hy41 => (intro w hSw; (try dsimp only at hSw); go_simp <;> with_reducible rfl)
            try simp only [Act.put, List.setIfInBounds_toArray, List.set_cons_zero, List.set_cons_succ]
            refine wpAnyH_take (i := 13) (oi := { dst := some 122, op := .move (.tmp 121), type := 4, pos := "more.go:40", after := #[{ on := 12, ground := .data }, { on := 11, ground := .chain }, { on := 11, ground := .guard }], guard := some (11, false) }) (v := ?v42) rfl (by kernel_rfl) (by kernel_rfl) (by kernel_rfl) (fun _ _ _ h => h) (Or.inl ⟨by rfl, ?hy42⟩) (by assumption) ?rest42
            case hy42 => (intro w hSw; (try dsimp only at hSw); go_simp <;> with_reducible rfl)
            try simp only [Act.put, List.setIfInBounds_toArray, List.set_cons_zero, List.set_cons_succ]
            refine wpAnyH_take (i := 14) (oi := { dst := some 123, op := .load 27 (.tmp 18), type := 27, pos := "more.go:40", after := #[{ on := 13, ground := .guard }], guard := some (13, true) }) (v := ?v43) rfl (by kernel_rfl) (by kernel_rfl) (by kernel_rfl) (fun _ _ _ h => h) (Or.inl ⟨by rfl, ?hy43⟩) (by assumption) ?rest43
            case hy43 => (intro w hSw; (try dsimp only at hSw); have ecxq0 := hSw.cell cxq0 id; have ecxq1 := hSw.cell cxq1 id; have ecxq2 := hSw.cell cxq2 id; have ecxq3 := hSw.cell cxq3 id; have ecxq4 := hSw.cell cxq4 id; have ecxq5 := hSw.cell cxq5 id; have ecxq6 := hSw.cell cxq6 id; have ecxq7 := hSw.cell cxq7 id; have ecxq8 := hSw.cell cxq8 id; have ecxq9 := hSw.cell cxq9 id; go_simp <;> with_reducible rfl)
            try simp only [Act.put, List.setIfInBounds_toArray, List.set_cons_zero, List.set_cons_succ]
            refine wpAnyH_take (i := 16) (oi := { dst := some 125, op := .move (.tmp 17), type := 3, pos := "more.go:40", after := #[{ on := 13, ground := .guard }], guard := some (13, true) }) (v := ?v44) rfl (by kernel_rfl) (by kernel_rfl) (by kernel_rfl) (fun _ _ _ h => h) (Or.inl ⟨by rfl, ?hy44⟩) (by assumption) ?rest44
            case hy44 => (intro w hSw; (try dsimp only at hSw); go_simp <;> with_reducible rfl)
            try simp only [Act.put, List.setIfInBounds_toArray, List.set_cons_zero, List.set_cons_succ]
            refine wpAnyH_take (i := 17) (oi := { dst := some 126, op := .indexAddr 60 (.tmp 10) (.tmp 125), type := 0, pos := "more.go:40", after := #[{ on := 16, ground := .data }, { on := 13, ground := .guard }], guard := some (13, true) }) (v := ?v45) rfl (by kernel_rfl) (by kernel_rfl) (by kernel_rfl) (fun _ _ _ h => h) (Or.inl ⟨by rfl, ?hy45⟩) (by assumption) ?rest45
            case hy45 => (intro w hSw; (try dsimp only at hSw); go_simp <;> with_reducible rfl)
            try simp only [Act.put, List.setIfInBounds_toArray, List.set_cons_zero, List.set_cons_succ]
            refine wpAnyH_take (i := 18) (oi := { dst := some 127, op := .load 27 (.tmp 126), type := 27, pos := "more.go:40", after := #[{ on := 17, ground := .data }, { on := 13, ground := .guard }], guard := some (13, true) }) (v := ?v46) rfl (by kernel_rfl) (by kernel_rfl) (by kernel_rfl) (fun _ _ _ h => h) (Or.inl ⟨by rfl, ?hy46⟩) (by assumption) ?rest46
            case hy46 => (intro w hSw; (try dsimp only at hSw); have ecv0 := hSw.cell cv0 id; have ecv1 := hSw.cell cv1 id; have ecv2 := hSw.cell cv2 id; have ecv3 := hSw.cell cv3 id; have ecv4 := hSw.cell cv4 id; have ecv5 := hSw.cell cv5 id; have ecv6 := hSw.cell cv6 id; have ecv7 := hSw.cell cv7 id; have ecv8 := hSw.cell cv8 id; have ecv9 := hSw.cell cv9 id; go_simp <;> with_reducible rfl)
            try simp only [Act.put, List.setIfInBounds_toArray, List.set_cons_zero, List.set_cons_succ]
            refine wpAnyH_ready (rs := [15]) (by kernel_rfl) (by simp) ?_
            refine AllReadyH.cons (o := { dst := some 124, op := .call { callee := .value (.func 14), args := #[.tmp 123], argTypes := #[27] }, type := 31, pos := "more.go:40", after := #[{ on := 14, ground := .data }, { on := 13, ground := .chain }, { on := 13, ground := .guard }], guard := some (13, true) }) rfl (fun K hK => ?_) AllReadyH.nil
            go_simp
            refine (of10_any _ (⟨xtos, 0, false, false, 0, xttl, xpr, xsrc, xdst, xl⟩ : Pk) A9 c9 _ HOKX.out (HO9V.out.keep (Ex.refl (fun _ => False) wv).drew (fun _ _ _ _ => id)).rb).mono ?_
            rintro e wx ⟨rfl, hx⟩
            have hS1 := hS0.trans hx
            have HS1 := Lib.hid hS1
            clear hx
            refine hK.out _ _ hS1 (fun _ => ?_)
            refine wpAnyH_ready (rs := [19]) (by kernel_rfl) (by simp) ?_
            refine AllReadyH.cons (o := { dst := some 128, op := .call { callee := .value (.func 14), args := #[.tmp 127], argTypes := #[27] }, type := 31, pos := "more.go:40", after := #[{ on := 18, ground := .data }, { on := 15, ground := .chain }, { on := 13, ground := .guard }], guard := some (13, true) }) rfl (fun K hK => ?_) AllReadyH.nil
            go_simp
            refine (of10_any _ (⟨xtos, 0, false, false, 0, xttl, xpr, xsrc, xdst, xl⟩ : Pk) (some xA) xc _ HOKX.out (HOKV.out.keep HS1.out (fun _ _ _ _ => id)).rb).mono ?_
            rintro e wy ⟨rfl, hx⟩
            have hS2 := hS1.trans hx
            clear hx
            refine hK.out _ _ hS2 (fun _ => ?_)
            refine wpAnyH_take (i := 20) (oi := { dst := some 129, op := .binOp .neq 31 (.tmp 124) (.tmp 128) 31, type := 4, pos := "more.go:40", after := #[{ on := 15, ground := .data }, { on := 19, ground := .data }, { on := 13, ground := .guard }], guard := some (13, true) }) (v := ?v47) rfl (by kernel_rfl) (by kernel_rfl) (by kernel_rfl) (fun _ _ _ h => h) (Or.inl ⟨by rfl, ?hy47⟩) (by assumption) ?rest47
            case hy47 => (intro w hSw; (try dsimp only at hSw); have z1 := Z1.out; have z2 := Z2.out; go_simp <;> with_reducible rfl)
            try simp only [Act.put, List.setIfInBounds_toArray, List.set_cons_zero, List.set_cons_succ]
            refine wpAnyH_take (i := 21) (oi := { dst := some 130, op := .pick (.tmp 122) (.tmp 129) (.const (.bool false)), type := 4, pos := "more.go:40", after := #[{ on := 13, ground := .data }, { on := 20, ground := .data }, { on := 11, ground := .guard }], guard := some (11, false) }) (v := ?v48) rfl (by kernel_rfl) (by kernel_rfl) (by kernel_rfl) (fun _ _ _ h => h) (Or.inl ⟨by rfl, ?hy48⟩) (by assumption) ?rest48
            case hy48 => (intro w hSw; (try dsimp only at hSw); go_simp <;> with_reducible rfl)
            try simp only [Act.put, List.setIfInBounds_toArray, List.set_cons_zero, List.set_cons_succ]
            refine wpAnyH_take (i := 22) (oi := { dst := some 131, op := .pick (.tmp 120) (.const (.bool true)) (.tmp 130), type := 4, pos := "more.go:40", after := #[{ on := 11, ground := .data }, { on := 21, ground := .data }], guard := none }) (v := ?v49) rfl (by kernel_rfl) (by kernel_rfl) (by kernel_rfl) (fun _ _ _ h => h) (Or.inl ⟨by rfl, ?hy49⟩) (by assumption) ?rest49
            case hy49 => (intro w hSw; (try dsimp only at hSw); go_simp <;> with_reducible rfl)
            try simp only [Act.put, List.setIfInBounds_toArray, List.set_cons_zero, List.set_cons_succ]
            refine wpAnyH_done (by kernel_rfl) ?_ _
            have HXE : Hid (Ex (fun _ => False) wv wy) := hS2
            clear hS0 hS1 hS2 cb30 cxq0 cxq1 cxq2 cxq3 cxq4 cxq5 cxq6 cxq7 cxq8 cxq9 cv0 cv1 cv2 cv3 cv4 cv5 cv6 cv7 cv8 cv9
            have HXN3 : Hid (Ex (fun j => j = b3) wt wv) := (HX_wu.out.mono (fun _ _ h => h.elim)).trans HX_wv.out
            have HTWV := Lib.hid (((HTWT.out.keep HX_wu.out).low HX_wv.out HB3B.out).keep HXE.out)
            have HB3E := Lib.hid ((HXE.out.block b3 (row_lt B_b3.out) id).trans B_b3.out)
            have HXQE : Hid (Ex (fun k => k = b3 ∨ B ≤ k) wq wy) := (HXT.out.trans (HXN3.out.mono (fun _ _ h => .inl h))).trans (HXE.out.mono (fun _ _ h => h.elim))
            have hwi := i_1t HI84.out
            go_wp2_with fail
            go_roundg (l1 + lb)
            case measure => have h := HKX.out; omega
            case rel => exact ⟨i + 1, a + 1, b, l1, lb, cc1, cb, on, ob, by first | (simp; done) | (rw [i_2t HI84.out]), Nat.le_refl _, Lib.hid (by have h := HAB.out; have h2 := HON2.out; have h3 := HOA.out; omega), HB3E, HTWV, HXQE⟩
          ·
           have HLZ9 := Lib.hid hlz
           clear hlz
           go_upto_region 27 with fail
           have cb30 := row_cell (k := 0) (v := .slice (some ⟨g0, oa, none⟩) la ca) B_b3.out rfl
           have cb31 := row_cell (k := 1) (v := .slice (some ⟨g1, ob, none⟩) lb cb) B_b3.out rfl
           have hlz := HLZ9.out
           have HLZ := Lib.hid hlz
           have HOA := Lib.hid (HAB.out.2.2.2.1.resolve_left hlz)
           obtain ⟨l1, hl1⟩ : ∃ l1, lb = l1 + 1 := ⟨lb - 1, by omega⟩
           obtain ⟨cc1, hc1⟩ : ∃ c1, cb = c1 + 1 := ⟨cb - 1, by have h := HAB.out; omega⟩
           have han : b < n1 := by have h := HAB.out; omega
           have HL1 := Lib.hid hl1
           have HC1 := Lib.hid hc1
           have HAN := Lib.hid han
           subst hl1 hc1
           obtain ⟨on, hon, hon2⟩ := off_next g1 ob cc1
           have HON := Lib.hid hon
           have HON2 := Lib.hid hon2
           clear hon hon2
           have hplr := HPL1.out.keepS HXQ.out (fun j h1 h2 h3 => by
            have h4 := HB1.out
            have h5 := HBE.out
            rcases h3 with h3 | h3 <;> omega)
           obtain ⟨vmf, voff, vb, vA, vc, hpe_v, hbl_v, hob_v, hrow_v⟩ := hplr.row han
           rw [← HOA.out] at hrow_v
           have lc0 : wr.cell? ⟨g1, ob, none⟩ = some (.int .u8 ytos) := hrow_v 0 _ rfl
           have lc1 : wr.cell? ⟨g1, ob + 1, none⟩ = some (.int .u16 1) := hrow_v 1 _ rfl
           have lc2 : wr.cell? ⟨g1, ob + 2, none⟩ = some (.bool false) := hrow_v 2 _ rfl
           have lc3 : wr.cell? ⟨g1, ob + 3, none⟩ = some (.bool vmf) := hrow_v 3 _ rfl
           have lc4 : wr.cell? ⟨g1, ob + 4, none⟩ = some (.int .i64 voff) := hrow_v 4 _ rfl
           have lc5 : wr.cell? ⟨g1, ob + 5, none⟩ = some (.int .u8 yttl) := hrow_v 5 _ rfl
           have lc6 : wr.cell? ⟨g1, ob + 6, none⟩ = some (.int .u8 ypr) := hrow_v 6 _ rfl
           have lc7 : wr.cell? ⟨g1, ob + 7, none⟩ = some (.int .u32 ysrc) := hrow_v 7 _ rfl
           have lc8 : wr.cell? ⟨g1, ob + 8, none⟩ = some (.int .u32 ydst) := hrow_v 8 _ rfl
           have lc9 : wr.cell? ⟨g1, ob + 9, none⟩ = some (.slice vA vb.length vc) := hrow_v 9 _ rfl
           have hcall := two_take HPL1.out.pd HN1.out.2 HOKY.out rfl rfl HRY.out HYN.out HKB.out.symm han (⟨ytos, 1, false, vmf, voff, yttl, ypr, ysrc, ydst, vb⟩ : Pk) hpe_v.symm vA vc 1 B rb bm 9 wr HTW.out.swap (RB.any hob_v.rb) hob_v.anyA
           have HC := Lib.hid hcall
           clear hcall hrow_v hpe_v hob_v hbl_v hplr han
           go_wp2_with fail
           refine HC.out.mono ?_
           rintro e wt ⟨htw, hup, ⟨hlt, rfl⟩ | ⟨heq, A9, c9, rfl, hob9⟩⟩
           ·
            have HB3T := Lib.hid (box_up B_b3.out hup HB3B.out)
            have HTWT := Lib.hid htw.swap
            have HXT : Hid (Ex (fun k => k = b3 ∨ B ≤ k) wq wt) := HXQ.out.trans (hup.mono (fun _ _ h => .inr h))
            have HL1Z : Hid (((l1 : Int) == 0) = false) := t_ne0 (by have h := HAB.out; omega)
            clear hlt
            clear htw hup HC lc0 lc1 lc2 lc3 lc4 lc5 lc6 lc7 lc8 lc9
            go_upto_region 28 with fail
            replace B_b3 := HB3T
            have hx : Ex (fun _ => False) wt (wt.alloc (.cells #[.int .u8 0, .int .u16 0, .bool false, .bool false, .int .i64 0, .int .u8 0, .int .u8 0, .int .u32 0, .int .u32 0, .slice none 0 0] 27)) := (Ex.refl _ wt).alloc _
            have hb : (wt.alloc (.cells #[.int .u8 0, .int .u16 0, .bool false, .bool false, .int .i64 0, .int .u8 0, .int .u8 0, .int .u32 0, .int .u32 0, .slice none 0 0] 27)).heap[wt.heap.size]? = some (.cells #[.int .u8 0, .int .u16 0, .bool false, .bool false, .int .i64 0, .int .u8 0, .int .u8 0, .int .u32 0, .int .u32 0, .slice none 0 0] 27) := heap_alloc_new wt _
            obtain ⟨xq, hxq⟩ : ∃ xq, xq = wt.heap.size := ⟨_, rfl⟩
            have hb_xq : wt.heap.size ≤ xq := by omega
            rw [← hxq] at hb
            try simp only [← hxq]
            generalize wt.alloc (.cells #[.int .u8 0, .int .u16 0, .bool false, .bool false, .int .i64 0, .int .u8 0, .int .u8 0, .int .u32 0, .int .u32 0, .slice none 0 0] 27) = wu at hx hb ⊢
            clear hxq
            have HX_wu := Lib.hid hx
            clear hx
            have B_xq := Lib.hid hb
            clear hb
            have HB3L2 := Lib.hid (row_lt B_b3.out)
            have ne_xq_b3 : xq ≠ b3 := by have := HB3L2.out; omega
            have cb31 := row_cell (k := 1) (v := .slice (some ⟨g1, ob, none⟩) (l1 + 1) (cc1 + 1)) ((HX_wu.out.block b3 (row_lt B_b3.out) id).trans B_b3.out) rfl
            have fb31 := row_frozen ((HX_wu.out.block b3 (row_lt B_b3.out) id).trans B_b3.out) 1
            have hon := HON.out
            go_upto_region 29 with fail
            clear hon
            replace B_b3 := Lib.hid ((HX_wu.out.block b3 (row_lt B_b3.out) id).trans B_b3.out)
            have hb : (wu.setCell ⟨b3, 1, none⟩ (.slice (some ⟨g1, on, none⟩) l1 cc1)).heap[b3]? = some (.cells #[.slice (some ⟨g0, oa, none⟩) la ca, .slice (some ⟨g1, on, none⟩) l1 cc1] 61) := (row_set B_b3.out 1 (.slice (some ⟨g1, on, none⟩) l1 cc1))
            have hx : Ex (fun j => j = b3) wu (wu.setCell ⟨b3, 1, none⟩ (.slice (some ⟨g1, on, none⟩) l1 cc1)) := ((Ex.refl (fun j => j = b3) wu).setCell (p := ⟨b3, 1, none⟩) (.inl rfl) (.slice (some ⟨g1, on, none⟩) l1 cc1))
            clear cb31 fb31
            generalize (wu.setCell ⟨b3, 1, none⟩ (.slice (some ⟨g1, on, none⟩) l1 cc1)) = wv at hx hb ⊢
            clear B_b3
            have HX_wv := Lib.hid hx
            clear hx
            have B_b3 := Lib.hid hb
            clear hb
            have cb31 := row_cell (k := 1) (v := .slice (some ⟨g1, on, none⟩) l1 cc1) B_b3.out rfl
            have hS0 : Ex (fun _ => False) wv wv.drew := (Ex.refl _ wv).drew
            refine wp_region_held_drew (S := fun W => Ex (fun _ => False) wv W) (by kernel_rfl) hS0 (fun _ => ?_)
            refine wpAnyH_take (i := 0) (oi := { dst := some 109, op := .move (.tmp 20), type := 35, pos := "more.go:40", after := #[], guard := none }) (v := ?v50) rfl (by kernel_rfl) (by kernel_rfl) (by kernel_rfl) (fun _ _ _ h => h) (Or.inl ⟨by rfl, ?hy50⟩) (by assumption) ?rest50
            case hy50 => (intro w hSw; (try dsimp only at hSw); go_simp <;> with_reducible rfl)
            try simp only [Act.put, List.setIfInBounds_toArray, List.set_cons_zero, List.set_cons_succ]
            refine wpAnyH_take (i := 1) (oi := { dst := some 110, op := .binOp .neq 35 (.tmp 109) (.const .nilIface) 35, type := 4, pos := "more.go:40", after := #[{ on := 0, ground := .data }], guard := none }) (v := ?v51) rfl (by kernel_rfl) (by kernel_rfl) (by kernel_rfl) (fun _ _ _ h => h) (Or.inl ⟨by rfl, ?hy51⟩) (by assumption) ?rest51
            case hy51 => (intro w hSw; (try dsimp only at hSw); go_simp <;> with_reducible rfl)
            try simp only [Act.put, List.setIfInBounds_toArray, List.set_cons_zero, List.set_cons_succ]
            refine wpAnyH_take (i := 2) (oi := { dst := some 111, op := .move (.tmp 110), type := 4, pos := "more.go:40", after := #[{ on := 1, ground := .data }], guard := none }) (v := ?v52) rfl (by kernel_rfl) (by kernel_rfl) (by kernel_rfl) (fun _ _ _ h => h) (Or.inl ⟨by rfl, ?hy52⟩) (by assumption) ?rest52
            case hy52 => (intro w hSw; (try dsimp only at hSw); go_simp <;> with_reducible rfl)
            try simp only [Act.put, List.setIfInBounds_toArray, List.set_cons_zero, List.set_cons_succ]
            refine wpAnyH_take (i := 3) (oi := { dst := some 112, op := .move (.tmp 19), type := 4, pos := "more.go:40", after := #[{ on := 2, ground := .guard }], guard := some (2, false) }) (v := ?v53) rfl (by kernel_rfl) (by kernel_rfl) (by kernel_rfl) (fun _ _ _ h => h) (Or.inl ⟨by rfl, ?hy53⟩) (by assumption) ?rest53
            case hy53 => (intro w hSw; (try dsimp only at hSw); go_simp <;> with_reducible rfl)
            try simp only [Act.put, List.setIfInBounds_toArray, List.set_cons_zero, List.set_cons_succ]
            refine wpAnyH_take (i := 4) (oi := { dst := some 113, op := .move (.tmp 17), type := 3, pos := "more.go:40", after := #[{ on := 2, ground := .guard }], guard := some (2, false) }) (v := ?v54) rfl (by kernel_rfl) (by kernel_rfl) (by kernel_rfl) (fun _ _ _ h => h) (Or.inl ⟨by rfl, ?hy54⟩) (by assumption) ?rest54
            case hy54 => (intro w hSw; (try dsimp only at hSw); go_simp <;> with_reducible rfl)
            try simp only [Act.put, List.setIfInBounds_toArray, List.set_cons_zero, List.set_cons_succ]
            refine wpAnyH_take (i := 5) (oi := { dst := some 114, op := .indexAddr 61 (.tmp 11) (.tmp 113), type := 0, pos := "more.go:40", after := #[{ on := 4, ground := .data }, { on := 2, ground := .guard }], guard := some (2, false) }) (v := ?v55) rfl (by kernel_rfl) (by kernel_rfl) (by kernel_rfl) (fun _ _ _ h => h) (Or.inl ⟨by rfl, ?hy55⟩) (by assumption) ?rest55
            case hy55 => (intro w hSw; (try dsimp only at hSw); go_simp <;> with_reducible rfl)
            try simp only [Act.put, List.setIfInBounds_toArray, List.set_cons_zero, List.set_cons_succ]
            refine wpAnyH_take (i := 6) (oi := { dst := some 115, op := .load 33 (.tmp 114), type := 33, pos := "more.go:40", after := #[{ on := 5, ground := .data }, { on := 2, ground := .guard }], guard := some (2, false) }) (v := ?v56) rfl (by kernel_rfl) (by kernel_rfl) (by kernel_rfl) (fun _ _ _ h => h) (Or.inl ⟨by rfl, ?hy56⟩) (by assumption) ?rest56
            case hy56 => (intro w hSw; (try dsimp only at hSw); have ecb31 := hSw.cell cb31 id; go_simp <;> with_reducible rfl)
            try simp only [Act.put, List.setIfInBounds_toArray, List.set_cons_zero, List.set_cons_succ]
            refine wpAnyH_take (i := 7) (oi := { dst := some 116, op := .call { callee := .builtin .len, args := #[.tmp 115], argTypes := #[33] }, type := 3, pos := "more.go:40", after := #[{ on := 6, ground := .data }, { on := 2, ground := .guard }], guard := some (2, false) }) (v := ?v57) rfl (by kernel_rfl) (by kernel_rfl) (by kernel_rfl) (fun _ _ _ h => h) (Or.inl ⟨by rfl, ?hy57⟩) (by assumption) ?rest57
            case hy57 => (intro w hSw; (try dsimp only at hSw); go_simp <;> with_reducible rfl)
            try simp only [Act.put, List.setIfInBounds_toArray, List.set_cons_zero, List.set_cons_succ]
            refine wpAnyH_take (i := 8) (oi := { dst := some 117, op := .binOp .eql 3 (.tmp 116) (.const (.int .i64 0)) 3, type := 4, pos := "more.go:40", after := #[{ on := 7, ground := .data }, { on := 2, ground := .guard }], guard := some (2, false) }) (v := ?v58) rfl (by kernel_rfl) (by kernel_rfl) (by kernel_rfl) (fun _ _ _ h => h) (Or.inl ⟨by rfl, ?hy58⟩) (by assumption) ?rest58
            case hy58 => (intro w hSw; (try dsimp only at hSw); have hl1z := HL1Z.out; go_simp <;> with_reducible rfl)
            try simp only [Act.put, List.setIfInBounds_toArray, List.set_cons_zero, List.set_cons_succ]
            refine wpAnyH_take (i := 9) (oi := { dst := some 118, op := .binOp .neq 4 (.tmp 112) (.tmp 117) 4, type := 4, pos := "more.go:40", after := #[{ on := 3, ground := .data }, { on := 8, ground := .data }, { on := 2, ground := .guard }], guard := some (2, false) }) (v := ?v59) rfl (by kernel_rfl) (by kernel_rfl) (by kernel_rfl) (fun _ _ _ h => h) (Or.inl ⟨by rfl, ?hy59⟩) (by assumption) ?rest59
            case hy59 => (intro w hSw; (try dsimp only at hSw); go_simp <;> with_reducible rfl)
            try simp only [Act.put, List.setIfInBounds_toArray, List.set_cons_zero, List.set_cons_succ]
            refine wpAnyH_take (i := 10) (oi := { dst := some 119, op := .pick (.tmp 111) (.const (.bool true)) (.tmp 118), type := 4, pos := "more.go:40", after := #[{ on := 2, ground := .data }, { on := 9, ground := .data }], guard := none }) (v := ?v60) rfl (by kernel_rfl) (by kernel_rfl) (by kernel_rfl) (fun _ _ _ h => h) (Or.inl ⟨by rfl, ?hy60⟩) (by assumption) ?rest60
            case hy60 => (intro w hSw; (try dsimp only at hSw); go_simp <;> with_reducible rfl)
            try simp only [Act.put, List.setIfInBounds_toArray, List.set_cons_zero, List.set_cons_succ]
            refine wpAnyH_take (i := 11) (oi := { dst := some 120, op := .move (.tmp 119), type := 4, pos := "more.go:40", after := #[{ on := 10, ground := .data }, { on := 2, ground := .chain }], guard := none }) (v := ?v61) rfl (by kernel_rfl) (by kernel_rfl) (by kernel_rfl) (fun _ _ _ h => h) (Or.inl ⟨by rfl, ?hy61⟩) (by assumption) ?rest61
            case hy61 => (intro w hSw; (try dsimp only at hSw); go_simp <;> with_reducible rfl)
            try simp only [Act.put, List.setIfInBounds_toArray, List.set_cons_zero, List.set_cons_succ]
            refine wpAnyH_take (i := 12) (oi := { dst := some 121, op := .move (.tmp 19), type := 4, pos := "more.go:40", after := #[{ on := 11, ground := .guard }], guard := some (11, false) }) (v := ?v62) rfl (by kernel_rfl) (by kernel_rfl) (by kernel_rfl) (fun _ _ _ h => h) (Or.inl ⟨by rfl, ?hy62⟩) (by assumption) ?rest62
            case hy62 => (intro w hSw; (try dsimp only at hSw); go_simp <;> with_reducible rfl)
            try simp only [Act.put, List.setIfInBounds_toArray, List.set_cons_zero, List.set_cons_succ]
            refine wpAnyH_take (i := 13) (oi := { dst := some 122, op := .move (.tmp 121), type := 4, pos := "more.go:40", after := #[{ on := 12, ground := .data }, { on := 11, ground := .chain }, { on := 11, ground := .guard }], guard := some (11, false) }) (v := ?v63) rfl (by kernel_rfl) (by kernel_rfl) (by kernel_rfl) (fun _ _ _ h => h) (Or.inl ⟨by rfl, ?hy63⟩) (by assumption) ?rest63
            case hy63 => (intro w hSw; (try dsimp only at hSw); go_simp <;> with_reducible rfl)
            try simp only [Act.put, List.setIfInBounds_toArray, List.set_cons_zero, List.set_cons_succ]
            refine wpAnyH_take (i := 14) (oi := { dst := some 123, op := .load 27 (.tmp 18), type := 27, pos := "more.go:40", after := #[{ on := 13, ground := .guard }], guard := some (13, true) }) (v := undef) rfl (by kernel_rfl) (by kernel_rfl) (by kernel_rfl) (fun _ _ _ h => h) (Or.inr ⟨by rfl, rfl⟩) (by assumption) ?rest64
            try simp only [Act.put, List.setIfInBounds_toArray, List.set_cons_zero, List.set_cons_succ]
            refine wpAnyH_take (i := 15) (oi := { dst := some 124, op := .call { callee := .value (.func 14), args := #[.tmp 123], argTypes := #[27] }, type := 31, pos := "more.go:40", after := #[{ on := 14, ground := .data }, { on := 13, ground := .chain }, { on := 13, ground := .guard }], guard := some (13, true) }) (v := undef) rfl (by kernel_rfl) (by kernel_rfl) (by kernel_rfl) (fun _ _ _ h => h) (Or.inr ⟨by rfl, rfl⟩) (by assumption) ?rest65
            try simp only [Act.put, List.setIfInBounds_toArray, List.set_cons_zero, List.set_cons_succ]
            refine wpAnyH_take (i := 16) (oi := { dst := some 125, op := .move (.tmp 17), type := 3, pos := "more.go:40", after := #[{ on := 13, ground := .guard }], guard := some (13, true) }) (v := undef) rfl (by kernel_rfl) (by kernel_rfl) (by kernel_rfl) (fun _ _ _ h => h) (Or.inr ⟨by rfl, rfl⟩) (by assumption) ?rest66
            try simp only [Act.put, List.setIfInBounds_toArray, List.set_cons_zero, List.set_cons_succ]
            refine wpAnyH_take (i := 17) (oi := { dst := some 126, op := .indexAddr 60 (.tmp 10) (.tmp 125), type := 0, pos := "more.go:40", after := #[{ on := 16, ground := .data }, { on := 13, ground := .guard }], guard := some (13, true) }) (v := undef) rfl (by kernel_rfl) (by kernel_rfl) (by kernel_rfl) (fun _ _ _ h => h) (Or.inr ⟨by rfl, rfl⟩) (by assumption) ?rest67
            try simp only [Act.put, List.setIfInBounds_toArray, List.set_cons_zero, List.set_cons_succ]
            refine wpAnyH_take (i := 18) (oi := { dst := some 127, op := .load 27 (.tmp 126), type := 27, pos := "more.go:40", after := #[{ on := 17, ground := .data }, { on := 13, ground := .guard }], guard := some (13, true) }) (v := undef) rfl (by kernel_rfl) (by kernel_rfl) (by kernel_rfl) (fun _ _ _ h => h) (Or.inr ⟨by rfl, rfl⟩) (by assumption) ?rest68
            try simp only [Act.put, List.setIfInBounds_toArray, List.set_cons_zero, List.set_cons_succ]
            refine wpAnyH_take (i := 19) (oi := { dst := some 128, op := .call { callee := .value (.func 14), args := #[.tmp 127], argTypes := #[27] }, type := 31, pos := "more.go:40", after := #[{ on := 18, ground := .data }, { on := 15, ground := .chain }, { on := 13, ground := .guard }], guard := some (13, true) }) (v := undef) rfl (by kernel_rfl) (by kernel_rfl) (by kernel_rfl) (fun _ _ _ h => h) (Or.inr ⟨by rfl, rfl⟩) (by assumption) ?rest69
            try simp only [Act.put, List.setIfInBounds_toArray, List.set_cons_zero, List.set_cons_succ]
            refine wpAnyH_take (i := 20) (oi := { dst := some 129, op := .binOp .neq 31 (.tmp 124) (.tmp 128) 31, type := 4, pos := "more.go:40", after := #[{ on := 15, ground := .data }, { on := 19, ground := .data }, { on := 13, ground := .guard }], guard := some (13, true) }) (v := undef) rfl (by kernel_rfl) (by kernel_rfl) (by kernel_rfl) (fun _ _ _ h => h) (Or.inr ⟨by rfl, rfl⟩) (by assumption) ?rest70
            try simp only [Act.put, List.setIfInBounds_toArray, List.set_cons_zero, List.set_cons_succ]
            refine wpAnyH_take (i := 21) (oi := { dst := some 130, op := .pick (.tmp 122) (.tmp 129) (.const (.bool false)), type := 4, pos := "more.go:40", after := #[{ on := 13, ground := .data }, { on := 20, ground := .data }, { on := 11, ground := .guard }], guard := some (11, false) }) (v := ?v71) rfl (by kernel_rfl) (by kernel_rfl) (by kernel_rfl) (fun _ _ _ h => h) (Or.inl ⟨by rfl, ?hy71⟩) (by assumption) ?rest71
            case hy71 => (intro w hSw; (try dsimp only at hSw); go_simp <;> with_reducible rfl)
            try simp only [Act.put, List.setIfInBounds_toArray, List.set_cons_zero, List.set_cons_succ]
            refine wpAnyH_take (i := 22) (oi := { dst := some 131, op := .pick (.tmp 120) (.const (.bool true)) (.tmp 130), type := 4, pos := "more.go:40", after := #[{ on := 11, ground := .data }, { on := 21, ground := .data }], guard := none }) (v := ?v72) rfl (by kernel_rfl) (by kernel_rfl) (by kernel_rfl) (fun _ _ _ h => h) (Or.inl ⟨by rfl, ?hy72⟩) (by assumption) ?rest72
            case hy72 => (intro w hSw; (try dsimp only at hSw); go_simp <;> with_reducible rfl)
            try simp only [Act.put, List.setIfInBounds_toArray, List.set_cons_zero, List.set_cons_succ]
            refine wpAnyH_done (by kernel_rfl) ?_ _
            have HXE : Hid (Ex (fun _ => False) wv wv.drew) := hS0
            clear hS0 cb31
            have HXN3 : Hid (Ex (fun j => j = b3) wt wv) := (HX_wu.out.mono (fun _ _ h => h.elim)).trans HX_wv.out
            have HTWV := Lib.hid (((HTWT.out.keep HX_wu.out).low HX_wv.out HB3B.out).keep HXE.out)
            have HB3E := Lib.hid ((HXE.out.block b3 (row_lt B_b3.out) id).trans B_b3.out)
            have HXQE : Hid (Ex (fun k => k = b3 ∨ B ≤ k) wq wv.drew) := (HXT.out.trans (HXN3.out.mono (fun _ _ h => .inl h))).trans (HXE.out.mono (fun _ _ h => h.elim))
            have hwi := i_1t HI84.out
            generalize wv.drew = we at HTWV HB3E HXQE HXE ⊢
            go_wp2_with fail
            go_roundg (la + l1)
            case measure => have h := HKX.out; omega
            case rel => exact ⟨i + 1, a, b + 1, la, l1, ca, cc1, oa, on, by first | (simp; done) | (rw [i_2t HI84.out]), Nat.le_refl _, Lib.hid (by have h := HAB.out; have h2 := HON2.out; have h3 := HOA.out; omega), HB3E, HTWV, HXQE⟩
           ·
            have HB3T := Lib.hid (box_up B_b3.out hup HB3B.out)
            have HTWT := Lib.hid htw.swap
            have HXT : Hid (Ex (fun k => k = b3 ∨ B ≤ k) wq wt) := HXQ.out.trans (hup.mono (fun _ _ h => .inr h))
            have HL1Z : Hid (((l1 : Int) == 0) = true) := t_eq0 (by have h := HAB.out; omega)
            have HO9 := Lib.hid (show OB wt wr.heap.size (.slice A9 yl.length c9) yl from hob9)
            have hv : pkv (⟨ytos, 1, false, false, 0, yttl, ypr, ysrc, ydst, yl⟩ : Pk) (.slice A9 (⟨ytos, 1, false, false, 0, yttl, ypr, ysrc, ydst, yl⟩ : Pk).b.length c9) = .agg #[.int .u8 ytos, .int .u16 1, .bool false, .bool false, .int .i64 0, .int .u8 yttl, .int .u8 ypr, .int .u32 ysrc, .int .u32 ydst, .slice A9 yl.length c9] := rfl
            rw [hv]
            clear hv hob9 heq
            clear htw hup HC lc0 lc1 lc2 lc3 lc4 lc5 lc6 lc7 lc8 lc9
            go_upto_region 28 with fail
            replace B_b3 := HB3T
            have hx : Ex (fun _ => False) wt (wt.alloc (.cells #[.int .u8 ytos, .int .u16 1, .bool false, .bool false, .int .i64 0, .int .u8 yttl, .int .u8 ypr, .int .u32 ysrc, .int .u32 ydst, .slice A9 yl.length c9] 27)) := (Ex.refl _ wt).alloc _
            have hb : (wt.alloc (.cells #[.int .u8 ytos, .int .u16 1, .bool false, .bool false, .int .i64 0, .int .u8 yttl, .int .u8 ypr, .int .u32 ysrc, .int .u32 ydst, .slice A9 yl.length c9] 27)).heap[wt.heap.size]? = some (.cells #[.int .u8 ytos, .int .u16 1, .bool false, .bool false, .int .i64 0, .int .u8 yttl, .int .u8 ypr, .int .u32 ysrc, .int .u32 ydst, .slice A9 yl.length c9] 27) := heap_alloc_new wt _
            obtain ⟨xq, hxq⟩ : ∃ xq, xq = wt.heap.size := ⟨_, rfl⟩
            have hb_xq : wt.heap.size ≤ xq := by omega
            rw [← hxq] at hb
            try simp only [← hxq]
            generalize wt.alloc (.cells #[.int .u8 ytos, .int .u16 1, .bool false, .bool false, .int .i64 0, .int .u8 yttl, .int .u8 ypr, .int .u32 ysrc, .int .u32 ydst, .slice A9 yl.length c9] 27) = wu at hx hb ⊢
            clear hxq
            have HX_wu := Lib.hid hx
            clear hx
            have B_xq := Lib.hid hb
            clear hb
            have HB3L2 := Lib.hid (row_lt B_b3.out)
            have ne_xq_b3 : xq ≠ b3 := by have := HB3L2.out; omega
            have cb31 := row_cell (k := 1) (v := .slice (some ⟨g1, ob, none⟩) (l1 + 1) (cc1 + 1)) ((HX_wu.out.block b3 (row_lt B_b3.out) id).trans B_b3.out) rfl
            have fb31 := row_frozen ((HX_wu.out.block b3 (row_lt B_b3.out) id).trans B_b3.out) 1
            have hon := HON.out
            go_upto_region 29 with fail
            clear hon
            replace B_b3 := Lib.hid ((HX_wu.out.block b3 (row_lt B_b3.out) id).trans B_b3.out)
            have hb : (wu.setCell ⟨b3, 1, none⟩ (.slice (some ⟨g1, on, none⟩) l1 cc1)).heap[b3]? = some (.cells #[.slice (some ⟨g0, oa, none⟩) la ca, .slice (some ⟨g1, on, none⟩) l1 cc1] 61) := (row_set B_b3.out 1 (.slice (some ⟨g1, on, none⟩) l1 cc1))
            have hx : Ex (fun j => j = b3) wu (wu.setCell ⟨b3, 1, none⟩ (.slice (some ⟨g1, on, none⟩) l1 cc1)) := ((Ex.refl (fun j => j = b3) wu).setCell (p := ⟨b3, 1, none⟩) (.inl rfl) (.slice (some ⟨g1, on, none⟩) l1 cc1))
            clear cb31 fb31
            generalize (wu.setCell ⟨b3, 1, none⟩ (.slice (some ⟨g1, on, none⟩) l1 cc1)) = wv at hx hb ⊢
            clear B_b3
            have HX_wv := Lib.hid hx
            clear hx
            have B_b3 := Lib.hid hb
            clear hb
            have cb31 := row_cell (k := 1) (v := .slice (some ⟨g1, on, none⟩) l1 cc1) B_b3.out rfl
            replace B_xq := Lib.hid ((HX_wv.out.block xq (row_lt B_xq.out) ne_xq_b3).trans B_xq.out)
            have cxq0 := row_cell (k := 0) (v := .int .u8 ytos) B_xq.out rfl
            have cxq1 := row_cell (k := 1) (v := .int .u16 1) B_xq.out rfl
            have cxq2 := row_cell (k := 2) (v := .bool false) B_xq.out rfl
            have cxq3 := row_cell (k := 3) (v := .bool false) B_xq.out rfl
            have cxq4 := row_cell (k := 4) (v := .int .i64 0) B_xq.out rfl
            have cxq5 := row_cell (k := 5) (v := .int .u8 yttl) B_xq.out rfl
            have cxq6 := row_cell (k := 6) (v := .int .u8 ypr) B_xq.out rfl
            have cxq7 := row_cell (k := 7) (v := .int .u32 ysrc) B_xq.out rfl
            have cxq8 := row_cell (k := 8) (v := .int .u32 ydst) B_xq.out rfl
            have cxq9 := row_cell (k := 9) (v := .slice A9 yl.length c9) B_xq.out rfl
            have HXV : Hid (Ex (fun k => k = b3 ∨ B ≤ k) wq wv) := (HXT.out.trans (HX_wu.out.mono (fun _ _ h => h.elim))).trans (HX_wv.out.mono (fun _ _ h => .inl h))
            have hb2v := (HXV.out.block b2 (row_lt B_b2.out) (fun e => by have h4 := HB23.out; have h5 := HB3B.out; rcases e with e | e <;> omega)).trans B_b2.out
            have cv0 := row_cell (k := 10) (v := .int .u8 ytos) hb2v rfl
            have cv1 := row_cell (k := 11) (v := .int .u16 1) hb2v rfl
            have cv2 := row_cell (k := 12) (v := .bool false) hb2v rfl
            have cv3 := row_cell (k := 13) (v := .bool false) hb2v rfl
            have cv4 := row_cell (k := 14) (v := .int .i64 0) hb2v rfl
            have cv5 := row_cell (k := 15) (v := .int .u8 yttl) hb2v rfl
            have cv6 := row_cell (k := 16) (v := .int .u8 ypr) hb2v rfl
            have cv7 := row_cell (k := 17) (v := .int .u32 ysrc) hb2v rfl
            have cv8 := row_cell (k := 18) (v := .int .u32 ydst) hb2v rfl
            have cv9 := row_cell (k := 19) (v := .slice (some yA) yl.length yc) hb2v rfl
            have HO9V := Lib.hid (obkeepT (HO9.out.keep HX_wu.out (fun _ _ _ _ => id)) HX_wv.out ((HX_wu.out.block b3 HB3L2.out id).trans HB3T.out) (by decide))
            have HOKV : Hid (OB wv w4.heap.size (.slice (some yA) yl.length yc) yl) := HO_y.out.keep HXV.out (fun j hj h1 h2 h3 => by
             rcases h3 with h3 | h3
             ·
              obtain ⟨cur, hc⟩ := ownsRow_isCells HO_y.out.2 hj
              have h6 := HB3Q.out
              rw [h3] at hc
              rw [h6] at hc
              injection hc with hc
              injection hc with _ hc
              exact absurd hc (by decide)
             ·
              have h5 := HBE.out
              omega)
            have z1 : ∀ w, (binOp .neq 31 (rpv (⟨ytos, 1, false, false, 0, yttl, ypr, ysrc, ydst, yl⟩ : Pk)) (rpv (⟨ytos, 1, false, false, 0, yttl, ypr, ysrc, ydst, yl⟩ : Pk))).run Tryd.prog w = .ok (.bool false) w := fun w => by have h := rpv_neq (⟨ytos, 1, false, false, 0, yttl, ypr, ysrc, ydst, yl⟩ : Pk) (⟨ytos, 1, false, false, 0, yttl, ypr, ysrc, ydst, yl⟩ : Pk) w; rw [Pk.eqB_self] at h; exact h
            have z2 : ∀ w, (eqGuard .neq 31 (.tmp 124) (.tmp 128) (rpv (⟨ytos, 1, false, false, 0, yttl, ypr, ysrc, ydst, yl⟩ : Pk)) (rpv (⟨ytos, 1, false, false, 0, yttl, ypr, ysrc, ydst, yl⟩ : Pk))).run Tryd.prog w = .ok () w := fun w => rpv_guard .neq (.tmp 124) (.tmp 128) (⟨ytos, 1, false, false, 0, yttl, ypr, ysrc, ydst, yl⟩ : Pk) (⟨ytos, 1, false, false, 0, yttl, ypr, ysrc, ydst, yl⟩ : Pk) w
            have Z1 := Lib.hid z1
            have Z2 := Lib.hid z2
            clear hb2v z1 z2
            have hS0 : Ex (fun _ => False) wv wv.drew := (Ex.refl _ wv).drew
            refine wp_region_held_drew (S := fun W => Ex (fun _ => False) wv W) (by kernel_rfl) hS0 (fun _ => ?_)
            refine wpAnyH_take (i := 0) (oi := { dst := some 109, op := .move (.tmp 20), type := 35, pos := "more.go:40", after := #[], guard := none }) (v := ?v73) rfl (by kernel_rfl) (by kernel_rfl) (by kernel_rfl) (fun _ _ _ h => h) (Or.inl ⟨by rfl, ?hy73⟩) (by assumption) ?rest73
            case hy73 => (intro w hSw; (try dsimp only at hSw); go_simp <;> with_reducible rfl)
            try simp only [Act.put, List.setIfInBounds_toArray, List.set_cons_zero, List.set_cons_succ]
            refine wpAnyH_take (i := 1) (oi := { dst := some 110, op := .binOp .neq 35 (.tmp 109) (.const .nilIface) 35, type := 4, pos := "more.go:40", after := #[{ on := 0, ground := .data }], guard := none }) (v := ?v74) rfl (by kernel_rfl) (by kernel_rfl) (by kernel_rfl) (fun _ _ _ h => h) (Or.inl ⟨by rfl, ?hy74⟩) (by assumption) ?rest74
            case hy74 => (intro w hSw; (try dsimp only at hSw); go_simp <;> with_reducible rfl)
            try simp only [Act.put, List.setIfInBounds_toArray, List.set_cons_zero, List.set_cons_succ]
            refine wpAnyH_take (i := 2) (oi := { dst := some 111, op := .move (.tmp 110), type := 4, pos := "more.go:40", after := #[{ on := 1, ground := .data }], guard := none }) (v := ?v75) rfl (by kernel_rfl) (by kernel_rfl) (by kernel_rfl) (fun _ _ _ h => h) (Or.inl ⟨by rfl, ?hy75⟩) (by assumption) ?rest75
            case hy75 => (intro w hSw; (try dsimp only at hSw); go_simp <;> with_reducible rfl)
            try simp only [Act.put, List.setIfInBounds_toArray, List.set_cons_zero, List.set_cons_succ]
            refine wpAnyH_take (i := 3) (oi := { dst := some 112, op := .move (.tmp 19), type := 4, pos := "more.go:40", after := #[{ on := 2, ground := .guard }], guard := some (2, false) }) (v := ?v76) rfl (by kernel_rfl) (by kernel_rfl) (by kernel_rfl) (fun _ _ _ h => h) (Or.inl ⟨by rfl, ?hy76⟩) (by assumption) ?rest76
            case hy76 => (intro w hSw; (try dsimp only at hSw); go_simp <;> with_reducible rfl)
            try simp only [Act.put, List.setIfInBounds_toArray, List.set_cons_zero, List.set_cons_succ]
            refine wpAnyH_take (i := 4) (oi := { dst := some 113, op := .move (.tmp 17), type := 3, pos := "more.go:40", after := #[{ on := 2, ground := .guard }], guard := some (2, false) }) (v := ?v77) rfl (by kernel_rfl) (by kernel_rfl) (by kernel_rfl) (fun _ _ _ h => h) (Or.inl ⟨by rfl, ?hy77⟩) (by assumption) ?rest77
            case hy77 => (intro w hSw; (try dsimp only at hSw); go_simp <;> with_reducible rfl)
            try simp only [Act.put, List.setIfInBounds_toArray, List.set_cons_zero, List.set_cons_succ]
            refine wpAnyH_take (i := 5) (oi := { dst := some 114, op := .indexAddr 61 (.tmp 11) (.tmp 113), type := 0, pos := "more.go:40", after := #[{ on := 4, ground := .data }, { on := 2, ground := .guard }], guard := some (2, false) }) (v := ?v78) rfl (by kernel_rfl) (by kernel_rfl) (by kernel_rfl) (fun _ _ _ h => h) (Or.inl ⟨by rfl, ?hy78⟩) (by assumption) ?rest78
            case hy78 => (intro w hSw; (try dsimp only at hSw); go_simp <;> with_reducible rfl)
            try simp only [Act.put, List.setIfInBounds_toArray, List.set_cons_zero, List.set_cons_succ]
            refine wpAnyH_take (i := 6) (oi := { dst := some 115, op := .load 33 (.tmp 114), type := 33, pos := "more.go:40", after := #[{ on := 5, ground := .data }, { on := 2, ground := .guard }], guard := some (2, false) }) (v := ?v79) rfl (by kernel_rfl) (by kernel_rfl) (by kernel_rfl) (fun _ _ _ h => h) (Or.inl ⟨by rfl, ?hy79⟩) (by assumption) ?rest79
            case hy79 => (intro w hSw; (try dsimp only at hSw); have ecb31 := hSw.cell cb31 id; go_simp <;> with_reducible rfl)
            try simp only [Act.put, List.setIfInBounds_toArray, List.set_cons_zero, List.set_cons_succ]
            refine wpAnyH_take (i := 7) (oi := { dst := some 116, op := .call { callee := .builtin .len, args := #[.tmp 115], argTypes := #[33] }, type := 3, pos := "more.go:40", after := #[{ on := 6, ground := .data }, { on := 2, ground := .guard }], guard := some (2, false) }) (v := ?v80) rfl (by kernel_rfl) (by kernel_rfl) (by kernel_rfl) (fun _ _ _ h => h) (Or.inl ⟨by rfl, ?hy80⟩) (by assumption) ?rest80
            case hy80 => (intro w hSw; (try dsimp only at hSw); go_simp <;> with_reducible rfl)
            try simp only [Act.put, List.setIfInBounds_toArray, List.set_cons_zero, List.set_cons_succ]
            refine wpAnyH_take (i := 8) (oi := { dst := some 117, op := .binOp .eql 3 (.tmp 116) (.const (.int .i64 0)) 3, type := 4, pos := "more.go:40", after := #[{ on := 7, ground := .data }, { on := 2, ground := .guard }], guard := some (2, false) }) (v := ?v81) rfl (by kernel_rfl) (by kernel_rfl) (by kernel_rfl) (fun _ _ _ h => h) (Or.inl ⟨by rfl, ?hy81⟩) (by assumption) ?rest81
            case hy81 => (intro w hSw; (try dsimp only at hSw); have hl1z := HL1Z.out; go_simp <;> with_reducible rfl)
            try simp only [Act.put, List.setIfInBounds_toArray, List.set_cons_zero, List.set_cons_succ]
            refine wpAnyH_take (i := 9) (oi := { dst := some 118, op := .binOp .neq 4 (.tmp 112) (.tmp 117) 4, type := 4, pos := "more.go:40", after := #[{ on := 3, ground := .data }, { on := 8, ground := .data }, { on := 2, ground := .guard }], guard := some (2, false) }) (v := ?v82) rfl (by kernel_rfl) (by kernel_rfl) (by kernel_rfl) (fun _ _ _ h => h) (Or.inl ⟨by rfl, ?hy82⟩) (by assumption) ?rest82
            case hy82 => (intro w hSw; (try dsimp only at hSw); go_simp <;> with_reducible rfl)
            try simp only [Act.put, List.setIfInBounds_toArray, List.set_cons_zero, List.set_cons_succ]
            refine wpAnyH_take (i := 10) (oi := { dst := some 119, op := .pick (.tmp 111) (.const (.bool true)) (.tmp 118), type := 4, pos := "more.go:40", after := #[{ on := 2, ground := .data }, { on := 9, ground := .data }], guard := none }) (v := ?v83) rfl (by kernel_rfl) (by kernel_rfl) (by kernel_rfl) (fun _ _ _ h => h) (Or.inl ⟨by rfl, ?hy83⟩) (by assumption) ?rest83
            case hy83 => (intro w hSw; (try dsimp only at hSw); go_simp <;> with_reducible rfl)
            try simp only [Act.put, List.setIfInBounds_toArray, List.set_cons_zero, List.set_cons_succ]
            refine wpAnyH_take (i := 11) (oi := { dst := some 120, op := .move (.tmp 119), type := 4, pos := "more.go:40", after := #[{ on := 10, ground := .data }, { on := 2, ground := .chain }], guard := none }) (v := ?v84) rfl (by kernel_rfl) (by kernel_rfl) (by kernel_rfl) (fun _ _ _ h => h) (Or.inl ⟨by rfl, ?hy84⟩) (by assumption) ?rest84
            case hy84 => (intro w hSw; (try dsimp only at hSw); go_simp <;> with_reducible rfl)
            try simp only [Act.put, List.setIfInBounds_toArray, List.set_cons_zero, List.set_cons_succ]
            refine wpAnyH_take (i := 12) (oi := { dst := some 121, op := .move (.tmp 19), type := 4, pos := "more.go:40", after := #[{ on := 11, ground := .guard }], guard := some (11, false) }) (v := ?v85) rfl (by kernel_rfl) (by kernel_rfl) (by kernel_rfl) (fun _ _ _ h => h) (Or.inl ⟨by rfl, ?hy85⟩) (by assumption) ?rest85
            case hy85 => (intro w hSw; (try dsimp only at hSw); go_simp <;> with_reducible rfl)
            try simp only [Act.put, List.setIfInBounds_toArray, List.set_cons_zero, List.set_cons_succ]
            refine wpAnyH_take (i := 13) (oi := { dst := some 122, op := .move (.tmp 121), type := 4, pos := "more.go:40", after := #[{ on := 12, ground := .data }, { on := 11, ground := .chain }, { on := 11, ground := .guard }], guard := some (11, false) }) (v := ?v86) rfl (by kernel_rfl) (by kernel_rfl) (by kernel_rfl) (fun _ _ _ h => h) (Or.inl ⟨by rfl, ?hy86⟩) (by assumption) ?rest86
            case hy86 => (intro w hSw; (try dsimp only at hSw); go_simp <;> with_reducible rfl)
            try simp only [Act.put, List.setIfInBounds_toArray, List.set_cons_zero, List.set_cons_succ]
            refine wpAnyH_take (i := 14) (oi := { dst := some 123, op := .load 27 (.tmp 18), type := 27, pos := "more.go:40", after := #[{ on := 13, ground := .guard }], guard := some (13, true) }) (v := ?v87) rfl (by kernel_rfl) (by kernel_rfl) (by kernel_rfl) (fun _ _ _ h => h) (Or.inl ⟨by rfl, ?hy87⟩) (by assumption) ?rest87
            case hy87 => (intro w hSw; (try dsimp only at hSw); have ecxq0 := hSw.cell cxq0 id; have ecxq1 := hSw.cell cxq1 id; have ecxq2 := hSw.cell cxq2 id; have ecxq3 := hSw.cell cxq3 id; have ecxq4 := hSw.cell cxq4 id; have ecxq5 := hSw.cell cxq5 id; have ecxq6 := hSw.cell cxq6 id; have ecxq7 := hSw.cell cxq7 id; have ecxq8 := hSw.cell cxq8 id; have ecxq9 := hSw.cell cxq9 id; go_simp <;> with_reducible rfl)
            try simp only [Act.put, List.setIfInBounds_toArray, List.set_cons_zero, List.set_cons_succ]
            refine wpAnyH_take (i := 16) (oi := { dst := some 125, op := .move (.tmp 17), type := 3, pos := "more.go:40", after := #[{ on := 13, ground := .guard }], guard := some (13, true) }) (v := ?v88) rfl (by kernel_rfl) (by kernel_rfl) (by kernel_rfl) (fun _ _ _ h => h) (Or.inl ⟨by rfl, ?hy88⟩) (by assumption) ?rest88
            case hy88 => (intro w hSw; (try dsimp only at hSw); go_simp <;> with_reducible rfl)
            try simp only [Act.put, List.setIfInBounds_toArray, List.set_cons_zero, List.set_cons_succ]
            refine wpAnyH_take (i := 17) (oi := { dst := some 126, op := .indexAddr 60 (.tmp 10) (.tmp 125), type := 0, pos := "more.go:40", after := #[{ on := 16, ground := .data }, { on := 13, ground := .guard }], guard := some (13, true) }) (v := ?v89) rfl (by kernel_rfl) (by kernel_rfl) (by kernel_rfl) (fun _ _ _ h => h) (Or.inl ⟨by rfl, ?hy89⟩) (by assumption) ?rest89
            case hy89 => (intro w hSw; (try dsimp only at hSw); go_simp <;> with_reducible rfl)
            try simp only [Act.put, List.setIfInBounds_toArray, List.set_cons_zero, List.set_cons_succ]
            refine wpAnyH_take (i := 18) (oi := { dst := some 127, op := .load 27 (.tmp 126), type := 27, pos := "more.go:40", after := #[{ on := 17, ground := .data }, { on := 13, ground := .guard }], guard := some (13, true) }) (v := ?v90) rfl (by kernel_rfl) (by kernel_rfl) (by kernel_rfl) (fun _ _ _ h => h) (Or.inl ⟨by rfl, ?hy90⟩) (by assumption) ?rest90
            case hy90 => (intro w hSw; (try dsimp only at hSw); have ecv0 := hSw.cell cv0 id; have ecv1 := hSw.cell cv1 id; have ecv2 := hSw.cell cv2 id; have ecv3 := hSw.cell cv3 id; have ecv4 := hSw.cell cv4 id; have ecv5 := hSw.cell cv5 id; have ecv6 := hSw.cell cv6 id; have ecv7 := hSw.cell cv7 id; have ecv8 := hSw.cell cv8 id; have ecv9 := hSw.cell cv9 id; go_simp <;> with_reducible rfl)
            try simp only [Act.put, List.setIfInBounds_toArray, List.set_cons_zero, List.set_cons_succ]
            refine wpAnyH_ready (rs := [15]) (by kernel_rfl) (by simp) ?_
            refine AllReadyH.cons (o := { dst := some 124, op := .call { callee := .value (.func 14), args := #[.tmp 123], argTypes := #[27] }, type := 31, pos := "more.go:40", after := #[{ on := 14, ground := .data }, { on := 13, ground := .chain }, { on := 13, ground := .guard }], guard := some (13, true) }) rfl (fun K hK => ?_) AllReadyH.nil
            go_simp
            refine (of10_any _ (⟨ytos, 1, false, false, 0, yttl, ypr, ysrc, ydst, yl⟩ : Pk) A9 c9 _ HOKY.out (HO9V.out.keep (Ex.refl (fun _ => False) wv).drew (fun _ _ _ _ => id)).rb).mono ?_
            rintro e wx ⟨rfl, hx⟩
            have hS1 := hS0.trans hx
            have HS1 := Lib.hid hS1
            clear hx
            refine hK.out _ _ hS1 (fun _ => ?_)
            refine wpAnyH_ready (rs := [19]) (by kernel_rfl) (by simp) ?_
            refine AllReadyH.cons (o := { dst := some 128, op := .call { callee := .value (.func 14), args := #[.tmp 127], argTypes := #[27] }, type := 31, pos := "more.go:40", after := #[{ on := 18, ground := .data }, { on := 15, ground := .chain }, { on := 13, ground := .guard }], guard := some (13, true) }) rfl (fun K hK => ?_) AllReadyH.nil
            go_simp
            refine (of10_any _ (⟨ytos, 1, false, false, 0, yttl, ypr, ysrc, ydst, yl⟩ : Pk) (some yA) yc _ HOKY.out (HOKV.out.keep HS1.out (fun _ _ _ _ => id)).rb).mono ?_
            rintro e wy ⟨rfl, hx⟩
            have hS2 := hS1.trans hx
            clear hx
            refine hK.out _ _ hS2 (fun _ => ?_)
            refine wpAnyH_take (i := 20) (oi := { dst := some 129, op := .binOp .neq 31 (.tmp 124) (.tmp 128) 31, type := 4, pos := "more.go:40", after := #[{ on := 15, ground := .data }, { on := 19, ground := .data }, { on := 13, ground := .guard }], guard := some (13, true) }) (v := ?v91) rfl (by kernel_rfl) (by kernel_rfl) (by kernel_rfl) (fun _ _ _ h => h) (Or.inl ⟨by rfl, ?hy91⟩) (by assumption) ?rest91
            case hy91 => (intro w hSw; (try dsimp only at hSw); have z1 := Z1.out; have z2 := Z2.out; go_simp <;> with_reducible rfl)
            try simp only [Act.put, List.setIfInBounds_toArray, List.set_cons_zero, List.set_cons_succ]
            refine wpAnyH_take (i := 21) (oi := { dst := some 130, op := .pick (.tmp 122) (.tmp 129) (.const (.bool false)), type := 4, pos := "more.go:40", after := #[{ on := 13, ground := .data }, { on := 20, ground := .data }, { on := 11, ground := .guard }], guard := some (11, false) }) (v := ?v92) rfl (by kernel_rfl) (by kernel_rfl) (by kernel_rfl) (fun _ _ _ h => h) (Or.inl ⟨by rfl, ?hy92⟩) (by assumption) ?rest92
            case hy92 => (intro w hSw; (try dsimp only at hSw); go_simp <;> with_reducible rfl)
            try simp only [Act.put, List.setIfInBounds_toArray, List.set_cons_zero, List.set_cons_succ]
            refine wpAnyH_take (i := 22) (oi := { dst := some 131, op := .pick (.tmp 120) (.const (.bool true)) (.tmp 130), type := 4, pos := "more.go:40", after := #[{ on := 11, ground := .data }, { on := 21, ground := .data }], guard := none }) (v := ?v93) rfl (by kernel_rfl) (by kernel_rfl) (by kernel_rfl) (fun _ _ _ h => h) (Or.inl ⟨by rfl, ?hy93⟩) (by assumption) ?rest93
            case hy93 => (intro w hSw; (try dsimp only at hSw); go_simp <;> with_reducible rfl)
            try simp only [Act.put, List.setIfInBounds_toArray, List.set_cons_zero, List.set_cons_succ]
            refine wpAnyH_done (by kernel_rfl) ?_ _
            have HXE : Hid (Ex (fun _ => False) wv wy) := hS2
            clear hS0 hS1 hS2 cb31 cxq0 cxq1 cxq2 cxq3 cxq4 cxq5 cxq6 cxq7 cxq8 cxq9 cv0 cv1 cv2 cv3 cv4 cv5 cv6 cv7 cv8 cv9
            have HXN3 : Hid (Ex (fun j => j = b3) wt wv) := (HX_wu.out.mono (fun _ _ h => h.elim)).trans HX_wv.out
            have HTWV := Lib.hid (((HTWT.out.keep HX_wu.out).low HX_wv.out HB3B.out).keep HXE.out)
            have HB3E := Lib.hid ((HXE.out.block b3 (row_lt B_b3.out) id).trans B_b3.out)
            have HXQE : Hid (Ex (fun k => k = b3 ∨ B ≤ k) wq wy) := (HXT.out.trans (HXN3.out.mono (fun _ _ h => .inl h))).trans (HXE.out.mono (fun _ _ h => h.elim))
            have hwi := i_1t HI84.out
            go_wp2_with fail
            go_roundg (la + l1)
            case measure => have h := HKX.out; omega
            case rel => exact ⟨i + 1, a, b + 1, la, l1, ca, cc1, oa, on, by first | (simp; done) | (rw [i_2t HI84.out]), Nat.le_refl _, Lib.hid (by have h := HAB.out; have h2 := HON2.out; have h3 := HOA.out; omega), HB3E, HTWV, HXQE⟩
     ·
      have hz : la = 0 ∧ lb = 0 := by have := HS.out; omega
      obtain ⟨rfl, rfl⟩ := hz
      have hab := HAB.out
      obtain rfl : a = n0 := by omega
      obtain rfl : b = n1 := by omega
      have HRZ := Lib.hid HTW.out.done
      have hs0 : s = 0 := HS.out
      subst hs0
      clear hab hkx hpos
      go_wp2_with fail
      refine (len_any B rb bm 9 [] wr HRZ.out).mono ?_
      rintro e wl ⟨rfl, hwl⟩
      obtain rfl : wr = wl := hwl.symm
      rw [show ((([] : List Hp).length : Int)) = 0 from rfl]
      go_wp2_with fail
      go_ret
      refine ⟨rfl, (HX03.out.trans HXR.out).andThen HXQ.out (fun k h1 h2 => ?_)⟩
      have h3 := HBE.out
      have h4 := (HX03.out.trans HXR.out).size
      have h5 := HB3L.out
      have h6 := HX03.out.size
      rcases h2 with h2 | h2 <;> omega
end Go.Proofs.YtabjihchcmjdmaaDoor
