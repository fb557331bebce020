/-
  The library sort at packets. By an AI agent.
-/
import Derived.Test.YtabjihchcmjdmaaDoorGb10
import Derived.Test.YtabjihchcmjdmaaDoorChecked
import Derived.Shelf.SlicesQ.IndexFunc
import Derived.Shelf.SlSortCmp.KitK
import Derived.Sort.Lot0
import Derived.Sort.WalkB2
import Derived.Sort.WalkB12
import Derived.Deep.LoopGhost
import Derived.Deep.Cut
/-
  slices.Values at packets; slices.AppendSeq and Collect of them. By an AI agent.
-/
namespace Go.Proofs.YtabjihchcmjdmaaDoor
open Go.RowKit

attribute [local go_sem] Oper.semAt_some
/-- what a round that goes on keeps: the row that is gone over -/
def Kr (g : Nat) (W W' : World) : Prop := W'.heap[g]? = W.heap[g]?
abbrev Po := Pk × Option Addr × Nat
def pov (x : Po) : Array Value := #[.agg (ocl x).toArray]
/-- a row of packets at the head of block g -/
def PRow (w : World) (g : Nat) (os : List Po) : Prop := ∀ i (h : i < os.length) k u, (ocl os[i])[k]? = some u → w.cell? ⟨g, i * 10 + k, none⟩ = some u
theorem PRow.kr {w w' : World} {g : Nat} {os : List Po} (h : PRow w g os) (hk : Kr g w w') : PRow w' g os := fun i hi k u hu => (World.cell?_of_block (a := ⟨g, i * 10 + k, none⟩) hk).trans (h i hi k u hu)
theorem PRow.lt {w : World} {g : Nat} {os : List Po} (h : PRow w g os) (hn : 0 < os.length) : g < w.heap.size := World.block_lt_of_cell? w ⟨g, 0 * 10 + 0, none⟩ (h 0 hn 0 _ rfl)
theorem meas_one {m k : Nat} (h : k < m) : m - (intOf (.int .i64 ((k : Int) + 1))).toNat < m - (intOf (.int .i64 (k : Int))).toNat := by
  simp only [intOf]
  omega
set_option maxRecDepth 100000 in
set_option maxHeartbeats 2000000 in
theorem vals1_in (n base : Nat) (hn : 1 ≤ n) (l Bs g cap m : Nat) (os : List Po) (hm : os.length = m) (hlen : m ≤ 1000000000) (J Jx : List Po → World → Prop) (hJa : AbidesFrom base J)
    (hY : ∀ pre x W, J pre W → pre.length < m → YieldAt Fence.wide (n - 1) Tryd.prog l (pov x) W fun e W' =>
      (e = .returned (.bool true) ∧ J (pre ++ [x]) W' ∧ Kr g W W') ∨ (e = .returned (.bool false) ∧ Jx (pre ++ [x]) W'))
    (W : World) (tb : TypeId) (hBs : W.heap[Bs]? = some (.cells #[.slice (some ⟨g, 0, none⟩) m cap] tb)) (hrow : PRow W g os) (h0 : J [] W) :
    CallsIn Fence.wide n Tryd.prog 55 #[.func (.yield l) #[] #[], .pointer (some ⟨Bs, 0, none⟩)] W fun e W' => (∃ v, e = .returned v) ∧ ((J os W') ∨ (∃ pre, Jx pre W')) := by
  have HY := Lib.hid hY
  have HJA := Lib.hid hJa
  have HROW := Lib.hid hrow
  have HM := Lib.hid hm
  have c0 := row_cell (k := 0) (v := .slice (some ⟨g, 0, none⟩) m cap) hBs rfl
  clear hY hJa hrow hm hBs
  refine callsIn_of_wp Tryd.func55 rfl trivial ?_ rfl
  simp only [Tryd.ntmps55, List.size_toArray, List.length_cons, List.length_nil, Nat.reduceAdd, Nat.reduceSub, Array.replicate_succ, Array.replicate_zero, List.push_toArray, List.append_toArray, List.nil_append, List.cons_append]
  gi_wp2
  gi_loopw [7] (fun i wr => ∃ k : Nat, i = .int .i64 (k : Int) ∧ k ≤ m ∧ Hid (J (os.take k) wr) ∧ Hid (Kr g W wr)) (fun i _ => m - (intOf i).toNat)
  case atStart => exact ⟨0, rfl, Nat.zero_le _, Lib.hid (by simpa using h0), Lib.hid rfl⟩
  case round =>
    obtain ⟨k, rfl, hkm, hJ, hK⟩ := hrel
    clear c0
    by_cases hlt : k < m
    · have hkl : k < os.length := by rw [HM.out]; exact hlt
      have hr := (HROW.out.kr hK.out) k hkl
      have hgl : g < wr.heap.size := (HROW.out.kr hK.out).lt (by omega)
      obtain ⟨o, ho⟩ : ∃ o, os[k] = o := ⟨_, rfl⟩
      rw [ho] at hr
      have htk : os.take (k + 1) = os.take k ++ [o] := by rw [List.take_add_one, List.getElem?_eq_getElem hkl, ho]; rfl
      obtain ⟨⟨xtos, xid, xdf, xmf, xoff, xttl, xpr, xsrc, xdst, xb⟩, xA, xc⟩ := o
      have co0 : wr.cell? ⟨g, k * 10 + 0, none⟩ = some (.int .u8 xtos) := hr 0 _ rfl
      have co1 : wr.cell? ⟨g, k * 10 + 1, none⟩ = some (.int .u16 xid) := hr 1 _ rfl
      have co2 : wr.cell? ⟨g, k * 10 + 2, none⟩ = some (.bool xdf) := hr 2 _ rfl
      have co3 : wr.cell? ⟨g, k * 10 + 3, none⟩ = some (.bool xmf) := hr 3 _ rfl
      have co4 : wr.cell? ⟨g, k * 10 + 4, none⟩ = some (.int .i64 xoff) := hr 4 _ rfl
      have co5 : wr.cell? ⟨g, k * 10 + 5, none⟩ = some (.int .u8 xttl) := hr 5 _ rfl
      have co6 : wr.cell? ⟨g, k * 10 + 6, none⟩ = some (.int .u8 xpr) := hr 6 _ rfl
      have co7 : wr.cell? ⟨g, k * 10 + 7, none⟩ = some (.int .u32 xsrc) := hr 7 _ rfl
      have co8 : wr.cell? ⟨g, k * 10 + 8, none⟩ = some (.int .u32 xdst) := hr 8 _ rfl
      have co9 : wr.cell? ⟨g, k * 10 + 9, none⟩ = some (.slice xA xb.length xc) := hr 9 _ rfl
      try simp only [Nat.add_zero] at co0
      have hkl2 : (k : Int) < (m : Int) := by omega
      have hJ' := HJA.out (os.take k) wr (wr.alloc (.cells #[.int .u8 xtos, .int .u16 xid, .bool xdf, .bool xmf, .int .i64 xoff, .int .u8 xttl, .int .u8 xpr, .int .u32 xsrc, .int .u32 xdst, .slice xA xb.length xc] 27)) none hJ.out (World.grownBy_alloc wr _ none) (fun r e => by cases e)
      have hpl : (os.take k).length < m := by rw [List.length_take]; omega
      obtain ⟨fn, tmps, assign, body, hy, hR⟩ := HY.out (os.take k) (((⟨xtos, xid, xdf, xmf, xoff, xttl, xpr, xsrc, xdst, xb⟩ : Pk), xA, xc) : Po) _ hJ' hpl
      unfold pov ocl pcl at hy
      dsimp only at hy
      have HR := Lib.hid hR
      have HTK := Lib.hid htk
      have HGL := Lib.hid hgl
      clear hR hJ' hpl hr ho htk hkl hgl
      gi_wp2
      refine HR.out.mono ?_
      rintro e9 W3 (⟨rfl, hJ3, hk3⟩ | ⟨rfl, hJx3⟩)
      · have hK3 : Kr g W W3 := (hk3.trans (((Ex.refl (fun _ => False) wr).alloc _).block g HGL.out id)).trans hK.out
        have HK3 := Lib.hid hK3
        have HJ3 := Lib.hid hJ3
        clear hK3 hJ3 hk3 hy co0 co1 co2 co3 co4 co5 co6 co7 co8 co9
        obtain ⟨g7, g8⟩ := wrap_nn k 1 (by omega)
        have g9 : wrap64 ((k : Int) + 1) = (k : Int) + 1 := g7
        clear g7 g8
        gi_wp2
        go_roundw
        case rel => exact ⟨k + 1, by simp, hlt, Lib.hid (by rw [HTK.out]; exact HJ3.out), HK3⟩
        case measure => exact meas_one hlt
      · gi_wp2
        refine bodyPost_ret (results_none rfl _ _ _) rfl ?_
        exact ⟨⟨_, rfl⟩, .inr ⟨_, hJx3⟩⟩
    · obtain rfl : k = m := by omega
      gi_wp2
      go_end0
      refine ⟨⟨_, rfl⟩, .inl ?_⟩
      have h := hJ.out
      rwa [List.take_of_length_le (by rw [HM.out]; exact Nat.le_refl _)] at h
set_option maxRecDepth 100000 in
set_option maxHeartbeats 2000000 in
theorem vals1_nil (n : Nat) (l Bs : Nat) (J : List Po → World → Prop) (A : Option Addr) (cap : Nat) (W : World) (tb : TypeId) (hBs : W.heap[Bs]? = some (.cells #[.slice A 0 cap] tb)) (h0 : J [] W) :
    CallsIn Fence.wide n Tryd.prog 55 #[.func (.yield l) #[] #[], .pointer (some ⟨Bs, 0, none⟩)] W fun e W' => (∃ v, e = .returned v) ∧ J [] W' := by
  have c0 := row_cell (k := 0) (v := .slice A 0 cap) hBs rfl
  clear hBs
  refine callsIn_of_wp Tryd.func55 rfl trivial ?_ rfl
  simp only [Tryd.ntmps55, List.size_toArray, List.length_cons, List.length_nil, Nat.reduceAdd, Nat.reduceSub, Array.replicate_succ, Array.replicate_zero, List.push_toArray, List.append_toArray, List.nil_append, List.cons_append]
  gi_wp2
  gi_loopw [7] (fun i wr => i = .int .i64 0 ∧ Hid (J [] wr)) (fun _ _ => 0)
  case atStart => exact ⟨rfl, Lib.hid h0⟩
  case round =>
    obtain ⟨rfl, hJ⟩ := hrel
    gi_wp2
    go_end0
    exact ⟨⟨_, rfl⟩, hJ.out⟩
theorem vals_stops (n : Nat) (hn : 1 ≤ n) (Bs g cap : Nat) (os : List Po) (hlen : os.length ≤ 1000000000) (A : Option Addr) (hA : 0 < os.length → A = some ⟨g, 0, none⟩) (w : World) (tb : TypeId) (hBs : w.heap[Bs]? = some (.cells #[.slice A os.length cap] tb)) (hrow : PRow w g os) :
    SeqStopsK Fence.wide n Tryd.prog 55 #[.pointer (some ⟨Bs, 0, none⟩)] pov (Kr g) (fun ys => ys = os) (fun _ => True) os.length w := by
  intro l J Jx W hW hJ _ hY h0
  have h1 : W.heap[Bs]? = some (.cells #[.slice A os.length cap] tb) := (hW.block Bs (row_lt hBs)).trans hBs
  rcases Nat.eq_zero_or_pos os.length with hz | hp
  · obtain rfl := List.length_eq_zero_iff.1 hz
    refine (vals1_nil n l Bs J A cap W tb h1 h0).mono ?_
    rintro e W' ⟨he, hj⟩
    exact ⟨he, .inl ⟨[], rfl, hj⟩⟩
  · have hg : g < w.heap.size := hrow.lt hp
    rw [hA hp] at h1
    refine (vals1_in n W.heap.size hn l Bs g cap os.length os rfl hlen J Jx hJ hY W tb h1 (hrow.kr (hW.block g hg)) h0).mono ?_
    rintro e W' ⟨he, hj | ⟨pre, hj⟩⟩
    · exact ⟨he, .inl ⟨os, rfl, hj⟩⟩
    · exact ⟨he, .inr ⟨pre, trivial, hj⟩⟩
theorem values_any (A : Option Addr) (len cap : Nat) (w : World) :
    Calls Tryd.prog 46 #[.slice A len cap] w fun e w' => e = .returned (.func (.func 55) #[] #[.pointer (some ⟨w.heap.size, 0, none⟩)]) ∧ w' = w.alloc (.cells #[.slice A len cap] 33) := by
  go_enter Tryd.func46, Tryd.ntmps46
  go_wp2
  go_ret
  exact ⟨rfl, rfl⟩
end Go.Proofs.YtabjihchcmjdmaaDoor
/-
  slices.AppendSeq and Collect of slices.Values, at packets. By an AI agent.
-/
namespace Go.Proofs.YtabjihchcmjdmaaDoor
open Go.RowKit

attribute [local go_sem] Oper.semAt_some
/-- between two rounds of AppendSeq -/
def CI (w0 : World) (sb : Nat) (pre : List Po) (W : World) : Prop :=
  ∃ (A : Option Addr) (c : Nat), W.heap[sb]? = some (.cells #[.slice A pre.length c] 33) ∧ OP W w0.heap.size (.slice A pre.length c) pre ∧ Ex (fun k => k = sb) w0 W
theorem CI.own (w0 : World) (sb : Nat) : OwnFrom w0.heap.size (fun (pre : List Po) W => CI w0 sb pre W) := by
  rintro pre W W' row ⟨A, c, h2, h4, h6⟩ hg hr
  have hx := ex_step hg
  have hc : ∀ k cs t, W.heap[k]? = some (.cells cs t) → row ≠ some k := fun k cs t hk e => by
    obtain ⟨_, o, ho, hn⟩ := hr k e
    rw [hk] at ho
    cases ho
    cases hn
  refine ⟨A, c, (hx.block sb (row_lt h2) (hc _ _ _ h2)).trans h2, h4.keep hx (fun k hk _ _ => ?_), h6.grown hg (fun k e => .inr (hr k e).1)⟩
  obtain ⟨cur, hcur⟩ := ownsRow_isCells h4 hk
  exact hc _ _ _ hcur
/-- the round's packet lies in a box of its own -/
def CA (w0 : World) (f : Po → Nat → Act) (x : Po) (a : Act) (W : World) : Prop := ∃ xb, w0.heap.size ≤ xb ∧ W.heap[xb]? = some (.cells (ocl x).toArray 27) ∧ a = f x xb
theorem CA.own (w0 : World) (f : Po → Nat → Act) (x : Po) (a : Act) : OwnFrom w0.heap.size (fun (_ : Unit) W => CA w0 f x a W) := by
  rintro _ W W' row ⟨xb, h1, h2, h3⟩ hg hr
  refine ⟨xb, h1, ?_, h3⟩
  refine ((ex_step hg).block xb (row_lt h2) (fun e => ?_)).trans h2
  obtain ⟨_, o, ho, hn⟩ := hr xb e
  rw [h2] at ho
  cases ho
  cases hn
set_option maxRecDepth 100000 in
set_option maxHeartbeats 4000000 in
theorem appendseq_any (Bs g cap : Nat) (os : List Po) (h1 : 0 < os.length) (h2 : os.length ≤ 200) (w : World) (tb : TypeId) (hBs : w.heap[Bs]? = some (.cells #[.slice (some ⟨g, 0, none⟩) os.length cap] tb)) (hrow : PRow w g os) :
    Calls Tryd.prog 60 #[.slice none 0 0, .func (.func 55) #[] #[.pointer (some ⟨Bs, 0, none⟩)]] w fun e w' => ∃ A c, e = .returned (.slice A os.length c) ∧ OP w' w.heap.size (.slice A os.length c) os ∧ Ex (fun _ => False) w w' := by
  have HBS := Lib.hid hBs
  have HROW := Lib.hid hrow
  have HN := Lib.hid (show 0 < os.length ∧ os.length ≤ 200 from ⟨h1, h2⟩)
  clear hBs hrow h1 h2
  refine (callsIn_wide (n := 3)).1 (callsIn_of_wp_marks Tryd.func60 rfl trivial (wpIn_wide.2 ?_) rfl)
  simp only [Tryd.ntmps60, List.size_toArray, List.length_cons, List.length_nil, Nat.reduceAdd, Nat.reduceSub, Array.replicate_succ, Array.replicate_zero, List.push_toArray, List.append_toArray, List.nil_append, List.cons_append]
  go_upto_region 1 with fail
  have hx : Ex (fun _ => False) w (w.alloc (.cells #[.slice none 0 0] 33)) := (Ex.refl _ w).alloc _
  have hb : (w.alloc (.cells #[.slice none 0 0] 33)).heap[w.heap.size]? = some (.cells #[.slice none 0 0] 33) := heap_alloc_new w _
  obtain ⟨sb, hsb⟩ : ∃ sb, sb = w.heap.size := ⟨_, rfl⟩
  have hb_sb : w.heap.size ≤ sb := by omega
  rw [← hsb] at hb
  try simp only [← hsb]
  generalize w.alloc (.cells #[.slice none 0 0] 33) = w1 at hx hb ⊢
  clear hsb
  have HX_w1 := Lib.hid hx
  clear hx
  have B_sb := Lib.hid hb
  clear hb
  go_wp2_with fail
  have hgl := HROW.out.lt HN.out.1
  have hcb := vals_stops 2 (by decide) Bs g cap os (by have := HN.out; omega) (some ⟨g, 0, none⟩) (fun _ => rfl) w1 tb ((HX_w1.out.block Bs (row_lt HBS.out) id).trans HBS.out) (HROW.out.kr (HX_w1.out.block g hgl id))
  have HGS := Lib.hid (show g ≠ sb by omega)
  have HG1 := Lib.hid (show g < w1.heap.size by have := HX_w1.out.size; omega)
  clear hgl
  obtain ⟨f, hf⟩ : ∃ f : Po → Nat → Act, f = fun x xb => { tmps := #[.slice none 0 0, .func (.func 55) #[] #[.pointer (some ⟨Bs, 0, none⟩)], .pointer (some ⟨sb, 0, none⟩), undef, .slice none 0 0, .pointer (some ⟨xb, 0, none⟩), .func (.func 55) #[] #[.pointer (some ⟨Bs, 0, none⟩)], .agg (ocl x).toArray, undef, undef, undef, undef, undef], defers := [] } := ⟨_, rfl⟩
  refine wpIn_wide.1 (wpIn_rangeFunc_ownH (F := Fence.wide) (n := 3) rfl (by decide) rfl trivial (enters_of Tryd.func55 (by kernel_rfl) rfl) hcb (fun h k => k.trans h) ?hkb (Below.refl _ _) (fun _ => rfl) (fun pre W => CI w1 sb pre W) (fun _ _ _ => False) (CI.own _ _) (fun _ _ _ _ _ h _ _ => h) ?h0 (CA w1 f) (CA.own _ _) ?assign ?body ?done (fun _ _ _ _ _ _ h _ => h.elim))
  case hkb =>
    intro W l o o' hl hW _ _
    exact World.putObj_heap_other (fun e => by have := HG1.out; omega)
  case h0 =>
    exact ⟨none, 0, B_sb.out, OP.nil _ _, Ex.refl _ _⟩
  case assign =>
    intro l pre x wr K hI hK
    obtain ⟨⟨xtos, xid, xdf, xmf, xoff, xttl, xpr, xsrc, xdst, xb⟩, xA, xc⟩ := x
    have hgr : g < wr.heap.size := by
      obtain ⟨_, _, _, _, hx⟩ := hI
      have h1 := hx.size
      have h2 := HG1.out
      omega
    have hs1 : w1.heap.size ≤ wr.heap.size := by
      obtain ⟨_, _, _, _, hx⟩ := hI
      exact hx.size
    have hk9 := hK (f ((⟨xtos, xid, xdf, xmf, xoff, xttl, xpr, xsrc, xdst, xb⟩ : Pk), xA, xc) wr.heap.size) (wr.alloc (.cells #[.int .u8 xtos, .int .u16 xid, .bool xdf, .bool xmf, .int .i64 xoff, .int .u8 xttl, .int .u8 xpr, .int .u32 xsrc, .int .u32 xdst, .slice xA xb.length xc] 27)) ((KeepsOthers.alloc _ _).from _) (((Ex.refl (fun _ => False) wr).alloc _).block g hgr id)
      (CI.own w1 sb pre wr _ none hI (World.grownBy_alloc wr _ none) (fun r e => by cases e)) ⟨wr.heap.size, hs1, heap_alloc_new wr _, rfl⟩
    rw [hf] at hk9
    have HK9 := Lib.hid hk9
    clear hk9 hK hI hgr hs1 hf
    simp only [pov, ocl, pcl, List.zip_toArray, List.zip_cons_cons, List.zip_nil_right, List.foldl_toArray, List.foldl_cons, List.foldl_nil, List.setIfInBounds_toArray, List.set_cons_succ, List.set_cons_zero]
    refine region_round rfl (fun ⟨_, _, h⟩ => h) ?_
    go_wp2_with fail
    exact HK9.out
  case body =>
    intro l pre x a' wr hl hrec hI hA hlen
    obtain ⟨⟨xtos, xid, xdf, xmf, xoff, xttl, xpr, xsrc, xdst, xb⟩, xA, xc⟩ := x
    obtain ⟨xb', hxb, hbx, rfl⟩ := hA
    obtain ⟨Al, cl, hsb, hop, hex⟩ := hI
    have hbx2 : wr.heap[xb']? = some (.cells #[.int .u8 xtos, .int .u16 xid, .bool xdf, .bool xmf, .int .i64 xoff, .int .u8 xttl, .int .u8 xpr, .int .u32 xsrc, .int .u32 xdst, .slice xA xb.length xc] 27) := hbx
    have hpl : pre.length ≤ 200 := by have := HN.out; omega
    have hnsb : some sb ≠ (Value.slice Al pre.length cl).ownBlock := fun e => by
      have h1 := (hop.lt sb e.symm).1
      have h2 := row_lt B_sb.out
      omega
    have HEX := Lib.hid hex
    have HOP := Lib.hid hop
    have HSB := Lib.hid hsb
    have HNSB := Lib.hid hnsb
    have HHL := Lib.hid hl
    rw [hf]
    show (Code.block 1 _).wpIn (Fence.wide.inRound l) 1 _ _ { tmps := #[.slice none 0 0, .func (.func 55) #[] #[.pointer (some ⟨Bs, 0, none⟩)], .pointer (some ⟨sb, 0, none⟩), undef, .slice none 0 0, .pointer (some ⟨xb', 0, none⟩), .func (.func 55) #[] #[.pointer (some ⟨Bs, 0, none⟩)], .agg #[.int .u8 xtos, .int .u16 xid, .bool xdf, .bool xmf, .int .i64 xoff, .int .u8 xttl, .int .u8 xpr, .int .u32 xsrc, .int .u32 xdst, .slice xA xb.length xc], undef, undef, undef, undef, undef], defers := [] } wr
    clear hex hop hnsb hbx hf hrec hl
    have csb := row_cell (k := 0) (v := .slice Al pre.length cl) hsb rfl
    clear hsb
    refine wpIn_block (region_round rfl (fun ⟨_, _, h⟩ => h) ?_)
    have B_xbp := Lib.hid hbx2
    clear hbx2
    have cx0 := row_cell (k := 0) (v := .int .u8 xtos) B_xbp.out rfl
    have cx1 := row_cell (k := 1) (v := .int .u16 xid) B_xbp.out rfl
    have cx2 := row_cell (k := 2) (v := .bool xdf) B_xbp.out rfl
    have cx3 := row_cell (k := 3) (v := .bool xmf) B_xbp.out rfl
    have cx4 := row_cell (k := 4) (v := .int .i64 xoff) B_xbp.out rfl
    have cx5 := row_cell (k := 5) (v := .int .u8 xttl) B_xbp.out rfl
    have cx6 := row_cell (k := 6) (v := .int .u8 xpr) B_xbp.out rfl
    have cx7 := row_cell (k := 7) (v := .int .u32 xsrc) B_xbp.out rfl
    have cx8 := row_cell (k := 8) (v := .int .u32 xdst) B_xbp.out rfl
    have cx9 := row_cell (k := 9) (v := .slice xA xb.length xc) B_xbp.out rfl
    obtain ⟨i1, hj, hy0, hy1, hy2⟩ := info_parts Tryd.info27
    have hbase : w1.heap.size ≤ wr.heap.size := HEX.out.size
    have HBASE := Lib.hid hbase
    have hlc : ∀ k u, (ocl ((⟨xtos, xid, xdf, xmf, xoff, xttl, xpr, xsrc, xdst, xb⟩ : Pk), xA, xc))[k]? = some u → (wr.alloc (.cells #[.int .u8 xtos, .int .u16 xid, .bool xdf, .bool xmf, .int .i64 xoff, .int .u8 xttl, .int .u8 xpr, .int .u32 xsrc, .int .u32 xdst, .slice xA xb.length xc] 27)).cell? ⟨wr.heap.size, k, none⟩ = some u := fun k u h => row_cell (heap_alloc_new wr _) (by simpa [ocl, pcl] using h)
    have HLC := Lib.hid hlc
    clear hlc hbase
    have hlbx : (wr.alloc (.cells #[.int .u8 xtos, .int .u16 xid, .bool xdf, .bool xmf, .int .i64 xoff, .int .u8 xttl, .int .u8 xpr, .int .u32 xsrc, .int .u32 xdst, .slice xA xb.length xc] 27)).heap[sb]? = some (.cells #[.slice Al pre.length cl] 33) := (((Ex.refl (fun _ => False) wr).alloc _).block sb (row_lt HSB.out) id).trans HSB.out
    have HLBX := Lib.hid hlbx
    clear hlbx
    go_wp2_with (at_builtin; refine wpList_append_op i1 33 _ 56 Tryd.underlying33 hj hy0 rfl hy1 hy2 (by decide) rfl (.tmp 8) (.tmp 10) rfl w1.heap.size (.slice Al pre.length cl) pre rfl ((⟨xtos, xid, xdf, xmf, xoff, xttl, xpr, xsrc, xdst, xb⟩ : Pk), xA, xc) wr.heap.size 1 1 rfl rfl (HOP.out.keep (S := fun _ => False) ((Ex.refl _ wr).alloc _) (fun _ _ _ _ => id)) HLC.out (by omega) (by have := HBASE.out; simp; omega) ?_; intro A7 c7 w7 ho7 hg7 hn7; have hlb7 := (hg7.block sb (row_lt HLBX.out) HNSB.out).trans HLBX.out; have clb7 := row_cell (k := 0) (v := .slice Al pre.length cl) hlb7 rfl; have flb7 := row_frozen hlb7 0)
    have hb8 : (w7.setCell ⟨sb, 0, none⟩ (.slice A7 (pre.length + 1) c7)).heap[sb]? = some (.cells #[.slice A7 (pre.length + 1) c7] 33) := row_set hlb7 0 _
    have hx8 : Ex (fun k => k = sb) w7 (w7.setCell ⟨sb, 0, none⟩ (.slice A7 (pre.length + 1) c7)) := Ex.setCell (S := fun k => k = sb) (Ex.refl _ w7) (p := ⟨sb, 0, none⟩) (.inl rfl) _
    generalize w7.setCell ⟨sb, 0, none⟩ (.slice A7 (pre.length + 1) c7) = w8 at hb8 hx8 ⊢
    have hxa : Ex (fun _ => False) wr (wr.alloc (.cells #[.int .u8 xtos, .int .u16 xid, .bool xdf, .bool xmf, .int .i64 xoff, .int .u8 xttl, .int .u8 xpr, .int .u32 xsrc, .int .u32 xdst, .slice xA xb.length xc] 27)) := (Ex.refl _ wr).alloc _
    have hxb8 : Ex (fun k => (Value.slice Al pre.length cl).ownBlock = some k) (wr.alloc (.cells #[.int .u8 xtos, .int .u16 xid, .bool xdf, .bool xmf, .int .i64 xoff, .int .u8 xttl, .int .u8 xpr, .int .u32 xsrc, .int .u32 xdst, .slice xA xb.length xc] 27)) w7 := (Ex.refl _ _).grown hg7 (fun k hk => .inl hk)
    generalize wr.alloc (.cells #[.int .u8 xtos, .int .u16 xid, .bool xdf, .bool xmf, .int .i64 xoff, .int .u8 xttl, .int .u8 xpr, .int .u32 xsrc, .int .u32 xdst, .slice xA xb.length xc] 27) = waa at hxa hxb8
    clear hj hy0 hy1 hy2 hg7 hlb7 clb7 flb7 csb cx0 cx1 cx2 cx3 cx4 cx5 cx6 cx7 cx8 cx9
    have hlop := HOP.out.lt
    have hsl := row_lt B_sb.out
    have hall : Ex (fun k => k = sb ∨ (Value.slice Al pre.length cl).ownBlock = some k) wr w8 := (((hxa.mono (fun _ _ h => h.elim)).trans (hxb8.mono (fun _ _ h => .inr h))).trans (hx8.mono (fun _ _ h => .inl h)))
    have hl7 := ho7.lt
    refine ⟨(ko_of_ex hall ?_).from _, hall.block g ?_ ?_, ⟨A7, c7, ?_, ?_, ?_⟩⟩
    · rintro k (rfl | h)
      · exact ⟨_, _, HSB.out⟩
      · obtain ⟨cur, hcur⟩ := ownsRow_isCells HOP.out h
        exact ⟨_, _, hcur⟩
    · have h1 := HG1.out
      have h2 := HEX.out.size
      omega
    · have h1 := HGS.out
      rintro (e | e)
      · omega
      · have := (hlop g e).1
        have h2 := HG1.out
        omega
    · rw [List.length_append]
      exact hb8
    · rw [List.length_append]
      exact ho7.keep hx8 (fun k hk _ _ e => by have := (hl7 k hk).1; omega)
    · exact HEX.out.andThen hall (fun i hi e => by
        rcases e with e | e
        · exact e
        · have := (hlop i e).1
          omega)
  case done =>
    intro D xs wd hD hS hI hK
    obtain rfl := hS
    obtain ⟨Al, cl, hsb, hop, hex⟩ := hI
    have csb := row_cell (k := 0) (v := .slice Al xs.length cl) hsb rfl
    have HOP := Lib.hid hop
    have HEX := Lib.hid hex
    have HK := Lib.hid hK
    have HD := Lib.hid hD
    clear hop hex hK hD hsb hf
    go_wp2_with fail
    have hx2 : Ex (fun k => k = D) wd (wd.putObj D (.deferred none)) := (ex_step (grownBy_putObj' wd D (.deferred none))).mono (fun k _ e => (Option.some.inj e).symm)
    refine ⟨by simp, .inl ⟨_, _, rfl, run_takeDeferred HK.out, ?_⟩⟩
    generalize wd.putObj D (.deferred none) = wf at hx2 ⊢
    have h1 := HX_w1.out.size
    have h4 := HD.out
    refine ⟨_, results_tmp rfl _ _ _, Al, cl, rfl, ?_, ?_⟩
    · refine (HOP.out.keep hx2 (fun k hk _ _ e => ?_)).mono h1
      obtain ⟨cur, hcur⟩ := ownsRow_isCells HOP.out hk
      have h := HK.out
      rw [← e, hcur] at h
      cases h
    · refine (HX_w1.out.andThen HEX.out (fun i hi e => ?_)).andThen hx2 (fun i hi e => ?_)
      · omega
      · omega
end Go.Proofs.YtabjihchcmjdmaaDoor
/-
  The library's slices.IndexFunc, ContainsFunc and insertionSortCmpFunc at packets. By an AI agent.
-/
namespace Go.Proofs.YtabjihchcmjdmaaDoor
open Go.RowKit Go.Shelf

def renH : Ren := ⟨fun x => if x = 6 then 39 else if x = 8 then 29 else x, fun x => if x = 0 then 0 else if x = 3 then 3 else if x = 4 then 4 else if x = 22 then 33 else if x = 23 then 27 else if x = 25 then 65 else x, fun x => x⟩
theorem layIdx : SlLaysH0.n6 Tryd.prog renH where
  mixed := by kernel_rfl
  f6 := ⟨"slices.IndexFunc[[]underpass/ipv4.Packet,underpass/ipv4.Packet]", by decide, by kernel_rfl⟩
  t0 := by kernel_rfl
  a0 := fun _ => by kernel_rfl
  z0 := fun _ => by kernel_rfl
  v0 := fun _ => by kernel_rfl
  t3 := by kernel_rfl
  a3 := fun _ => by kernel_rfl
  z3 := fun _ => by kernel_rfl
  v3 := fun _ => by kernel_rfl
  t4 := by kernel_rfl
  a4 := fun _ => by kernel_rfl
  z4 := fun _ => by kernel_rfl
  v4 := fun _ => by kernel_rfl
  t22 := by kernel_rfl
  a22 := fun _ => by kernel_rfl
  z22 := fun _ => by kernel_rfl
  v22 := fun _ => by kernel_rfl
  t25 := by kernel_rfl
  a25 := fun _ => by kernel_rfl
  z25 := fun _ => by kernel_rfl
  v25 := fun _ => by kernel_rfl
theorem layCon : SlLaysH0.n8 Tryd.prog renH where
  mixed := by kernel_rfl
  f6 := ⟨"slices.IndexFunc[[]underpass/ipv4.Packet,underpass/ipv4.Packet]", by decide, by kernel_rfl⟩
  f8 := ⟨"slices.ContainsFunc[[]underpass/ipv4.Packet,underpass/ipv4.Packet]", by decide, by kernel_rfl⟩
  t0 := by kernel_rfl
  a0 := fun _ => by kernel_rfl
  z0 := fun _ => by kernel_rfl
  v0 := fun _ => by kernel_rfl
  t3 := by kernel_rfl
  a3 := fun _ => by kernel_rfl
  z3 := fun _ => by kernel_rfl
  v3 := fun _ => by kernel_rfl
  t4 := by kernel_rfl
  a4 := fun _ => by kernel_rfl
  z4 := fun _ => by kernel_rfl
  v4 := fun _ => by kernel_rfl
  t22 := by kernel_rfl
  a22 := fun _ => by kernel_rfl
  z22 := fun _ => by kernel_rfl
  v22 := fun _ => by kernel_rfl
  t25 := by kernel_rfl
  a25 := fun _ => by kernel_rfl
  z25 := fun _ => by kernel_rfl
  v25 := fun _ => by kernel_rfl
def renF : Ren := ⟨fun x => if x = 20 then 62 else x, fun x => if x = 0 then 0 else if x = 3 then 3 else if x = 4 then 4 else if x = 22 then 33 else if x = 24 then 27 else if x = 25 then 100 else x, fun x => x⟩
theorem layIns : SlLaysF0.n20 Tryd.prog renF where
  mixed := by kernel_rfl
  f20 := ⟨"slices.insertionSortCmpFunc[underpass/ipv4.Packet]", by decide, by kernel_rfl⟩
  t0 := by kernel_rfl
  a0 := fun _ => by kernel_rfl
  z0 := fun _ => by kernel_rfl
  v0 := fun _ => by kernel_rfl
  t3 := by kernel_rfl
  a3 := fun _ => by kernel_rfl
  z3 := fun _ => by kernel_rfl
  v3 := fun _ => by kernel_rfl
  t4 := by kernel_rfl
  a4 := fun _ => by kernel_rfl
  z4 := fun _ => by kernel_rfl
  v4 := fun _ => by kernel_rfl
  t22 := by kernel_rfl
  a22 := fun _ => by kernel_rfl
  z22 := fun _ => by kernel_rfl
  v22 := fun _ => by kernel_rfl
  t25 := by kernel_rfl
  a25 := fun _ => by kernel_rfl
  z25 := fun _ => by kernel_rfl
  v25 := fun _ => by kernel_rfl
theorem pk_agg (w : World) : (isAgg 27).run Tryd.prog w = .ok true w := by kernel_rfl
theorem pk_sizeOf (w : World) : (Go.sizeOf 27).run Tryd.prog w = .ok 10 w := by kernel_rfl
end Go.Proofs.YtabjihchcmjdmaaDoor
/-
  slices.insertionSortCmpFunc and Collect at packets, by their places. By an AI agent.
-/
namespace Go.Proofs.YtabjihchcmjdmaaDoor
open Go.RowKit Go.Shelf Go.Sort Go.Lib

instance : Inhabited Pk := ⟨⟨0, 0, false, false, 0, 0, 0, 0, 0, []⟩⟩
/-- by place -/
def cfo (x y : Po) : Int := cmpI x.1.off y.1.off
set_option maxRecDepth 100000 in
theorem cmpfn_any (x y : Po) (w : World) :
    Calls Tryd.prog 47 #[.agg (ocl x).toArray, .agg (ocl y).toArray] w fun e w' => e = .returned (.int .i64 (cfo x y)) ∧ w' = (w.alloc (.cells (ocl x).toArray 27)).alloc (.cells (ocl y).toArray 27) := by
  obtain ⟨⟨xtos, xid, xdf, xmf, xoff, xttl, xpr, xsrc, xdst, xb⟩, xA, xc⟩ := x
  obtain ⟨⟨ytos, yid, ydf, ymf, yoff, yttl, ypr, ysrc, ydst, yb⟩, yA, yc⟩ := y
  show Calls Tryd.prog 47 #[.agg #[.int .u8 xtos, .int .u16 xid, .bool xdf, .bool xmf, .int .i64 xoff, .int .u8 xttl, .int .u8 xpr, .int .u32 xsrc, .int .u32 xdst, .slice xA xb.length xc], .agg #[.int .u8 ytos, .int .u16 yid, .bool ydf, .bool ymf, .int .i64 yoff, .int .u8 yttl, .int .u8 ypr, .int .u32 ysrc, .int .u32 ydst, .slice yA yb.length yc]] w fun e w' => e = .returned (.int .i64 (cmpI xoff yoff)) ∧ w' = (w.alloc (.cells #[.int .u8 xtos, .int .u16 xid, .bool xdf, .bool xmf, .int .i64 xoff, .int .u8 xttl, .int .u8 xpr, .int .u32 xsrc, .int .u32 xdst, .slice xA xb.length xc] 27)).alloc (.cells #[.int .u8 ytos, .int .u16 yid, .bool ydf, .bool ymf, .int .i64 yoff, .int .u8 yttl, .int .u8 ypr, .int .u32 ysrc, .int .u32 ydst, .slice yA yb.length yc] 27)
  go_enter Tryd.func47, Tryd.ntmps47
  go_wp2_with (go_at_call 48; refine (compare_any _ _ _).mono ?_; rintro e w' ⟨rfl, rfl⟩)
  go_ret
  exact ⟨rfl, rfl⟩
theorem cmpLays (blk off size : Nat) (w : World) : CmpLays Tryd.prog 47 #[] ocl 10 cfo blk off size w := by
  intro m os dk _ x y
  refine (cmpfn_any x y _).mono ?_
  rintro e w' ⟨rfl, rfl⟩
  refine ⟨rfl, 0, #[.cells (ocl x).toArray 27, .cells (ocl y).toArray 27], ?_⟩
  rw [alloc_eq_grow, alloc_eq_grow, grow_grow]
  rfl
/-- the packets of a row, sorted by place -/
def srt (d : Array Po) (a b : Nat) : Array Po := Sort.insertionSort (ltOf cfo) d a b
theorem lt_cfo (x y : Po) : ltOf cfo x y = decide (x.1.off < y.1.off) := by
  unfold ltOf cfo cmpI
  by_cases h1 : x.1.off < y.1.off
  · rw [if_pos h1]; simp [h1]
  · rw [if_neg h1, decide_eq_false h1]
    by_cases h2 : y.1.off < x.1.off
    · rw [if_pos h2]; rfl
    · rw [if_neg h2]; rfl
theorem swo_cfo : SWO (ltOf cfo) where
  irrefl x := by rw [lt_cfo]; simp
  trans x y z h1 h2 := by rw [lt_cfo, decide_eq_true_eq] at *; omega
  ntrans x y z h1 h2 := by rw [lt_cfo, decide_eq_false_iff_not] at *; omega
theorem srt_size (d : Array Po) (n : Nat) (hn : n ≤ d.size) : (srt d 0 n).size = d.size := (insertionSort_holds swo_cfo d 0 n (Nat.zero_le _) hn).1.1
/-- sorted: the same packets, by place -/
theorem srt_list (os : List Po) (n : Nat) (hn : os.length = n) : (srt os.toArray 0 n).toList.Perm os ∧ (srt os.toArray 0 n).toList.Pairwise (fun x y => x.1.off ≤ y.1.off) := by
  subst hn
  obtain ⟨⟨h1, _, h3⟩, h4⟩ := insertionSort_holds swo_cfo os.toArray 0 os.length (Nat.zero_le _) (by simp)
  have hz : (srt os.toArray 0 os.length).size = os.length := h1.trans (by simp)
  refine ⟨?_, ?_⟩
  · have e1 : os.toArray.extract 0 os.length = os.toArray := by simp
    have e2 : (srt os.toArray 0 os.length).extract 0 os.length = srt os.toArray 0 os.length := by
      have h9 : ∀ (X : Array Po) (n : Nat), X.size = n → X.extract 0 n = X := fun X n h => by subst h; simp
      exact h9 _ _ hz
    change ((srt os.toArray 0 os.length).extract 0 os.length).toList.Perm _ at h3
    rw [e1, e2] at h3
    simpa using h3
  · rw [List.pairwise_iff_getElem]
    intro i j hi hj hij
    rw [Array.length_toList] at hi hj
    have := h4 i j (Nat.zero_le _) hij (by omega)
    change ltOf cfo (srt os.toArray 0 os.length)[j]! (srt os.toArray 0 os.length)[i]! = false at this
    rw [lt_cfo, decide_eq_false_iff_not] at this
    rw [getElem!_pos _ i hi, getElem!_pos _ j hj] at this
    simp only [Array.getElem_toList]
    omega
theorem holdsK_of_op {w : World} {B g n cap : Nat} {os : List Po} (h : OP w B (.slice (some ⟨g, 0, none⟩) n cap) os) : HoldsK ocl 10 w g 0 os.toArray := by
  have en : n = os.length := by
    obtain ⟨A', c', e⟩ := h.shape
    injection e
  subst en
  intro j hj
  rw [size_flatK, List.size_toArray] at hj
  have hd : j / 10 < os.length := by omega
  refine ⟨?_, World.ownsRow.frozenAt h _⟩
  rw [get_flatK _ _ _ _ (by rw [List.size_toArray]; exact hj)]
  obtain ⟨g', c', e1, _, h4⟩ := h.get (j / 10) hd
  injection e1 with e1 _ _
  injection e1 with e1
  injection e1 with e1
  subst e1
  have hx : os.toArray[j / 10]! = os[j / 10] := by simp [hd]
  rw [hx]
  have h10 : j % 10 < (ocl os[j / 10]).length := by rw [ocl_len]; omega
  have h5 := h4 (j % 10) ((ocl os[j / 10])[j % 10]) (by rw [List.getElem?_eq_getElem h10])
  rw [show j / 10 * 10 + j % 10 = 0 + j by omega] at h5
  rw [h5]
  simp [h10]
theorem prow_of_holdsK {w : World} {g : Nat} {d : Array Po} (h : HoldsK ocl 10 w g 0 d) : PRow w g d.toList := by
  intro i hi k u hu
  rw [Array.length_toList] at hi
  have hk : k < 10 := by
    have := (List.getElem?_eq_some_iff.1 hu).1
    rw [ocl_len] at this
    exact this
  have hx : d[i]! = d.toList[i] := by simp [hi]
  have h1 := (h (i * 10 + k) (by rw [size_flatK]; omega)).1
  rw [get_flatK _ _ _ _ (by omega), show (i * 10 + k) / 10 = i by omega, show (i * 10 + k) % 10 = k by omega, hx] at h1
  have h2 : (ocl d.toList[i])[k]! = u := by
    obtain ⟨h3, h4⟩ := List.getElem?_eq_some_iff.1 hu
    rw [List.getElem!_eq_getElem?_getD, hu]
    rfl
  rw [h2, Nat.zero_add] at h1
  exact h1
theorem insert_any (g cap a b : Nat) (d : Array Po) (w : World) (hH : HoldsK ocl 10 w g 0 d) (hg : g < w.heap.size) (hab : a ≤ b) (hb : b ≤ d.size) (hsz : d.size ≤ 1000000) :
    Calls Tryd.prog 62 #[.slice (some ⟨g, 0, none⟩) d.size cap, .int .i64 (a : Int), .int .i64 (b : Int), .func (.func 47) #[] #[]] w fun e w' =>
      e = .returned (.tuple #[]) ∧ ∃ n os, w' = sortWorldK ocl 10 w g 0 n (srt d a b) os :=
  AnyQ.insertionSortCmpFunc layIns 10 pk_agg pk_sizeOf ocl ocl_len ocl_one cfo 47 #[] g 0 cap a b d w (enters_of Tryd.func47 (by kernel_rfl) rfl) (cmpLays g 0 d.size w) hH hg hab hb (by omega)
theorem sorted_ex {w : World} {g m : Nat} {d : Array Po} {os : Array Obj} : Ex (fun k => k = g) w (sortWorldK ocl 10 w g 0 m d os) := by
  have hs : w.heap.size = (putRow id (Sort.ahead w m) g 0 (flatK ocl 10 d)).heap.size := by rw [size_putRow]; rfl
  refine ⟨rfl, rfl, rfl, size_sortWorldK_c _ _ _ _ _ _ _ _, fun k hk hne => ?_⟩
  show ((putRow id (Sort.ahead w m) g 0 (flatK ocl 10 d)).heap ++ os)[k]? = _
  rw [Array.getElem?_append_left (by rw [← hs]; exact hk)]
  unfold putRow mapBlock
  show (w.heap.modify g _)[k]? = _
  rw [Array.getElem?_modify, if_neg (fun e => hne e.symm)]
theorem collect_any (Bs g cap : Nat) (os : List Po) (h1 : 0 < os.length) (h2 : os.length ≤ 200) (w : World) (tb : TypeId) (hBs : w.heap[Bs]? = some (.cells #[.slice (some ⟨g, 0, none⟩) os.length cap] tb)) (hrow : PRow w g os) :
    Calls Tryd.prog 53 #[.func (.func 55) #[] #[.pointer (some ⟨Bs, 0, none⟩)]] w fun e w' => ∃ A c, e = .returned (.slice A os.length c) ∧ OP w' w.heap.size (.slice A os.length c) os ∧ Ex (fun _ => False) w w' := by
  have HC := Lib.hid (appendseq_any Bs g cap os h1 h2 w tb hBs hrow)
  clear h1 h2 hBs hrow
  go_enter Tryd.func53, Tryd.ntmps53
  go_wp2_with fail
  refine HC.out.mono ?_
  rintro e w1 ⟨A, c, rfl, hop, hx⟩
  have HOP := Lib.hid hop
  have HX := Lib.hid hx
  clear hop hx
  go_wp2_with fail
  go_ret
  exact ⟨A, c, rfl, HOP.out, HX.out⟩
end Go.Proofs.YtabjihchcmjdmaaDoor
/-
  The plain law of a merge in place (symmetric merge by rotations), over arrays. By an AI agent.
-/
namespace Go.Proofs.YtabjihchcmjdmaaDoor
open Go.Sort

variable {α : Type} [Inhabited α] {lt : α → α → Bool}

theorem swp_at (d : Array α) {i j : Nat} (hi : i < d.size) (hj : j < d.size) (k : Nat) : (swp d i j)[k]! = if k = j then d[i]! else if k = i then d[j]! else d[k]! := by
  by_cases h1 : k = j
  · rw [if_pos h1, h1]
    exact swp_right d i j hj
  · rw [if_neg h1]
    by_cases h2 : k = i
    · rw [if_pos h2, h2]
      exact swp_left d i j hi (by omega)
    · rw [if_neg h2]
      exact swp_other d i j k h2 h1
/-- two rows of n change places -/
def swr (a b : Nat) : Nat → Array α → Array α
  | 0, d => d
  | n + 1, d => swp (swr a b n d) (a + n) (b + n)
theorem swr_size (a b n : Nat) (d : Array α) : (swr a b n d).size = d.size := by
  induction n with
  | zero => rfl
  | succ n ih => rw [swr, size_swp, ih]
theorem swr_at (a b : Nat) (d : Array α) : ∀ n, a + n ≤ b → b + n ≤ d.size → ∀ k, (swr a b n d)[k]! = if a ≤ k ∧ k < a + n then d[k + (b - a)]! else if b ≤ k ∧ k < b + n then d[k - (b - a)]! else d[k]! := by
  intro n
  induction n with
  | zero =>
    intro _ _ k
    rw [if_neg (by omega), if_neg (by omega)]
    rfl
  | succ n ih =>
    intro h1 h2 k
    have ih := ih (by omega) (by omega)
    rw [swr, swp_at _ (by rw [swr_size]; omega) (by rw [swr_size]; omega), ih, ih, ih]
    by_cases e1 : k = b + n
    · subst e1
      rw [if_pos rfl, if_neg (by omega), if_neg (by omega), if_neg (by omega), if_pos (by omega), show b + n - (b - a) = a + n by omega]
    · rw [if_neg e1]
      by_cases e2 : k = a + n
      · subst e2
        rw [if_pos rfl, if_neg (by omega), if_neg (by omega), if_pos (by omega), show a + n + (b - a) = b + n by omega]
      · rw [if_neg e2]
        by_cases e3 : a ≤ k ∧ k < a + n
        · rw [if_pos e3, if_pos (by omega)]
        · rw [if_neg e3]
          by_cases e4 : b ≤ k ∧ k < b + n
          · rw [if_pos e4, if_neg (by omega), if_pos (by omega)]
          · rw [if_neg e4, if_neg (by omega), if_neg (by omega)]
theorem swr_perm (a b : Nat) (d : Array α) (lo hi : Nat) : ∀ n, lo ≤ a → a + n ≤ b → b + n ≤ hi → hi ≤ d.size → PermIn lo hi d (swr a b n d) := by
  intro n
  induction n with
  | zero => intro _ _ _ _; exact permIn_refl d lo hi
  | succ n ih =>
    intro h1 h2 h3 h4
    exact permIn_trans _ _ _ lo hi (ih h1 (by omega) (by omega) h4) (swp_permIn _ lo hi (a + n) (b + n) (by omega) (by omega) (by omega) (by omega) (by rw [swr_size]; exact h4))
/-- D is d, but for [a, m) and [m, b), which have changed places -/
def Rot (d : Array α) (a m b : Nat) (D : Array α) : Prop := PermIn a b d D ∧ (∀ i, i < b - m → D[a + i]! = d[m + i]!) ∧ (∀ i, i < m - a → D[a + (b - m) + i]! = d[a + i]!)
theorem rot_left (d D : Array α) (m i j : Nat) (hij : j < i) (him : i ≤ m) (hb : m + j ≤ d.size) (h : Rot (swr (m - i) m j d) (m - i + j) m (m + j) D) : Rot d (m - i) m (m + j) D := by
  obtain ⟨h1, h2, h3⟩ := h
  have g := swr_at (m - i) m d j (by omega) hb
  have hp := swr_perm (m - i) m d (m - i) (m + j) j (Nat.le_refl _) (by omega) (Nat.le_refl _) hb
  refine ⟨permIn_trans _ _ _ _ _ hp (permIn_mono _ _ _ _ _ _ (by omega) (Nat.le_refl _) (by rw [swr_size]; exact hb) h1), fun k hk => ?_, fun k hk => ?_⟩
  · rw [h1.2.1 _ (.inl (by omega)), g, if_pos (by omega), show m - i + k + (m - (m - i)) = m + k by omega]
  · by_cases e : k < j
    · have := h2 k (by omega)
      rw [show m - i + (m + j - m) + k = m - i + j + k by omega, this, g, if_neg (by omega), if_pos (by omega), show m + k - (m - (m - i)) = m - i + k by omega]
    · have := h3 (k - j) (by omega)
      rw [show m - i + (m + j - m) + k = m - i + j + (m + j - m) + (k - j) by omega, this, g, if_neg (by omega), if_neg (by omega), show m - i + j + (k - j) = m - i + k by omega]
theorem rot_right (d D : Array α) (m i j : Nat) (hij : i < j) (him : i ≤ m) (hb : m + j ≤ d.size) (h : Rot (swr (m - i) (m + j - i) i d) (m - i) m (m + j - i) D) : Rot d (m - i) m (m + j) D := by
  obtain ⟨h1, h2, h3⟩ := h
  have g := swr_at (m - i) (m + j - i) d i (by omega) (by omega)
  have hp := swr_perm (m - i) (m + j - i) d (m - i) (m + j) i (Nat.le_refl _) (by omega) (by omega) hb
  refine ⟨permIn_trans _ _ _ _ _ hp (permIn_mono _ _ _ _ _ _ (Nat.le_refl _) (by omega) (by rw [swr_size]; exact hb) h1), fun k hk => ?_, fun k hk => ?_⟩
  · by_cases e : k < j - i
    · rw [h2 k (by omega), g, if_neg (by omega), if_neg (by omega)]
    · have := h3 (k - (j - i)) (by omega)
      rw [show m - i + k = m - i + (m + j - i - m) + (k - (j - i)) by omega, this, g, if_pos (by omega), show m - i + (k - (j - i)) + (m + j - i - (m - i)) = m + k by omega]
  · rw [h1.2.1 _ (.inr (by omega)), g, if_neg (by omega), if_pos (by omega), show m - i + (m + j - m) + k - (m + j - i - (m - i)) = m - i + k by omega]
theorem rot_same (d : Array α) (m i : Nat) (him : i ≤ m) (hb : m + i ≤ d.size) : Rot d (m - i) m (m + i) (swr (m - i) m i d) := by
  have g := swr_at (m - i) m d i (by omega) hb
  refine ⟨swr_perm (m - i) m d (m - i) (m + i) i (Nat.le_refl _) (by omega) (Nat.le_refl _) hb, fun k hk => ?_, fun k hk => ?_⟩
  · rw [g, if_pos (by omega), show m - i + k + (m - (m - i)) = m + k by omega]
  · rw [g, if_neg (by omega), if_pos (by omega), show m - i + (m + i - m) + k - (m - (m - i)) = m - i + k by omega]
theorem rot_none (d : Array α) (a m b : Nat) (h : a = m ∨ m = b) : Rot d a m b d := by
  refine ⟨permIn_refl _ _ _, fun k hk => ?_, fun k hk => ?_⟩
  · rcases h with h | h
    · rw [h]
    · omega
  · rcases h with h | h
    · omega
    · rw [h, show a + (b - b) + k = a + k by omega]
theorem sorted_join (hS : SWO lt) {a m b : Nat} {d : Array α} (h1 : SortedIn lt a m d) (h2 : SortedIn lt m b d) (h : m ≤ a ∨ b ≤ m ∨ lt d[m]! d[m - 1]! = false) : SortedIn lt a b d := by
  intro i j hi hij hj
  by_cases e1 : j < m
  · exact h1 i j hi hij e1
  by_cases e2 : m ≤ i
  · exact h2 i j e2 hij hj
  rcases h with h | h | h
  · omega
  · omega
  · have x1 : lt d[m]! d[i]! = false := by
      by_cases e : i = m - 1
      · rw [e]; exact h
      · exact hS.ntrans _ _ _ h (h1 i (m - 1) hi (by omega) (by omega))
    by_cases e : j = m
    · rw [e]; exact x1
    · exact hS.ntrans _ _ _ (h2 m j (Nat.le_refl _) (by omega) hj) x1
theorem sorted_cong {a b a' b' : Nat} {d D : Array α} (h : SortedIn lt a b d) (hb : b' - a' ≤ b - a) (he : ∀ i, i < b' - a' → D[a' + i]! = d[a + i]!) : SortedIn lt a' b' D := by
  intro i j hi hij hj
  have x1 := he (i - a') (by omega)
  have x2 := he (j - a') (by omega)
  rw [show a' + (i - a') = i by omega] at x1
  rw [show a' + (j - a') = j by omega] at x2
  rw [x1, x2]
  exact h _ _ (by omega) (by omega) (by omega)
/-- what stands behind the rotation: four sorted rows, the first two below the last two -/
theorem merge_rows (hS : SWO lt) {d D : Array α} {a s m t b mid : Nat} (h1 : a ≤ s) (h2 : s ≤ m) (h3 : m ≤ t) (h4 : t ≤ b) (hmid : mid + m = s + t)
    (hL : SortedIn lt a m d) (hR : SortedIn lt m b d)
    (c1 : s ≤ a ∨ b ≤ t ∨ lt d[t]! d[s - 1]! = false) (c2 : t ≤ m ∨ m ≤ s ∨ lt d[s]! d[t - 1]! = false) (hD : Rot d s m t D) :
    SortedIn lt a s D ∧ SortedIn lt s mid D ∧ SortedIn lt mid t D ∧ SortedIn lt t b D ∧ ∀ i j, a ≤ i → i < mid → mid ≤ j → j < b → lt D[j]! D[i]! = false := by
  obtain ⟨p1, p2, p3⟩ := hD
  have k1 : ∀ i, i < s → D[i]! = d[i]! := fun i h => p1.2.1 i (.inl h)
  have k4 : ∀ i, t ≤ i → D[i]! = d[i]! := fun i h => p1.2.1 i (.inr h)
  have k2 : ∀ i, s ≤ i → i < mid → D[i]! = d[i + (m - s)]! := fun i g1 g2 => by
    have := p2 (i - s) (by omega)
    rwa [show s + (i - s) = i by omega, show m + (i - s) = i + (m - s) by omega] at this
  have k3 : ∀ i, mid ≤ i → i < t → D[i]! = d[i - (t - m)]! := fun i g1 g2 => by
    have := p3 (i - mid) (by omega)
    rwa [show s + (t - m) + (i - mid) = i by omega, show s + (i - mid) = i - (t - m) by omega] at this
  refine ⟨?_, ?_, ?_, ?_, ?_⟩
  · intro i j hi hij hj
    rw [k1 i (by omega), k1 j hj]
    exact hL i j hi hij (by omega)
  · intro i j hi hij hj
    rw [k2 i hi (by omega), k2 j (by omega) hj]
    exact hR _ _ (by omega) (by omega) (by omega)
  · intro i j hi hij hj
    rw [k3 i hi (by omega), k3 j (by omega) hj]
    exact hL _ _ (by omega) (by omega) (by omega)
  · intro i j hi hij hj
    rw [k4 i hi, k4 j (by omega)]
    exact hR _ _ (by omega) (by omega) (by omega)
  · intro i j hi h5 h6 hj
    by_cases e1 : i < s
    · rw [k1 i e1]
      by_cases e2 : j < t
      · rw [k3 j h6 e2]
        exact hL _ _ hi (by omega) (by omega)
      · rw [k4 j (by omega)]
        rcases c1 with c | c | c
        · omega
        · omega
        · have x1 : lt d[t]! d[i]! = false := by
            by_cases e : i = s - 1
            · rw [e]; exact c
            · exact hS.ntrans _ _ _ c (hL i (s - 1) hi (by omega) (by omega))
          by_cases e : j = t
          · rw [e]; exact x1
          · exact hS.ntrans _ _ _ (hR t j h3 (by omega) hj) x1
    · rw [k2 i (by omega) h5]
      by_cases e2 : j < t
      · rw [k3 j h6 e2]
        rcases c2 with c | c | c
        · omega
        · omega
        · have x1 : lt d[s]! d[i + (m - s)]! = false := by
            by_cases e : i + (m - s) = t - 1
            · rw [e]; exact c
            · exact hS.ntrans _ _ _ c (hR _ (t - 1) (by omega) (by omega) (by omega))
          by_cases e : j - (t - m) = s
          · rw [e]; exact x1
          · exact hS.ntrans _ _ _ (hL s _ h1 (by omega) (by omega)) x1
      · rw [k4 j (by omega)]
        exact hR _ _ (by omega) (by omega) hj
/-- the two halves, sorted by themselves -/
theorem merge_end (hS : SWO lt) {d D D1 D2 : Array α} {a s m t b mid : Nat} (h1 : a ≤ s) (h2 : s ≤ m) (h3 : m ≤ t) (h4 : t ≤ b) (hmid : mid + m = s + t) (hb : b ≤ d.size)
    (hL : SortedIn lt a m d) (hR : SortedIn lt m b d)
    (c1 : s ≤ a ∨ b ≤ t ∨ lt d[t]! d[s - 1]! = false) (c2 : t ≤ m ∨ m ≤ s ∨ lt d[s]! d[t - 1]! = false) (hD : Rot d s m t D)
    (hp1 : PermIn a mid D D1) (hs1 : SortedIn lt a mid D1) (hp2 : PermIn mid b D1 D2) (hs2 : SortedIn lt mid b D2) : PermIn a b d D2 ∧ SortedIn lt a b D2 := by
  obtain ⟨_, _, _, _, hX⟩ := merge_rows hS h1 h2 h3 h4 hmid hL hR c1 c2 hD
  have z0 : D.size = d.size := hD.1.1
  have z1 : D1.size = d.size := hp1.1.trans z0
  have q0 : PermIn a b d D := permIn_mono _ _ _ _ _ _ h1 h4 hb hD.1
  have q1 : PermIn a b D D1 := permIn_mono _ _ _ _ _ _ (Nat.le_refl _) (by omega) (by omega) hp1
  have q2 : PermIn a b D1 D2 := permIn_mono _ _ _ _ _ _ (by omega) (Nat.le_refl _) (by omega) hp2
  refine ⟨permIn_trans _ _ _ _ _ q0 (permIn_trans _ _ _ _ _ q1 q2), ?_⟩
  intro i j hi hij hj
  by_cases e1 : mid ≤ i
  · exact hs2 i j e1 hij hj
  rw [hp2.2.1 i (.inl (by omega))]
  by_cases e2 : j < mid
  · rw [hp2.2.1 j (.inl e2)]
    exact hs1 i j hi hij e2
  · -- one of the left, one of the right
    have y1 : ∀ j, mid ≤ j → j < b → ∀ i, a ≤ i → i < mid → lt D[j]! D1[i]! = false := fun j g1 g2 =>
      permIn_all D D1 a mid (fun x => lt D[j]! x = false) (by omega) hp1 (fun i g3 g4 => hX i j g3 g4 g1 g2)
    have y2 := permIn_all D1 D2 mid b (fun x => lt x D1[i]! = false) (by omega) hp2 (fun j g1 g2 => by
      rw [hp1.2.1 j (.inr g1)]
      exact y1 j g1 g2 i hi (by omega))
    exact y2 j (by omega) hj
/-- the first of the two, where it is not called -/
theorem merge_left (hS : SWO lt) {d D : Array α} {a s m t b mid : Nat} (h1 : a ≤ s) (h2 : s ≤ m) (h3 : m ≤ t) (h4 : t ≤ b) (hmid : mid + m = s + t)
    (hL : SortedIn lt a m d) (hR : SortedIn lt m b d)
    (c1 : s ≤ a ∨ b ≤ t ∨ lt d[t]! d[s - 1]! = false) (c2 : t ≤ m ∨ m ≤ s ∨ lt d[s]! d[t - 1]! = false) (hD : Rot d s m t D) (hno : ¬ (a < s ∧ s < mid)) : SortedIn lt a mid D := by
  obtain ⟨g1, g2, _, _, _⟩ := merge_rows hS h1 h2 h3 h4 hmid hL hR c1 c2 hD
  exact sorted_join hS g1 g2 (by omega)
theorem merge_right (hS : SWO lt) {d D : Array α} {a s m t b mid : Nat} (h1 : a ≤ s) (h2 : s ≤ m) (h3 : m ≤ t) (h4 : t ≤ b) (hmid : mid + m = s + t)
    (hL : SortedIn lt a m d) (hR : SortedIn lt m b d)
    (c1 : s ≤ a ∨ b ≤ t ∨ lt d[t]! d[s - 1]! = false) (c2 : t ≤ m ∨ m ≤ s ∨ lt d[s]! d[t - 1]! = false) (hD : Rot d s m t D) (hno : ¬ (mid < t ∧ t < b)) : SortedIn lt mid b D := by
  obtain ⟨_, _, g3, g4, _⟩ := merge_rows hS h1 h2 h3 h4 hmid hL hR c1 c2 hD
  exact sorted_join hS g3 g4 (by omega)
theorem sorted_keep {a b : Nat} {d D : Array α} (h : SortedIn lt a b d) (he : ∀ i, a ≤ i → i < b → D[i]! = d[i]!) : SortedIn lt a b D := by
  intro i j hi hij hj
  rw [he i hi (by omega), he j (by omega) hj]
  exact h i j hi hij hj
/-- one element ahead of a sorted row -/
theorem merge_one (hS : SWO lt) {d D : Array α} {a i b : Nat} (h1 : a < i) (h2 : i ≤ b) (hb : b ≤ d.size) (hR : SortedIn lt (a + 1) b d)
    (c1 : i ≤ a + 1 ∨ lt d[i - 1]! d[a]! = true) (c2 : b ≤ i ∨ lt d[i]! d[a]! = false) (hD : Rot d a (a + 1) i D) : PermIn a b d D ∧ SortedIn lt a b D := by
  have hL : SortedIn lt a (a + 1) d := fun p q _ _ _ => by omega
  have asy : ∀ x y, lt x y = true → lt y x = false := fun x y h => by
    cases e : lt y x with
    | false => rfl
    | true => have := hS.trans _ _ _ h e; rw [hS.irrefl] at this; cases this
  obtain ⟨_, g2, g3, g4, g5⟩ := merge_rows (s := a) (mid := i - 1) hS (Nat.le_refl _) (by omega) (by omega) h2 (by omega) hL hR (.inl (Nat.le_refl _)) (by rcases c1 with c | c; exact .inl c; exact .inr (.inr (asy _ _ c))) hD
  refine ⟨permIn_mono _ _ _ _ _ _ (Nat.le_refl _) h2 hb hD.1, ?_⟩
  have k1 : D[i - 1]! = d[a]! := by
    have := hD.2.2 0 (by omega)
    rwa [show a + (i - (a + 1)) + 0 = i - 1 by omega] at this
  refine sorted_join hS (sorted_join hS g2 g3 ?_) g4 ?_
  · by_cases e : i - 1 ≤ a
    · exact .inl e
    · exact .inr (.inr (g5 _ _ (by omega) (by omega) (by omega) (by omega)))
  · rcases c2 with c | c
    · exact .inr (.inl c)
    · refine .inr (.inr ?_)
      rw [k1, hD.1.2.1 i (.inr (Nat.le_refl _))]
      exact c
/-- one element behind a sorted row -/
theorem merge_last (hS : SWO lt) {d D : Array α} {a i m : Nat} (h1 : a ≤ i) (h2 : i ≤ m) (hb : m + 1 ≤ d.size) (hL : SortedIn lt a m d)
    (c1 : i ≤ a ∨ lt d[m]! d[i - 1]! = false) (c2 : m ≤ i ∨ lt d[m]! d[i]! = true) (hD : Rot d i m (m + 1) D) : PermIn a (m + 1) d D ∧ SortedIn lt a (m + 1) D := by
  have hR : SortedIn lt m (m + 1) d := fun p q _ _ _ => by omega
  have asy : ∀ x y, lt x y = true → lt y x = false := fun x y h => by
    cases e : lt y x with
    | false => rfl
    | true => have := hS.trans _ _ _ h e; rw [hS.irrefl] at this; cases this
  obtain ⟨g1, g2, g3, _, g5⟩ := merge_rows (t := m + 1) (mid := i + 1) hS h1 h2 (by omega) (Nat.le_refl _) (by omega) hL hR (.inr (.inl (Nat.le_refl _))) (by rcases c2 with c | c; exact .inr (.inl c); exact .inr (.inr (asy _ _ c))) hD
  refine ⟨permIn_mono _ _ _ _ _ _ h1 (Nat.le_refl _) hb hD.1, ?_⟩
  have k1 : D[i]! = d[m]! := by
    have := hD.2.1 0 (by omega)
    simpa using this
  refine sorted_join hS (sorted_join hS g1 g2 ?_) g3 ?_
  · rcases c1 with c | c
    · exact .inl c
    · by_cases e : i ≤ a
      · exact .inl e
      · refine .inr (.inr ?_)
        rw [k1, hD.1.2.1 (i - 1) (.inl (by omega))]
        exact c
  · by_cases e : m + 1 ≤ i + 1
    · exact .inr (.inl e)
    · refine .inr (.inr (g5 _ _ (by omega) (by omega) (by omega) (by omega)))
/-- an element that moves up, or down, one place at a time -/
def shu (a : Nat) : Nat → Array α → Array α
  | 0, d => d
  | n + 1, d => swp (shu a n d) (a + n) (a + n + 1)
theorem shu_size (a n : Nat) (d : Array α) : (shu a n d).size = d.size := by
  induction n with
  | zero => rfl
  | succ n ih => rw [shu, size_swp, ih]
theorem shu_rot (a : Nat) (d : Array α) : ∀ n, a + n < d.size → Rot d a (a + 1) (a + n + 1) (shu a n d) := by
  intro n
  induction n with
  | zero => intro _; exact rot_none _ _ _ _ (.inr rfl)
  | succ n ih =>
    intro h
    obtain ⟨g1, g2, g3⟩ := ih (by omega)
    have g := swp_at (shu a n d) (i := a + n) (j := a + n + 1) (by rw [shu_size]; omega) (by rw [shu_size]; omega)
    refine ⟨permIn_trans _ _ _ _ _ (permIn_mono _ _ _ _ _ _ (Nat.le_refl _) (by omega) (by omega) g1) (swp_permIn _ a (a + (n + 1) + 1) (a + n) (a + n + 1) (by omega) (by omega) (by omega) (by omega) (by rw [shu_size]; omega)), fun k hk => ?_, fun k hk => ?_⟩
    · rw [shu, g, if_neg (by omega)]
      by_cases e : k = n
      · subst e
        rw [if_pos rfl, g1.2.1 _ (.inr (by omega))]
        congr 1
        omega
      · rw [if_neg (by omega)]
        exact g2 k (by omega)
    · have := g3 0 (by omega)
      obtain rfl : k = 0 := by omega
      rw [shu, g, if_pos (by omega)]
      rwa [show a + (a + n + 1 - (a + 1)) + 0 = a + n by omega] at this
/-- .. down from m -/
def shd (m : Nat) : Nat → Array α → Array α
  | 0, d => d
  | n + 1, d => swp (shd m n d) (m - n) (m - n - 1)
theorem shd_size (m n : Nat) (d : Array α) : (shd m n d).size = d.size := by
  induction n with
  | zero => rfl
  | succ n ih => rw [shd, size_swp, ih]
theorem shd_rot (m : Nat) (d : Array α) : ∀ n, n ≤ m → m < d.size → Rot d (m - n) m (m + 1) (shd m n d) := by
  intro n
  induction n with
  | zero => intro _ _; exact rot_none _ _ _ _ (.inl rfl)
  | succ n ih =>
    intro h hm
    obtain ⟨g1, g2, g3⟩ := ih (by omega) hm
    have g := swp_at (shd m n d) (i := m - n) (j := m - n - 1) (by rw [shd_size]; omega) (by rw [shd_size]; omega)
    refine ⟨permIn_trans _ _ _ _ _ (permIn_mono _ _ _ _ _ _ (by omega) (Nat.le_refl _) (by omega) g1) (swp_permIn _ (m - (n + 1)) (m + 1) (m - n) (m - n - 1) (by omega) (by omega) (by omega) (by omega) (by rw [shd_size]; omega)), fun k hk => ?_, fun k hk => ?_⟩
    · obtain rfl : k = 0 := by omega
      have := g2 0 (by omega)
      rw [shd, g, if_pos (by omega)]
      exact this
    · rw [shd, g, if_neg (by omega)]
      by_cases e : k = 0
      · subst e
        rw [if_pos (by omega), g1.2.1 _ (.inl (by omega))]
        congr 1
      · rw [if_neg (by omega)]
        have := g3 (k - 1) (by omega)
        rw [show m - (n + 1) + (m + 1 - m) + k = m - n + (m + 1 - m) + (k - 1) by omega, this, show m - n + (k - 1) = m - (n + 1) + k by omega]
end Go.Proofs.YtabjihchcmjdmaaDoor
/-
  slices.swapRangeCmpFunc and rotateCmpFunc at packets. By an AI agent.
-/
namespace Go.Proofs.YtabjihchcmjdmaaDoor
open Go.RowKit Go.Shelf Go.Sort Go.Lib

theorem mixedT : Tryd.prog.follows Departure.mixedOrders = true := by kernel_rfl
abbrev SK (kz : Nat) (w0 : World) (g : Nat) (d : Array Po) (w : World) : Prop := SWK ocl kz w0 g 0 d w
set_option maxHeartbeats 4000000 in
set_option maxRecDepth 1000000 in
theorem swr_any (g cap a b n N : Nat) (d0 d : Array Po) (w0 w : World) (kz : Nat) (zE : ∀ w, (Go.sizeOf 27).run Tryd.prog w = .ok kz w) (R : RowK ocl kz w0 g 0 d0) (hs : d0.size = d.size) (hN : d.size = N) (S : SK kz w0 g d w) (h1 : a + n ≤ b) (h2 : b + n ≤ N) (h3 : N ≤ 1000000) :
    Calls Tryd.prog 65 #[.slice (some ⟨g, 0, none⟩) N cap, .int .i64 (a : Int), .int .i64 (b : Int), .int .i64 (n : Int), .func (.func 47) #[] #[]] w fun e w' => e = .returned (.tuple #[]) ∧ SK kz w0 g (swr a b n d) w' := by
  have S0 : Aside (SK kz w0 g d w) := S
  have mixed := mixedT
  have aE := pk_agg
  clear S
  go_enter Tryd.func65, Tryd.ntmps65
  go_wp2
  go_loopg [10] n (fun kx s10 wr => ∃ (i : Nat), s10 = .int .i64 i ∧ i ≤ n ∧ n - i ≤ kx ∧ Aside (SK kz w0 g (swr a b i d) wr))
  case atStart => exact ⟨0, rfl, Nat.zero_le _, Nat.le_refl _, S0⟩
  case round =>
    clear S0
    obtain ⟨i, rfl, hi, hkx, S1⟩ := hrel
    have hds : (swr a b i d).size = N := by rw [swr_size, hN]
    by_cases hlt : (i : Int) < (n : Int)
    · have hin : i < n := by omega
      go_wp2_with fail
      have ea : ((a : Int) + (i : Int)).toNat = a + i := by omega
      have pa : (0 : Int) ≤ (a : Int) + (i : Int) := by omega
      have ba : (a : Int) + (i : Int) < (N : Int) := by omega
      have ra : IntKind.i64.wrap ((a : Int) + (i : Int)) = (a : Int) + (i : Int) := by rw [IntKind.wrap_i64]; omega
      have ec : ((b : Int) + (i : Int)).toNat = b + i := by omega
      have pc : (0 : Int) ≤ (b : Int) + (i : Int) := by omega
      have bc : (b : Int) + (i : Int) < (N : Int) := by omega
      have rc : IntKind.i64.wrap ((b : Int) + (i : Int)) = (b : Int) + (i : Int) := by rw [IntKind.wrap_i64]; omega
      have S2 : Aside (SK kz w0 g (swp (swr a b i d) (a + i) (b + i)) ((wr.drew.setCells g (0 + (a + i) * kz) (ocl (swr a b i d)[b + i]!)).setCells g (0 + (b + i) * kz) (ocl (swr a b i d)[a + i]!))) := S1.out.swapped R (a + i) (b + i) (by omega) (by omega)
      have la := S1.out.ld1 R (by omega) Tryd.prog (a + i) (by omega)
      have lb := S1.out.ld1 R (by omega) Tryd.prog (b + i) (by omega)
      have sa := S1.out.st1 R (by omega) Tryd.prog (a + i) (by omega) (swr a b i d)[b + i]!
      have sb := S1.out.st2 R (by omega) Tryd.prog (a + i) (b + i) (by omega) (by omega) (swr a b i d)[b + i]! (swr a b i d)[a + i]!
      have na : (ocl (swr a b i d)[a + i]!).length = kz := R.hk _
      have nb : (ocl (swr a b i d)[b + i]!).length = kz := R.hk _
      generalize ocl (swr a b i d)[a + i]! = cI at S2 la sb na
      generalize ocl (swr a b i d)[b + i]! = cJ at S2 lb sa sb nb
      simp only [Nat.zero_add] at la lb sa sb S2
      clear S1
      go_wp2_with fail
      go_big_region_o
      clear la lb sa sb
      generalize (wr.drew.setCells g ((a + i) * kz) cJ).setCells g ((b + i) * kz) cI = w2 at S2 ⊢
      go_wp2
      go_roundg (n - (i + 1))
      case measure => omega
      case rel =>
        exact ⟨i + 1, by simp, by omega, Nat.le_refl _, S2⟩
    · go_wp2
      go_end0
      obtain rfl : i = n := by omega
      exact ⟨rfl, S1.out⟩
set_option maxHeartbeats 4000000 in
set_option maxRecDepth 1000000 in
theorem rot_any (g cap a m b N : Nat) (d0 d : Array Po) (w0 w : World) (kz : Nat) (zE : ∀ w, (Go.sizeOf 27).run Tryd.prog w = .ok kz w) (R : RowK ocl kz w0 g 0 d0) (hs : d0.size = d.size) (hN : d.size = N) (S : SK kz w0 g d w) (h1 : a < m) (h2 : m < b) (h3 : b ≤ N) (h4 : N ≤ 1000000) :
    Calls Tryd.prog 64 #[.slice (some ⟨g, 0, none⟩) N cap, .int .i64 (a : Int), .int .i64 (m : Int), .int .i64 (b : Int), .func (.func 47) #[] #[]] w fun e w' => e = .returned (.tuple #[]) ∧ ∃ D, SK kz w0 g D w' ∧ Rot d a m b D := by
  have S0 : Aside (SK kz w0 g d w) := S
  clear S
  go_enter Tryd.func64, Tryd.ntmps64
  go_wp2
  go_loopg [10, 11] (b - a) (fun kx s10 s11 wr => ∃ (i j : Nat) (dk : Array Po), s10 = .int .i64 i ∧ s11 = .int .i64 j ∧ 0 < i ∧ 0 < j ∧ i + a ≤ m ∧ m + j ≤ b ∧ i + j ≤ kx ∧ dk.size = N ∧ Aside (SK kz w0 g dk wr) ∧ Hid (∀ D, Rot dk (m - i) m (m + j) D → Rot d a m b D))
  case atStart => exact ⟨m - a, b - m, d, by simp; omega, by simp; omega, by omega, by omega, by omega, by omega, by omega, hN, S0, fun D h => by rwa [show m - (m - a) = a by omega, show m + (b - m) = b by omega] at h⟩
  case round =>
    clear S0
    obtain ⟨i, j, dk, rfl, rfl, hi, hj, him, hjb, hkx, hds, S1, HR⟩ := hrel
    have emi : ((m - i : Nat) : Int) = (m : Int) - (i : Int) := by omega
    by_cases heq : i = j
    · subst heq
      have hcall := swr_any g cap (m - i) m i N d0 dk w0 wr kz zE R (by omega) hds S1.out (by omega) (by omega) h4
      rw [emi] at hcall
      have HC := Lib.hid hcall
      clear hcall S1
      go_wp2_with fail
      refine HC.out.mono ?_
      rintro e w1 ⟨rfl, S2⟩
      have HS := Lib.hid S2
      clear S2
      go_wp2_with fail
      go_end0
      exact ⟨rfl, _, HS.out, HR.out _ (rot_same dk m i (by omega) (by omega))⟩
    · have hne : ¬ (i : Int) = (j : Int) := by omega
      by_cases hij : (j : Int) < (i : Int)
      · have hcall := swr_any g cap (m - i) m j N d0 dk w0 wr kz zE R (by omega) hds S1.out (by omega) (by omega) h4
        rw [emi] at hcall
        have HC := Lib.hid hcall
        clear hcall S1
        go_wp2_with fail
        refine HC.out.mono ?_
        rintro e w1 ⟨rfl, S2⟩
        have HS := Lib.hid S2
        clear S2
        go_wp2_with fail
        go_roundg (i - j + j)
        case measure => omega
        case rel => exact ⟨i - j, j, swr (m - i) m j dk, by simp; omega, rfl, by omega, hj, by omega, hjb, Nat.le_refl _, by rw [swr_size]; exact hds, HS.out, fun D h => HR.out D (rot_left dk D m i j (by omega) (by omega) (by omega) (by rwa [show m - (i - j) = m - i + j by omega] at h))⟩
      · have emj : ((m + j - i : Nat) : Int) = (m : Int) + (j : Int) - (i : Int) := by omega
        have hcall := swr_any g cap (m - i) (m + j - i) i N d0 dk w0 wr kz zE R (by omega) hds S1.out (by omega) (by omega) h4
        rw [emi, emj] at hcall
        have HC := Lib.hid hcall
        clear hcall S1
        go_wp2_with fail
        refine HC.out.mono ?_
        rintro e w1 ⟨rfl, S2⟩
        have HS := Lib.hid S2
        clear S2
        go_wp2_with fail
        go_roundg (i + (j - i))
        case measure => omega
        case rel => exact ⟨i, j - i, swr (m - i) (m + j - i) i dk, rfl, by simp; omega, hi, by omega, him, by omega, Nat.le_refl _, by rw [swr_size]; exact hds, HS.out, fun D h => HR.out D (rot_right dk D m i j (by omega) (by omega) (by omega) (by rwa [show m + (j - i) = m + j - i by omega] at h))⟩
end Go.Proofs.YtabjihchcmjdmaaDoor
/-
  slices.symMergeCmpFunc at packets. By an AI agent.
-/
namespace Go.Proofs.YtabjihchcmjdmaaDoor
open Go.RowKit Go.Shelf Go.Sort Go.Lib
theorem loe (x y : Po) : ltOf cfo x y = true ∨ ltOf cfo x y = false := by cases ltOf cfo x y <;> simp
set_option maxHeartbeats 8000000 in
set_option maxRecDepth 1000000 in
theorem sym_one (g cap N : Nat) (d0 : Array Po) (w0 : World) (kz : Nat) (zE : ∀ w, (Go.sizeOf 27).run Tryd.prog w = .ok kz w) (R : RowK ocl kz w0 g 0 d0) (hcmp : Hid (CmpLays Tryd.prog 47 #[] ocl kz cfo g 0 d0.size w0)) (hs : d0.size = N) (h4 : N ≤ 1000000) (a m b : Nat) (d : Array Po) (w : World) (hN : d.size = N) (S : SK kz w0 g d w) (_h1 : a < m) (_h2 : m < b) (h3 : b ≤ N) (hL : SortedIn (ltOf cfo) a m d) (hR : SortedIn (ltOf cfo) m b d) (hm : m = a + 1) :
    Calls Tryd.prog 63 #[.slice (some ⟨g, 0, none⟩) N cap, .int .i64 (a : Int), .int .i64 (m : Int), .int .i64 (b : Int), .func (.func 47) #[] #[]] w fun e w' => e = .returned (.tuple #[]) ∧ ∃ D, SK kz w0 g D w' ∧ PermIn a b d D ∧ SortedIn (ltOf cfo) a b D := by
  have HM := Lib.hid hm
  have hm1 : (m : Int) - (a : Int) = 1 := by omega
  clear hm
  have mixed := mixedT
  have aE := pk_agg
  have eg : ∀ args w, (callFunc 47 args).run Tryd.prog w = .ok (.enter 47 args) w := enters_of Tryd.func47 (by kernel_rfl) rfl
  have S0 : Aside (SK kz w0 g d w) := S
  have HL := Lib.hid hL
  have HR := Lib.hid hR
  clear S hL hR
  go_enter Tryd.func63, Tryd.ntmps63
  go_wp2_with fail
  go_loopg [10, 11, 12] (b - m) (fun kx s10 s11 _ wr => ∃ (i j : Nat), s10 = .int .i64 i ∧ s11 = .int .i64 j ∧ m ≤ i ∧ i ≤ j ∧ j ≤ b ∧ j - i ≤ kx ∧ Aside (SK kz w0 g d wr) ∧ Hid ((i ≤ m ∨ ltOf cfo d[i - 1]! d[a]! = true) ∧ (b ≤ j ∨ ltOf cfo d[j]! d[a]! = false)))
  case atStart => exact ⟨m, b, rfl, rfl, Nat.le_refl _, by omega, Nat.le_refl _, Nat.le_refl _, S0, .inl (Nat.le_refl _), .inl (Nat.le_refl _)⟩
  case round =>
    clear S0
    obtain ⟨i, j, rfl, rfl, hai, hij, hjb, hkx, S1, HC⟩ := hrel
    by_cases hlt : (i : Int) < (j : Int)
    · have hh : ((i : Int) + (j : Int)) / 2 = (((i + j) / 2 : Nat) : Int) := by omega
      obtain ⟨h, hhe⟩ : ∃ h, h = (i + j) / 2 := ⟨_, rfl⟩
      rw [← hhe] at hh
      have hb1 : i ≤ h := by omega
      have hb2 : h < j := by omega
      clear hhe
      rcases loe d[h]! d[a]! with hLt | hLt
      · have HLt := Lib.hid hLt
        clear hLt
        have ea1 : ((h : Int)).toNat = h := by omega
        have pa1 : (0 : Int) ≤ (h : Int) := by omega
        have ba1 : (h : Int) < (N : Int) := by omega
        have ra1 : IntKind.i64.wrap ((h : Int)) = (h : Int) := by rw [IntKind.wrap_i64]; omega
        have ea2 : ((a : Int)).toNat = a := by omega
        have pa2 : (0 : Int) ≤ (a : Int) := by omega
        have ba2 : (a : Int) < (N : Int) := by omega
        have ra2 : IntKind.i64.wrap ((a : Int)) = (a : Int) := by rw [IntKind.wrap_i64]; omega
        have la := S1.out.ld R (by omega) Tryd.prog (h) (by omega)
        have lb := S1.out.ld R (by omega) Tryd.prog (a) (by omega)
        simp only [Nat.zero_add] at la lb
        obtain ⟨x1, hx1⟩ : ∃ x, x = d[h]! := ⟨_, rfl⟩
        obtain ⟨y1, hy1⟩ : ∃ x, x = d[a]! := ⟨_, rfl⟩
        rw [← hx1] at la
        rw [← hy1] at lb
        have hc1 := S1.out.cmp hcmp.out (by omega) x1 y1
        have hL1 := HLt.out
        rw [← hx1, ← hy1] at hL1
        have hv1 : cfo x1 y1 < 0 := of_decide_eq_true hL1
        have hd1 : decide (cfo x1 y1 < 0) = true := hL1
        clear hx1 hy1 hL1
        go_wp2_with fail
        go_quiet_grown (first | (go_at_fn 47; refine Calls.grown_of (hc1 _ _)))
        have S2 : Aside (SK kz w0 g d (grow (wr.drewN nq) osq)) := S1.out.grown nq osq
        clear la lb hc1 S1 hv1 hd1 ea1 pa1 ba1 ra1 ea2 pa2 ba2 ra2
        generalize grow (wr.drewN nq) osq = w2 at S2 ⊢
        clear nq osq
        go_wp2_with fail
        go_roundg (j - (h + 1))
        case measure => omega
        case rel => exact ⟨h + 1, j, by simp, rfl, by omega, by omega, hjb, Nat.le_refl _, S2, .inr HLt.out, HC.out.2⟩
      · have HLt := Lib.hid hLt
        clear hLt
        have ea1 : ((h : Int)).toNat = h := by omega
        have pa1 : (0 : Int) ≤ (h : Int) := by omega
        have ba1 : (h : Int) < (N : Int) := by omega
        have ra1 : IntKind.i64.wrap ((h : Int)) = (h : Int) := by rw [IntKind.wrap_i64]; omega
        have ea2 : ((a : Int)).toNat = a := by omega
        have pa2 : (0 : Int) ≤ (a : Int) := by omega
        have ba2 : (a : Int) < (N : Int) := by omega
        have ra2 : IntKind.i64.wrap ((a : Int)) = (a : Int) := by rw [IntKind.wrap_i64]; omega
        have la := S1.out.ld R (by omega) Tryd.prog (h) (by omega)
        have lb := S1.out.ld R (by omega) Tryd.prog (a) (by omega)
        simp only [Nat.zero_add] at la lb
        obtain ⟨x1, hx1⟩ : ∃ x, x = d[h]! := ⟨_, rfl⟩
        obtain ⟨y1, hy1⟩ : ∃ x, x = d[a]! := ⟨_, rfl⟩
        rw [← hx1] at la
        rw [← hy1] at lb
        have hc1 := S1.out.cmp hcmp.out (by omega) x1 y1
        have hL1 := HLt.out
        rw [← hx1, ← hy1] at hL1
        have hv1 : ¬ cfo x1 y1 < 0 := of_decide_eq_false hL1
        have hd1 : decide (cfo x1 y1 < 0) = false := hL1
        clear hx1 hy1 hL1
        go_wp2_with fail
        go_quiet_grown (first | (go_at_fn 47; refine Calls.grown_of (hc1 _ _)))
        have S2 : Aside (SK kz w0 g d (grow (wr.drewN nq) osq)) := S1.out.grown nq osq
        clear la lb hc1 S1 hv1 hd1 ea1 pa1 ba1 ra1 ea2 pa2 ba2 ra2
        generalize grow (wr.drewN nq) osq = w2 at S2 ⊢
        clear nq osq
        go_wp2_with fail
        go_roundg (h - i)
        case measure => omega
        case rel => exact ⟨i, h, rfl, rfl, hai, hb1, by omega, Nat.le_refl _, S2, HC.out.1, .inr HLt.out⟩
    · obtain rfl : i = j := by omega
      clear hkx hij
      go_wp2_with fail
      go_loopg [13] (i - 1 - a) (fun kx s13 wr2 => ∃ (n : Nat), s13 = .int .i64 ((a + n : Nat) : Int) ∧ a + n + 1 ≤ i ∧ i - 1 - (a + n) ≤ kx ∧ Aside (SK kz w0 g (shu a n d) wr2))
      case atStart => exact ⟨0, rfl, by omega, Nat.le_refl _, S1⟩
      case round =>
        clear S1
        obtain ⟨n, rfl, hni, hkx, S1⟩ := hrel
        have hds : (shu a n d).size = N := by rw [shu_size, hN]
        obtain ⟨k, hk⟩ : ∃ k, k = a + n := ⟨_, rfl⟩
        rw [← hk] at hni hkx ⊢
        have HK := Lib.hid hk
        clear hk
        by_cases hlt2 : (k : Int) < (i : Int) - 1
        · have hki : k + 1 < i := by omega
          obtain ⟨ds, hdse⟩ : ∃ ds, ds = shu a n d := ⟨_, rfl⟩
          rw [← hdse] at S1 hds
          have HDS := Lib.hid hdse
          clear hdse
          have ea1 : ((k : Int)).toNat = k := by omega
          have pa1 : (0 : Int) ≤ (k : Int) := by omega
          have ba1 : (k : Int) < (N : Int) := by omega
          have ra1 : IntKind.i64.wrap ((k : Int)) = (k : Int) := by rw [IntKind.wrap_i64]; omega
          have ea2 : ((k : Int) + 1).toNat = k + 1 := by omega
          have pa2 : (0 : Int) ≤ (k : Int) + 1 := by omega
          have ba2 : (k : Int) + 1 < (N : Int) := by omega
          have ra2 : IntKind.i64.wrap ((k : Int) + 1) = (k : Int) + 1 := by rw [IntKind.wrap_i64]; omega
          have S2 := S1.out.swapped R (k) (k + 1) (by omega) (by omega)
          have la := S1.out.ld1 R (by omega) Tryd.prog (k) (by omega)
          have lb := S1.out.ld1 R (by omega) Tryd.prog (k + 1) (by omega)
          have sa := S1.out.st1 R (by omega) Tryd.prog (k) (by omega) ds[k + 1]!
          have sb := S1.out.st2 R (by omega) Tryd.prog (k) (k + 1) (by omega) (by omega) ds[k + 1]! ds[k]!
          have na : (ocl ds[k]!).length = kz := R.hk _
          have nb : (ocl ds[k + 1]!).length = kz := R.hk _
          generalize ocl ds[k]! = cI at S2 la sb na
          generalize ocl ds[k + 1]! = cJ at S2 lb sa sb nb
          simp only [Nat.zero_add] at la lb sa sb S2
          replace S2 : Aside _ := S2
          clear S1
          go_wp2_with fail
          go_big_region_o
          clear la lb sa sb ea1 pa1 ba1 ra1 ea2 pa2 ba2 ra2
          generalize (wr.drew.setCells g ((k) * kz) cJ).setCells g ((k + 1) * kz) cI = w2 at S2 ⊢
          clear na nb
          go_wp2_with fail
          go_roundg (i - 1 - (k + 1))
          case measure => omega
          case rel => exact ⟨n + 1, by rw [HK.out]; simp; omega, by have := HK.out; omega, by have := HK.out; omega, by rw [HDS.out, HK.out] at S2; exact S2⟩
        · go_wp2_with fail
          (try simp only [Exit.inBlock, Exit.then]); refine bodyPost_ret (results_none rfl _ _ _) rfl ?_
          have hkn : a + n + 1 = i := by have := HK.out; omega
          have hrot := shu_rot a d n (by omega)
          rw [hkn] at hrot
          have hm := HM.out
          have hr1 := HR.out
          have hc1 := HC.out.1
          rw [hm] at hr1 hc1
          obtain ⟨q1, q2⟩ := merge_one swo_cfo (by omega) hjb (by omega) hr1 hc1 HC.out.2 hrot
          exact ⟨rfl, _, S1.out, q1, q2⟩
set_option maxHeartbeats 8000000 in
set_option maxRecDepth 1000000 in
theorem sym_last (g cap N : Nat) (d0 : Array Po) (w0 : World) (kz : Nat) (zE : ∀ w, (Go.sizeOf 27).run Tryd.prog w = .ok kz w) (R : RowK ocl kz w0 g 0 d0) (hcmp : Hid (CmpLays Tryd.prog 47 #[] ocl kz cfo g 0 d0.size w0)) (hs : d0.size = N) (h4 : N ≤ 1000000) (a m b : Nat) (d : Array Po) (w : World) (hN : d.size = N) (S : SK kz w0 g d w) (_h1 : a < m) (_h2 : m < b) (h3 : b ≤ N) (hL : SortedIn (ltOf cfo) a m d) (hR : SortedIn (ltOf cfo) m b d) (hm : b = m + 1) (hm2 : a + 1 < m) :
    Calls Tryd.prog 63 #[.slice (some ⟨g, 0, none⟩) N cap, .int .i64 (a : Int), .int .i64 (m : Int), .int .i64 (b : Int), .func (.func 47) #[] #[]] w fun e w' => e = .returned (.tuple #[]) ∧ ∃ D, SK kz w0 g D w' ∧ PermIn a b d D ∧ SortedIn (ltOf cfo) a b D := by
  have HM := Lib.hid hm
  have hm1 : (b : Int) - (m : Int) = 1 := by omega
  have hma : ¬ (m : Int) - (a : Int) = 1 := by omega
  have hmb : ((m : Int) - (a : Int) == 1) = false := by simp only [beq_eq_false_iff_ne, ne_eq]; exact hma
  clear hm
  have mixed := mixedT
  have aE := pk_agg
  have eg : ∀ args w, (callFunc 47 args).run Tryd.prog w = .ok (.enter 47 args) w := enters_of Tryd.func47 (by kernel_rfl) rfl
  have S0 : Aside (SK kz w0 g d w) := S
  have HL := Lib.hid hL
  have HR := Lib.hid hR
  clear S hL hR
  go_enter Tryd.func63, Tryd.ntmps63
  go_wp2_with fail
  go_loopg [14, 15, 16] (m - a) (fun kx s14 s15 _ wr => ∃ (i j : Nat), s14 = .int .i64 i ∧ s15 = .int .i64 j ∧ a ≤ i ∧ i ≤ j ∧ j ≤ m ∧ j - i ≤ kx ∧ Aside (SK kz w0 g d wr) ∧ Hid ((i ≤ a ∨ ltOf cfo d[m]! d[i - 1]! = false) ∧ (m ≤ j ∨ ltOf cfo d[m]! d[j]! = true)))
  case atStart => exact ⟨a, m, rfl, rfl, Nat.le_refl _, by omega, Nat.le_refl _, Nat.le_refl _, S0, .inl (Nat.le_refl _), .inl (Nat.le_refl _)⟩
  case round =>
    clear S0
    obtain ⟨i, j, rfl, rfl, hai, hij, hjb, hkx, S1, HC⟩ := hrel
    by_cases hlt : (i : Int) < (j : Int)
    · have hh : ((i : Int) + (j : Int)) / 2 = (((i + j) / 2 : Nat) : Int) := by omega
      obtain ⟨h, hhe⟩ : ∃ h, h = (i + j) / 2 := ⟨_, rfl⟩
      rw [← hhe] at hh
      have hb1 : i ≤ h := by omega
      have hb2 : h < j := by omega
      clear hhe
      rcases loe d[m]! d[h]! with hLt | hLt
      · have HLt := Lib.hid hLt
        clear hLt
        have ea1 : ((m : Int)).toNat = m := by omega
        have pa1 : (0 : Int) ≤ (m : Int) := by omega
        have ba1 : (m : Int) < (N : Int) := by omega
        have ra1 : IntKind.i64.wrap ((m : Int)) = (m : Int) := by rw [IntKind.wrap_i64]; omega
        have ea2 : ((h : Int)).toNat = h := by omega
        have pa2 : (0 : Int) ≤ (h : Int) := by omega
        have ba2 : (h : Int) < (N : Int) := by omega
        have ra2 : IntKind.i64.wrap ((h : Int)) = (h : Int) := by rw [IntKind.wrap_i64]; omega
        have la := S1.out.ld R (by omega) Tryd.prog (m) (by omega)
        have lb := S1.out.ld R (by omega) Tryd.prog (h) (by omega)
        simp only [Nat.zero_add] at la lb
        obtain ⟨x1, hx1⟩ : ∃ x, x = d[m]! := ⟨_, rfl⟩
        obtain ⟨y1, hy1⟩ : ∃ x, x = d[h]! := ⟨_, rfl⟩
        rw [← hx1] at la
        rw [← hy1] at lb
        have hc1 := S1.out.cmp hcmp.out (by omega) x1 y1
        have hL1 := HLt.out
        rw [← hx1, ← hy1] at hL1
        have hv1 : cfo x1 y1 < 0 := of_decide_eq_true hL1
        have hd1 : decide (cfo x1 y1 < 0) = true := hL1
        clear hx1 hy1 hL1
        go_wp2_with fail
        go_quiet_grown (first | (go_at_fn 47; refine Calls.grown_of (hc1 _ _)))
        have S2 : Aside (SK kz w0 g d (grow (wr.drewN nq) osq)) := S1.out.grown nq osq
        clear la lb hc1 S1 hv1 hd1 ea1 pa1 ba1 ra1 ea2 pa2 ba2 ra2
        generalize grow (wr.drewN nq) osq = w2 at S2 ⊢
        clear nq osq
        go_wp2_with fail
        go_roundg (h - i)
        case measure => omega
        case rel => exact ⟨i, h, rfl, rfl, hai, hb1, by omega, Nat.le_refl _, S2, HC.out.1, .inr HLt.out⟩
      · have HLt := Lib.hid hLt
        clear hLt
        have ea1 : ((m : Int)).toNat = m := by omega
        have pa1 : (0 : Int) ≤ (m : Int) := by omega
        have ba1 : (m : Int) < (N : Int) := by omega
        have ra1 : IntKind.i64.wrap ((m : Int)) = (m : Int) := by rw [IntKind.wrap_i64]; omega
        have ea2 : ((h : Int)).toNat = h := by omega
        have pa2 : (0 : Int) ≤ (h : Int) := by omega
        have ba2 : (h : Int) < (N : Int) := by omega
        have ra2 : IntKind.i64.wrap ((h : Int)) = (h : Int) := by rw [IntKind.wrap_i64]; omega
        have la := S1.out.ld R (by omega) Tryd.prog (m) (by omega)
        have lb := S1.out.ld R (by omega) Tryd.prog (h) (by omega)
        simp only [Nat.zero_add] at la lb
        obtain ⟨x1, hx1⟩ : ∃ x, x = d[m]! := ⟨_, rfl⟩
        obtain ⟨y1, hy1⟩ : ∃ x, x = d[h]! := ⟨_, rfl⟩
        rw [← hx1] at la
        rw [← hy1] at lb
        have hc1 := S1.out.cmp hcmp.out (by omega) x1 y1
        have hL1 := HLt.out
        rw [← hx1, ← hy1] at hL1
        have hv1 : ¬ cfo x1 y1 < 0 := of_decide_eq_false hL1
        have hd1 : decide (cfo x1 y1 < 0) = false := hL1
        clear hx1 hy1 hL1
        go_wp2_with fail
        go_quiet_grown (first | (go_at_fn 47; refine Calls.grown_of (hc1 _ _)))
        have S2 : Aside (SK kz w0 g d (grow (wr.drewN nq) osq)) := S1.out.grown nq osq
        clear la lb hc1 S1 hv1 hd1 ea1 pa1 ba1 ra1 ea2 pa2 ba2 ra2
        generalize grow (wr.drewN nq) osq = w2 at S2 ⊢
        clear nq osq
        go_wp2_with fail
        go_roundg (j - (h + 1))
        case measure => omega
        case rel => exact ⟨h + 1, j, by simp, rfl, by omega, by omega, hjb, Nat.le_refl _, S2, .inr HLt.out, HC.out.2⟩
    · obtain rfl : i = j := by omega
      clear hkx hij
      go_wp2_with fail
      go_loopg [17] (m - i) (fun kx s17 wr2 => ∃ (n k : Nat), s17 = .int .i64 k ∧ k + n = m ∧ i ≤ k ∧ k - i ≤ kx ∧ Aside (SK kz w0 g (shd m n d) wr2))
      case atStart => exact ⟨0, m, rfl, rfl, hjb, Nat.le_refl _, S1⟩
      case round =>
        clear S1
        obtain ⟨n, k, rfl, hkm, hik, hkx, S1⟩ := hrel
        have hds : (shd m n d).size = N := by rw [shd_size, hN]
        have HKM := Lib.hid hkm
        clear hkm
        by_cases hlt2 : (i : Int) < (k : Int)
        · have hki : i < k := by omega
          have hkm : k ≤ m := by have := HKM.out; omega
          obtain ⟨ds, hdse⟩ : ∃ ds, ds = shd m n d := ⟨_, rfl⟩
          rw [← hdse] at S1 hds
          have HDS := Lib.hid hdse
          clear hdse
          have ea1 : ((k : Int)).toNat = k := by omega
          have pa1 : (0 : Int) ≤ (k : Int) := by omega
          have ba1 : (k : Int) < (N : Int) := by omega
          have ra1 : IntKind.i64.wrap ((k : Int)) = (k : Int) := by rw [IntKind.wrap_i64]; omega
          have ea2 : ((k : Int) - 1).toNat = k - 1 := by omega
          have pa2 : (0 : Int) ≤ (k : Int) - 1 := by omega
          have ba2 : (k : Int) - 1 < (N : Int) := by omega
          have ra2 : IntKind.i64.wrap ((k : Int) - 1) = (k : Int) - 1 := by rw [IntKind.wrap_i64]; omega
          have S2 := S1.out.swapped R (k) (k - 1) (by omega) (by omega)
          have la := S1.out.ld1 R (by omega) Tryd.prog (k) (by omega)
          have lb := S1.out.ld1 R (by omega) Tryd.prog (k - 1) (by omega)
          have sa := S1.out.st1 R (by omega) Tryd.prog (k) (by omega) ds[k - 1]!
          have sb := S1.out.st2 R (by omega) Tryd.prog (k) (k - 1) (by omega) (by omega) ds[k - 1]! ds[k]!
          have na : (ocl ds[k]!).length = kz := R.hk _
          have nb : (ocl ds[k - 1]!).length = kz := R.hk _
          generalize ocl ds[k]! = cI at S2 la sb na
          generalize ocl ds[k - 1]! = cJ at S2 lb sa sb nb
          simp only [Nat.zero_add] at la lb sa sb S2
          replace S2 : Aside _ := S2
          clear S1
          go_wp2_with fail
          go_big_region_o
          clear la lb sa sb ea1 pa1 ba1 ra1 ea2 pa2 ba2 ra2
          generalize (wr.drew.setCells g ((k) * kz) cJ).setCells g ((k - 1) * kz) cI = w2 at S2 ⊢
          clear na nb
          go_wp2_with fail
          go_roundg (k - 1 - i)
          case measure => omega
          case rel => exact ⟨n + 1, k - 1, by simp; omega, by have := HKM.out; omega, by omega, Nat.le_refl _, by rw [HDS.out, show k = m - n by have := HKM.out; omega] at S2; exact S2⟩
        · go_wp2_with fail
          (try simp only [Exit.inBlock, Exit.then]); refine bodyPost_ret (results_none rfl _ _ _) rfl ?_
          have hrot := shd_rot m d n (by have := HKM.out; omega) (by omega)
          rw [show m - n = i by have := HKM.out; omega] at hrot
          have hm := HM.out
          rw [hm]
          obtain ⟨q1, q2⟩ := merge_last swo_cfo hai hjb (by omega) HL.out HC.out.1 HC.out.2 hrot
          exact ⟨rfl, _, S1.out, q1, q2⟩
end Go.Proofs.YtabjihchcmjdmaaDoor
/-
  slices.symMergeCmpFunc at packets: more than one on each side; the contract. By an AI agent.
-/
namespace Go.Proofs.YtabjihchcmjdmaaDoor
open Go.RowKit Go.Shelf Go.Sort Go.Lib
theorem asym_cfo {x y : Po} (h : ltOf cfo x y = true) : ltOf cfo y x = false := by
  cases e : ltOf cfo y x with
  | false => rfl
  | true => have := swo_cfo.trans _ _ _ h e; rw [swo_cfo.irrefl] at this; cases this
set_option maxHeartbeats 8000000 in
set_option maxRecDepth 1000000 in
theorem sym_gen (g cap N : Nat) (d0 : Array Po) (w0 : World) (kz : Nat) (zE : ∀ w, (Go.sizeOf 27).run Tryd.prog w = .ok kz w) (R : RowK ocl kz w0 g 0 d0) (hcmp : Hid (CmpLays Tryd.prog 47 #[] ocl kz cfo g 0 d0.size w0)) (hs : d0.size = N) (h4 : N ≤ 1000000) (a m b : Nat) (d : Array Po) (w : World) (hN : d.size = N) (S : SK kz w0 g d w) (_h1 : a < m) (_h2 : m < b) (h3 : b ≤ N) (hL : SortedIn (ltOf cfo) a m d) (hR : SortedIn (ltOf cfo) m b d) (hma : a + 1 < m) (hmb : m + 1 < b) (ih : (∀ (a' m' b' : Nat) (d' : Array Po) (w' : World), b' - a' < b - a → d'.size = N → SK kz w0 g d' w' → a' < m' → m' < b' → b' ≤ N → SortedIn (ltOf cfo) a' m' d' → SortedIn (ltOf cfo) m' b' d' → Calls Tryd.prog 63 #[.slice (some ⟨g, 0, none⟩) N cap, .int .i64 (a' : Int), .int .i64 (m' : Int), .int .i64 (b' : Int), .func (.func 47) #[] #[]] w' fun e w' => e = .returned (.tuple #[]) ∧ ∃ D, SK kz w0 g D w' ∧ PermIn a' b' d' D ∧ SortedIn (ltOf cfo) a' b' D)) :
    Calls Tryd.prog 63 #[.slice (some ⟨g, 0, none⟩) N cap, .int .i64 (a : Int), .int .i64 (m : Int), .int .i64 (b : Int), .func (.func 47) #[] #[]] w fun e w' => e = .returned (.tuple #[]) ∧ ∃ D, SK kz w0 g D w' ∧ PermIn a b d D ∧ SortedIn (ltOf cfo) a b D := by
  have hm1 : ¬ (m : Int) - (a : Int) = 1 := by omega
  have hm2 : ((m : Int) - (a : Int) == 1) = false := by simp only [beq_eq_false_iff_ne, ne_eq]; exact hm1
  have hm3 : ¬ (b : Int) - (m : Int) = 1 := by omega
  have hm4 : ((b : Int) - (m : Int) == 1) = false := by simp only [beq_eq_false_iff_ne, ne_eq]; exact hm3
  obtain ⟨M, hM0⟩ : ∃ M, M = (a + b) / 2 := ⟨_, rfl⟩
  have hM : ((a : Int) + (b : Int)) / 2 = (M : Int) := by omega
  have hM1 : 2 * M ≤ a + b := by omega
  have hM2 : a + b ≤ 2 * M + 1 := by omega
  have HIH := Lib.hid ih
  clear hM0 ih
  have mixed := mixedT
  have aE := pk_agg
  have eg : ∀ args w, (callFunc 47 args).run Tryd.prog w = .ok (.enter 47 args) w := enters_of Tryd.func47 (by kernel_rfl) rfl
  have S0 : Aside (SK kz w0 g d w) := S
  have HL := Lib.hid hL
  have HR := Lib.hid hR
  clear S hL hR
  go_enter Tryd.func63, Tryd.ntmps63
  go_upto_if 140 with fail
  go_cut [20, 21] (fun x y wx => ∃ (s0 r0 : Nat), x = .int .i64 s0 ∧ y = .int .i64 r0 ∧ wx = w ∧ a ≤ s0 ∧ s0 ≤ r0 ∧ r0 ≤ m ∧ r0 ≤ M ∧ M + m ≤ s0 + b ∧ Hid ((s0 = a ∨ s0 + b = M + m) ∧ (r0 = m ∨ r0 = M)))
  case first =>
    by_cases hmm : (M : Int) < (m : Int)
    · go_wp2_with fail
      go_meet
      exact ⟨M + m - b, M, by simp; omega, rfl, rfl, by omega, by omega, by omega, Nat.le_refl _, by omega, .inr (by omega), .inr rfl⟩
    · go_wp2_with fail
      go_meet
      exact ⟨a, m, rfl, rfl, rfl, Nat.le_refl _, by omega, Nat.le_refl _, by omega, by omega, .inl rfl, .inl rfl⟩
  case rest =>
    obtain ⟨s0, r0, rfl, rfl, rfl, hs0, hsr, hr0, hrM, hsb, HSR⟩ := hcut
    go_wp2_with fail
    go_loopg [20, 21, 23] (r0 - s0) (fun kx s20 s21 _ wr => ∃ (s r : Nat), s20 = .int .i64 s ∧ s21 = .int .i64 r ∧ s0 ≤ s ∧ s ≤ r ∧ r ≤ r0 ∧ r - s ≤ kx ∧ Aside (SK kz w0 g d wr) ∧ Hid ((s ≤ s0 ∨ ltOf cfo d[M + m - 1 - (s - 1)]! d[s - 1]! = false) ∧ (r0 ≤ r ∨ ltOf cfo d[M + m - 1 - r]! d[r]! = true)))
    case atStart => exact ⟨s0, r0, rfl, rfl, Nat.le_refl _, hsr, Nat.le_refl _, Nat.le_refl _, S0, .inl (Nat.le_refl _), .inl (Nat.le_refl _)⟩
    case round =>
      clear S0
      obtain ⟨s, r, rfl, rfl, hss, hsr2, hrr, hkx, S1, HC⟩ := hrel
      by_cases hlt : (s : Int) < (r : Int)
      · have hh : ((s : Int) + (r : Int)) / 2 = (((s + r) / 2 : Nat) : Int) := by omega
        obtain ⟨h, hhe⟩ : ∃ h, h = (s + r) / 2 := ⟨_, rfl⟩
        rw [← hhe] at hh
        have hb1 : s ≤ h := by omega
        have hb2 : h < r := by omega
        clear hhe
        obtain ⟨q, hq⟩ : ∃ q, q = M + m - 1 - h := ⟨_, rfl⟩
        have eq1 : (M : Int) + (m : Int) - 1 - (h : Int) = (q : Int) := by omega
        have hqb : q < b := by omega
        have HQ := Lib.hid hq
        clear hq
        rcases loe d[q]! d[h]! with hLt | hLt
        · have HLt := Lib.hid hLt
          clear hLt
          have ea1 : ((q : Int)).toNat = q := by omega
          have pa1 : (0 : Int) ≤ (q : Int) := by omega
          have ba1 : (q : Int) < (N : Int) := by omega
          have ra1 : IntKind.i64.wrap ((q : Int)) = (q : Int) := by rw [IntKind.wrap_i64]; omega
          have ea2 : ((h : Int)).toNat = h := by omega
          have pa2 : (0 : Int) ≤ (h : Int) := by omega
          have ba2 : (h : Int) < (N : Int) := by omega
          have ra2 : IntKind.i64.wrap ((h : Int)) = (h : Int) := by rw [IntKind.wrap_i64]; omega
          have la := S1.out.ld R (by omega) Tryd.prog (q) (by omega)
          have lb := S1.out.ld R (by omega) Tryd.prog (h) (by omega)
          simp only [Nat.zero_add] at la lb
          obtain ⟨x1, hx1⟩ : ∃ x, x = d[q]! := ⟨_, rfl⟩
          obtain ⟨y1, hy1⟩ : ∃ x, x = d[h]! := ⟨_, rfl⟩
          rw [← hx1] at la
          rw [← hy1] at lb
          have hc1 := S1.out.cmp hcmp.out (by omega) x1 y1
          have hL1 := HLt.out
          rw [← hx1, ← hy1] at hL1
          have hv1 : cfo x1 y1 < 0 := of_decide_eq_true hL1
          have hd1 : decide (cfo x1 y1 < 0) = true := hL1
          clear hx1 hy1 hL1
          go_wp2_with fail
          go_quiet_grown (first | (go_at_fn 47; refine Calls.grown_of (hc1 _ _)))
          have S2 : Aside (SK kz w0 g d (grow (wr.drewN nq) osq)) := S1.out.grown nq osq
          clear la lb hc1 S1 hv1 hd1 ea1 pa1 ba1 ra1 ea2 pa2 ba2 ra2
          generalize grow (wr.drewN nq) osq = w2 at S2 ⊢
          clear nq osq
          go_wp2_with fail
          go_roundg (h - s)
          case measure => omega
          case rel => exact ⟨s, h, rfl, rfl, hss, hb1, by omega, Nat.le_refl _, S2, HC.out.1, .inr (by have := HLt.out; rw [HQ.out] at this; exact this)⟩
        · have HLt := Lib.hid hLt
          clear hLt
          have ea1 : ((q : Int)).toNat = q := by omega
          have pa1 : (0 : Int) ≤ (q : Int) := by omega
          have ba1 : (q : Int) < (N : Int) := by omega
          have ra1 : IntKind.i64.wrap ((q : Int)) = (q : Int) := by rw [IntKind.wrap_i64]; omega
          have ea2 : ((h : Int)).toNat = h := by omega
          have pa2 : (0 : Int) ≤ (h : Int) := by omega
          have ba2 : (h : Int) < (N : Int) := by omega
          have ra2 : IntKind.i64.wrap ((h : Int)) = (h : Int) := by rw [IntKind.wrap_i64]; omega
          have la := S1.out.ld R (by omega) Tryd.prog (q) (by omega)
          have lb := S1.out.ld R (by omega) Tryd.prog (h) (by omega)
          simp only [Nat.zero_add] at la lb
          obtain ⟨x1, hx1⟩ : ∃ x, x = d[q]! := ⟨_, rfl⟩
          obtain ⟨y1, hy1⟩ : ∃ x, x = d[h]! := ⟨_, rfl⟩
          rw [← hx1] at la
          rw [← hy1] at lb
          have hc1 := S1.out.cmp hcmp.out (by omega) x1 y1
          have hL1 := HLt.out
          rw [← hx1, ← hy1] at hL1
          have hv1 : ¬ cfo x1 y1 < 0 := of_decide_eq_false hL1
          have hd1 : decide (cfo x1 y1 < 0) = false := hL1
          clear hx1 hy1 hL1
          go_wp2_with fail
          go_quiet_grown (first | (go_at_fn 47; refine Calls.grown_of (hc1 _ _)))
          have S2 : Aside (SK kz w0 g d (grow (wr.drewN nq) osq)) := S1.out.grown nq osq
          clear la lb hc1 S1 hv1 hd1 ea1 pa1 ba1 ra1 ea2 pa2 ba2 ra2
          generalize grow (wr.drewN nq) osq = w2 at S2 ⊢
          clear nq osq
          go_wp2_with fail
          go_roundg (r - (h + 1))
          case measure => omega
          case rel => exact ⟨h + 1, r, by simp, rfl, by omega, by omega, hrr, Nat.le_refl _, S2, .inr (by have := HLt.out; rw [HQ.out] at this; exact this), HC.out.2⟩
      · obtain rfl : s = r := by omega
        clear hkx hsr2
        obtain ⟨t, ht⟩ : ∃ t, t = M + m - s := ⟨_, rfl⟩
        have eT : (M : Int) + (m : Int) - (s : Int) = (t : Int) := by omega
        have hst : M + m = s + t := by omega
        have b1 : a ≤ s := by omega
        have b2 : s ≤ m := by omega
        have b3 : m ≤ t := by omega
        have b4 : t ≤ b := by omega
        have c1 : s ≤ a ∨ b ≤ t ∨ ltOf cfo d[t]! d[s - 1]! = false := by
          by_cases e1 : s ≤ s0
          · rcases HSR.out.1 with e | e
            · exact .inl (by omega)
            · exact .inr (.inl (by omega))
          · rcases HC.out.1 with e | e
            · exact absurd e e1
            · rw [show M + m - 1 - (s - 1) = t by omega] at e
              exact .inr (.inr e)
        have c2 : t ≤ m ∨ m ≤ s ∨ ltOf cfo d[s]! d[t - 1]! = false := by
          by_cases e1 : r0 ≤ s
          · rcases HSR.out.2 with e | e
            · exact .inr (.inl (by omega))
            · exact .inl (by omega)
          · rcases HC.out.2 with e | e
            · exact absurd e e1
            · rw [show M + m - 1 - s = t - 1 by omega] at e
              exact .inr (.inr (asym_cfo e))
        have HB := Lib.hid (show a ≤ s ∧ s ≤ m ∧ m ≤ t ∧ t ≤ b ∧ M + m = s + t from ⟨b1, b2, b3, b4, hst⟩)
        have HC1 := Lib.hid c1
        have HC2 := Lib.hid c2
        have hrow := fun D (h : Rot d s m t D) => merge_rows swo_cfo b1 b2 b3 b4 hst HL.out HR.out c1 c2 h
        have HROW := Lib.hid hrow
        have hlft := fun D (h : Rot d s m t D) => merge_left swo_cfo b1 b2 b3 b4 hst HL.out HR.out c1 c2 h
        have HLFT := Lib.hid hlft
        have hrgt := fun D (h : Rot d s m t D) => merge_right swo_cfo b1 b2 b3 b4 hst HL.out HR.out c1 c2 h
        have HRGT := Lib.hid hrgt
        have hend := fun D D1 D2 (h : Rot d s m t D) => merge_end (D1 := D1) (D2 := D2) swo_cfo b1 b2 b3 b4 hst (show b ≤ d.size by omega) HL.out HR.out c1 c2 h
        have HEND := Lib.hid hend
        clear c1 c2 hrow hlft hrgt hend ht HC HSR hst hss hrr hsr hs0 hr0 hrM hsb
        by_cases g_x : s < m
        · skip
          by_cases g_y : m < t
          · skip
            by_cases g_u : a < s
            · skip
              by_cases g_v : t < b
              · skip
                have z_1 : (s : Int) < (m : Int) := by omega
                have z_2 : (m : Int) < (t : Int) := by omega
                have z_3 : (a : Int) < (s : Int) := by omega
                have z_4 : (s : Int) < (M : Int) := by omega
                have z_5 : (M : Int) < (t : Int) := by omega
                have z_6 : (t : Int) < (b : Int) := by omega
                have hcall := rot_any g cap s m t N d0 d w0 wr kz zE R (by omega) hN S1.out (by omega) (by omega) (by omega) h4
                have HCL := Lib.hid hcall
                clear hcall S1
                go_wp2_with fail
                refine HCL.out.mono ?_
                rintro e w3 ⟨rfl, D, S3, hrot⟩
                have S3 : Aside _ := S3
                have hDz : D.size = N := hrot.1.1.trans hN
                have HRT := Lib.hid hrot
                clear hrot HCL
                have hcall := HIH.out a s M D w3 (by omega) hDz S3.out (by omega) (by omega) (by omega) (HROW.out D HRT.out).1 (HROW.out D HRT.out).2.1
                have HCL := Lib.hid hcall
                clear hcall S3
                go_wp2_with fail
                refine HCL.out.mono ?_
                rintro e w4 ⟨rfl, D1, S4, hp1, hs1⟩
                have S4 : Aside _ := S4
                have hDz1 : D1.size = N := hp1.1.trans hDz
                have HP1 := Lib.hid hp1
                have HS1 := Lib.hid hs1
                clear hp1 hs1 HCL
                have hcall := HIH.out M t b D1 w4 (by omega) hDz1 S4.out (by omega) (by omega) (by omega) (sorted_keep (HROW.out D HRT.out).2.2.1 (fun i h1 h2 => HP1.out.2.1 i (.inr h1))) (sorted_keep (HROW.out D HRT.out).2.2.2.1 (fun i h1 h2 => HP1.out.2.1 i (.inr (by omega))))
                have HCL := Lib.hid hcall
                clear hcall S4
                go_wp2_with fail
                refine HCL.out.mono ?_
                rintro e w5 ⟨rfl, D2, S5, hp2, hs2⟩
                have S5 : Aside _ := S5
                have HP2 := Lib.hid hp2
                have HS2 := Lib.hid hs2
                clear hp2 hs2 HCL
                go_wp2_with fail
                all_goals go_end0
                all_goals exact ⟨rfl, D2, S5.out, HEND.out D D1 D2 HRT.out HP1.out HS1.out HP2.out HS2.out⟩
              · skip
                have z_1 : (s : Int) < (m : Int) := by omega
                have z_2 : (m : Int) < (t : Int) := by omega
                have z_3 : (a : Int) < (s : Int) := by omega
                have z_4 : (s : Int) < (M : Int) := by omega
                have z_5 : (M : Int) < (t : Int) := by omega
                have z_6 : ¬ (t : Int) < (b : Int) := by omega
                have hcall := rot_any g cap s m t N d0 d w0 wr kz zE R (by omega) hN S1.out (by omega) (by omega) (by omega) h4
                have HCL := Lib.hid hcall
                clear hcall S1
                go_wp2_with fail
                refine HCL.out.mono ?_
                rintro e w3 ⟨rfl, D, S3, hrot⟩
                have S3 : Aside _ := S3
                have hDz : D.size = N := hrot.1.1.trans hN
                have HRT := Lib.hid hrot
                clear hrot HCL
                have hcall := HIH.out a s M D w3 (by omega) hDz S3.out (by omega) (by omega) (by omega) (HROW.out D HRT.out).1 (HROW.out D HRT.out).2.1
                have HCL := Lib.hid hcall
                clear hcall S3
                go_wp2_with fail
                refine HCL.out.mono ?_
                rintro e w4 ⟨rfl, D1, S4, hp1, hs1⟩
                have S4 : Aside _ := S4
                have hDz1 : D1.size = N := hp1.1.trans hDz
                have HP1 := Lib.hid hp1
                have HS1 := Lib.hid hs1
                clear hp1 hs1 HCL
                obtain ⟨D2, hD2⟩ : ∃ D2, D2 = D1 := ⟨_, rfl⟩
                have S5 : Aside (SK kz w0 g D2 w4) := by rw [hD2]; exact S4
                have HP2 := Lib.hid (show PermIn M b D1 D2 by rw [hD2]; exact permIn_refl _ _ _)
                have HS2 := Lib.hid (show SortedIn (ltOf cfo) M b D2 by rw [hD2]; exact sorted_keep (HRGT.out D HRT.out (by omega)) (fun i h1 h2 => HP1.out.2.1 i (.inr h1)))
                clear S4 hD2
                go_wp2_with fail
                all_goals go_end0
                all_goals exact ⟨rfl, D2, S5.out, HEND.out D D1 D2 HRT.out HP1.out HS1.out HP2.out HS2.out⟩
            · skip
              by_cases g_v : t < b
              · skip
                have z_1 : (s : Int) < (m : Int) := by omega
                have z_2 : (m : Int) < (t : Int) := by omega
                have z_3 : ¬ (a : Int) < (s : Int) := by omega
                have z_4 : (s : Int) < (M : Int) := by omega
                have z_5 : (M : Int) < (t : Int) := by omega
                have z_6 : (t : Int) < (b : Int) := by omega
                have hcall := rot_any g cap s m t N d0 d w0 wr kz zE R (by omega) hN S1.out (by omega) (by omega) (by omega) h4
                have HCL := Lib.hid hcall
                clear hcall S1
                go_wp2_with fail
                refine HCL.out.mono ?_
                rintro e w3 ⟨rfl, D, S3, hrot⟩
                have S3 : Aside _ := S3
                have hDz : D.size = N := hrot.1.1.trans hN
                have HRT := Lib.hid hrot
                clear hrot HCL
                obtain ⟨D1, hD1⟩ : ∃ D1, D1 = D := ⟨_, rfl⟩
                have hDz1 : D1.size = N := by rw [hD1]; exact hDz
                have S4 : Aside (SK kz w0 g D1 w3) := by rw [hD1]; exact S3
                have HP1 := Lib.hid (show PermIn a M D D1 by rw [hD1]; exact permIn_refl _ _ _)
                have HS1 := Lib.hid (show SortedIn (ltOf cfo) a M D1 by rw [hD1]; exact HLFT.out D HRT.out (by omega))
                clear S3 hD1
                have hcall := HIH.out M t b D1 w3 (by omega) hDz1 S4.out (by omega) (by omega) (by omega) (sorted_keep (HROW.out D HRT.out).2.2.1 (fun i h1 h2 => HP1.out.2.1 i (.inr h1))) (sorted_keep (HROW.out D HRT.out).2.2.2.1 (fun i h1 h2 => HP1.out.2.1 i (.inr (by omega))))
                have HCL := Lib.hid hcall
                clear hcall S4
                go_wp2_with fail
                refine HCL.out.mono ?_
                rintro e w5 ⟨rfl, D2, S5, hp2, hs2⟩
                have S5 : Aside _ := S5
                have HP2 := Lib.hid hp2
                have HS2 := Lib.hid hs2
                clear hp2 hs2 HCL
                go_wp2_with fail
                all_goals go_end0
                all_goals exact ⟨rfl, D2, S5.out, HEND.out D D1 D2 HRT.out HP1.out HS1.out HP2.out HS2.out⟩
              · skip
                have z_1 : (s : Int) < (m : Int) := by omega
                have z_2 : (m : Int) < (t : Int) := by omega
                have z_3 : ¬ (a : Int) < (s : Int) := by omega
                have z_4 : (s : Int) < (M : Int) := by omega
                have z_5 : (M : Int) < (t : Int) := by omega
                have z_6 : ¬ (t : Int) < (b : Int) := by omega
                have hcall := rot_any g cap s m t N d0 d w0 wr kz zE R (by omega) hN S1.out (by omega) (by omega) (by omega) h4
                have HCL := Lib.hid hcall
                clear hcall S1
                go_wp2_with fail
                refine HCL.out.mono ?_
                rintro e w3 ⟨rfl, D, S3, hrot⟩
                have S3 : Aside _ := S3
                have hDz : D.size = N := hrot.1.1.trans hN
                have HRT := Lib.hid hrot
                clear hrot HCL
                obtain ⟨D1, hD1⟩ : ∃ D1, D1 = D := ⟨_, rfl⟩
                have hDz1 : D1.size = N := by rw [hD1]; exact hDz
                have S4 : Aside (SK kz w0 g D1 w3) := by rw [hD1]; exact S3
                have HP1 := Lib.hid (show PermIn a M D D1 by rw [hD1]; exact permIn_refl _ _ _)
                have HS1 := Lib.hid (show SortedIn (ltOf cfo) a M D1 by rw [hD1]; exact HLFT.out D HRT.out (by omega))
                clear S3 hD1
                obtain ⟨D2, hD2⟩ : ∃ D2, D2 = D1 := ⟨_, rfl⟩
                have S5 : Aside (SK kz w0 g D2 w3) := by rw [hD2]; exact S4
                have HP2 := Lib.hid (show PermIn M b D1 D2 by rw [hD2]; exact permIn_refl _ _ _)
                have HS2 := Lib.hid (show SortedIn (ltOf cfo) M b D2 by rw [hD2]; exact sorted_keep (HRGT.out D HRT.out (by omega)) (fun i h1 h2 => HP1.out.2.1 i (.inr h1)))
                clear S4 hD2
                go_wp2_with fail
                all_goals go_end0
                all_goals exact ⟨rfl, D2, S5.out, HEND.out D D1 D2 HRT.out HP1.out HS1.out HP2.out HS2.out⟩
          · skip
            by_cases g_u : a < s
            · skip
              by_cases g_v : t < b
              · skip
                have z_1 : (s : Int) < (m : Int) := by omega
                have z_2 : ¬ (m : Int) < (t : Int) := by omega
                have z_3 : (a : Int) < (s : Int) := by omega
                have z_4 : ¬ (s : Int) < (M : Int) := by omega
                have z_5 : (M : Int) < (t : Int) := by omega
                have z_6 : (t : Int) < (b : Int) := by omega
                obtain ⟨D, hD⟩ : ∃ D, D = d := ⟨_, rfl⟩
                have HRT := Lib.hid (show Rot d s m t D by rw [hD]; exact rot_none d s m t (by omega))
                have hDz : D.size = N := by rw [hD]; exact hN
                have S3 : Aside (SK kz w0 g D wr) := by rw [hD]; exact S1
                clear S1 hD
                obtain ⟨D1, hD1⟩ : ∃ D1, D1 = D := ⟨_, rfl⟩
                have hDz1 : D1.size = N := by rw [hD1]; exact hDz
                have S4 : Aside (SK kz w0 g D1 wr) := by rw [hD1]; exact S3
                have HP1 := Lib.hid (show PermIn a M D D1 by rw [hD1]; exact permIn_refl _ _ _)
                have HS1 := Lib.hid (show SortedIn (ltOf cfo) a M D1 by rw [hD1]; exact HLFT.out D HRT.out (by omega))
                clear S3 hD1
                have hcall := HIH.out M t b D1 wr (by omega) hDz1 S4.out (by omega) (by omega) (by omega) (sorted_keep (HROW.out D HRT.out).2.2.1 (fun i h1 h2 => HP1.out.2.1 i (.inr h1))) (sorted_keep (HROW.out D HRT.out).2.2.2.1 (fun i h1 h2 => HP1.out.2.1 i (.inr (by omega))))
                have HCL := Lib.hid hcall
                clear hcall S4
                go_wp2_with fail
                refine HCL.out.mono ?_
                rintro e w5 ⟨rfl, D2, S5, hp2, hs2⟩
                have S5 : Aside _ := S5
                have HP2 := Lib.hid hp2
                have HS2 := Lib.hid hs2
                clear hp2 hs2 HCL
                go_wp2_with fail
                all_goals go_end0
                all_goals exact ⟨rfl, D2, S5.out, HEND.out D D1 D2 HRT.out HP1.out HS1.out HP2.out HS2.out⟩
              · skip
                have z_1 : (s : Int) < (m : Int) := by omega
                have z_2 : ¬ (m : Int) < (t : Int) := by omega
                have z_3 : (a : Int) < (s : Int) := by omega
                have z_4 : ¬ (s : Int) < (M : Int) := by omega
                have z_5 : (M : Int) < (t : Int) := by omega
                have z_6 : ¬ (t : Int) < (b : Int) := by omega
                obtain ⟨D, hD⟩ : ∃ D, D = d := ⟨_, rfl⟩
                have HRT := Lib.hid (show Rot d s m t D by rw [hD]; exact rot_none d s m t (by omega))
                have hDz : D.size = N := by rw [hD]; exact hN
                have S3 : Aside (SK kz w0 g D wr) := by rw [hD]; exact S1
                clear S1 hD
                obtain ⟨D1, hD1⟩ : ∃ D1, D1 = D := ⟨_, rfl⟩
                have hDz1 : D1.size = N := by rw [hD1]; exact hDz
                have S4 : Aside (SK kz w0 g D1 wr) := by rw [hD1]; exact S3
                have HP1 := Lib.hid (show PermIn a M D D1 by rw [hD1]; exact permIn_refl _ _ _)
                have HS1 := Lib.hid (show SortedIn (ltOf cfo) a M D1 by rw [hD1]; exact HLFT.out D HRT.out (by omega))
                clear S3 hD1
                obtain ⟨D2, hD2⟩ : ∃ D2, D2 = D1 := ⟨_, rfl⟩
                have S5 : Aside (SK kz w0 g D2 wr) := by rw [hD2]; exact S4
                have HP2 := Lib.hid (show PermIn M b D1 D2 by rw [hD2]; exact permIn_refl _ _ _)
                have HS2 := Lib.hid (show SortedIn (ltOf cfo) M b D2 by rw [hD2]; exact sorted_keep (HRGT.out D HRT.out (by omega)) (fun i h1 h2 => HP1.out.2.1 i (.inr h1)))
                clear S4 hD2
                go_wp2_with fail
                all_goals go_end0
                all_goals exact ⟨rfl, D2, S5.out, HEND.out D D1 D2 HRT.out HP1.out HS1.out HP2.out HS2.out⟩
            · skip
              by_cases g_v : t < b
              · skip
                have z_1 : (s : Int) < (m : Int) := by omega
                have z_2 : ¬ (m : Int) < (t : Int) := by omega
                have z_3 : ¬ (a : Int) < (s : Int) := by omega
                have z_4 : ¬ (s : Int) < (M : Int) := by omega
                have z_5 : (M : Int) < (t : Int) := by omega
                have z_6 : (t : Int) < (b : Int) := by omega
                obtain ⟨D, hD⟩ : ∃ D, D = d := ⟨_, rfl⟩
                have HRT := Lib.hid (show Rot d s m t D by rw [hD]; exact rot_none d s m t (by omega))
                have hDz : D.size = N := by rw [hD]; exact hN
                have S3 : Aside (SK kz w0 g D wr) := by rw [hD]; exact S1
                clear S1 hD
                obtain ⟨D1, hD1⟩ : ∃ D1, D1 = D := ⟨_, rfl⟩
                have hDz1 : D1.size = N := by rw [hD1]; exact hDz
                have S4 : Aside (SK kz w0 g D1 wr) := by rw [hD1]; exact S3
                have HP1 := Lib.hid (show PermIn a M D D1 by rw [hD1]; exact permIn_refl _ _ _)
                have HS1 := Lib.hid (show SortedIn (ltOf cfo) a M D1 by rw [hD1]; exact HLFT.out D HRT.out (by omega))
                clear S3 hD1
                have hcall := HIH.out M t b D1 wr (by omega) hDz1 S4.out (by omega) (by omega) (by omega) (sorted_keep (HROW.out D HRT.out).2.2.1 (fun i h1 h2 => HP1.out.2.1 i (.inr h1))) (sorted_keep (HROW.out D HRT.out).2.2.2.1 (fun i h1 h2 => HP1.out.2.1 i (.inr (by omega))))
                have HCL := Lib.hid hcall
                clear hcall S4
                go_wp2_with fail
                refine HCL.out.mono ?_
                rintro e w5 ⟨rfl, D2, S5, hp2, hs2⟩
                have S5 : Aside _ := S5
                have HP2 := Lib.hid hp2
                have HS2 := Lib.hid hs2
                clear hp2 hs2 HCL
                go_wp2_with fail
                all_goals go_end0
                all_goals exact ⟨rfl, D2, S5.out, HEND.out D D1 D2 HRT.out HP1.out HS1.out HP2.out HS2.out⟩
              · skip
                have z_1 : (s : Int) < (m : Int) := by omega
                have z_2 : ¬ (m : Int) < (t : Int) := by omega
                have z_3 : ¬ (a : Int) < (s : Int) := by omega
                have z_4 : ¬ (s : Int) < (M : Int) := by omega
                have z_5 : (M : Int) < (t : Int) := by omega
                have z_6 : ¬ (t : Int) < (b : Int) := by omega
                obtain ⟨D, hD⟩ : ∃ D, D = d := ⟨_, rfl⟩
                have HRT := Lib.hid (show Rot d s m t D by rw [hD]; exact rot_none d s m t (by omega))
                have hDz : D.size = N := by rw [hD]; exact hN
                have S3 : Aside (SK kz w0 g D wr) := by rw [hD]; exact S1
                clear S1 hD
                obtain ⟨D1, hD1⟩ : ∃ D1, D1 = D := ⟨_, rfl⟩
                have hDz1 : D1.size = N := by rw [hD1]; exact hDz
                have S4 : Aside (SK kz w0 g D1 wr) := by rw [hD1]; exact S3
                have HP1 := Lib.hid (show PermIn a M D D1 by rw [hD1]; exact permIn_refl _ _ _)
                have HS1 := Lib.hid (show SortedIn (ltOf cfo) a M D1 by rw [hD1]; exact HLFT.out D HRT.out (by omega))
                clear S3 hD1
                obtain ⟨D2, hD2⟩ : ∃ D2, D2 = D1 := ⟨_, rfl⟩
                have S5 : Aside (SK kz w0 g D2 wr) := by rw [hD2]; exact S4
                have HP2 := Lib.hid (show PermIn M b D1 D2 by rw [hD2]; exact permIn_refl _ _ _)
                have HS2 := Lib.hid (show SortedIn (ltOf cfo) M b D2 by rw [hD2]; exact sorted_keep (HRGT.out D HRT.out (by omega)) (fun i h1 h2 => HP1.out.2.1 i (.inr h1)))
                clear S4 hD2
                go_wp2_with fail
                all_goals go_end0
                all_goals exact ⟨rfl, D2, S5.out, HEND.out D D1 D2 HRT.out HP1.out HS1.out HP2.out HS2.out⟩
        · skip
          by_cases g_y : m < t
          · skip
            by_cases g_u : a < s
            · skip
              by_cases g_v : t < b
              · skip
                have z_1 : ¬ (s : Int) < (m : Int) := by omega
                have z_2 : (m : Int) < (t : Int) := by omega
                have z_3 : (a : Int) < (s : Int) := by omega
                have z_4 : (s : Int) < (M : Int) := by omega
                have z_5 : ¬ (M : Int) < (t : Int) := by omega
                have z_6 : (t : Int) < (b : Int) := by omega
                obtain ⟨D, hD⟩ : ∃ D, D = d := ⟨_, rfl⟩
                have HRT := Lib.hid (show Rot d s m t D by rw [hD]; exact rot_none d s m t (by omega))
                have hDz : D.size = N := by rw [hD]; exact hN
                have S3 : Aside (SK kz w0 g D wr) := by rw [hD]; exact S1
                clear S1 hD
                have hcall := HIH.out a s M D wr (by omega) hDz S3.out (by omega) (by omega) (by omega) (HROW.out D HRT.out).1 (HROW.out D HRT.out).2.1
                have HCL := Lib.hid hcall
                clear hcall S3
                go_wp2_with fail
                refine HCL.out.mono ?_
                rintro e w4 ⟨rfl, D1, S4, hp1, hs1⟩
                have S4 : Aside _ := S4
                have hDz1 : D1.size = N := hp1.1.trans hDz
                have HP1 := Lib.hid hp1
                have HS1 := Lib.hid hs1
                clear hp1 hs1 HCL
                obtain ⟨D2, hD2⟩ : ∃ D2, D2 = D1 := ⟨_, rfl⟩
                have S5 : Aside (SK kz w0 g D2 w4) := by rw [hD2]; exact S4
                have HP2 := Lib.hid (show PermIn M b D1 D2 by rw [hD2]; exact permIn_refl _ _ _)
                have HS2 := Lib.hid (show SortedIn (ltOf cfo) M b D2 by rw [hD2]; exact sorted_keep (HRGT.out D HRT.out (by omega)) (fun i h1 h2 => HP1.out.2.1 i (.inr h1)))
                clear S4 hD2
                go_wp2_with fail
                all_goals go_end0
                all_goals exact ⟨rfl, D2, S5.out, HEND.out D D1 D2 HRT.out HP1.out HS1.out HP2.out HS2.out⟩
              · skip
                have z_1 : ¬ (s : Int) < (m : Int) := by omega
                have z_2 : (m : Int) < (t : Int) := by omega
                have z_3 : (a : Int) < (s : Int) := by omega
                have z_4 : (s : Int) < (M : Int) := by omega
                have z_5 : ¬ (M : Int) < (t : Int) := by omega
                have z_6 : ¬ (t : Int) < (b : Int) := by omega
                obtain ⟨D, hD⟩ : ∃ D, D = d := ⟨_, rfl⟩
                have HRT := Lib.hid (show Rot d s m t D by rw [hD]; exact rot_none d s m t (by omega))
                have hDz : D.size = N := by rw [hD]; exact hN
                have S3 : Aside (SK kz w0 g D wr) := by rw [hD]; exact S1
                clear S1 hD
                have hcall := HIH.out a s M D wr (by omega) hDz S3.out (by omega) (by omega) (by omega) (HROW.out D HRT.out).1 (HROW.out D HRT.out).2.1
                have HCL := Lib.hid hcall
                clear hcall S3
                go_wp2_with fail
                refine HCL.out.mono ?_
                rintro e w4 ⟨rfl, D1, S4, hp1, hs1⟩
                have S4 : Aside _ := S4
                have hDz1 : D1.size = N := hp1.1.trans hDz
                have HP1 := Lib.hid hp1
                have HS1 := Lib.hid hs1
                clear hp1 hs1 HCL
                obtain ⟨D2, hD2⟩ : ∃ D2, D2 = D1 := ⟨_, rfl⟩
                have S5 : Aside (SK kz w0 g D2 w4) := by rw [hD2]; exact S4
                have HP2 := Lib.hid (show PermIn M b D1 D2 by rw [hD2]; exact permIn_refl _ _ _)
                have HS2 := Lib.hid (show SortedIn (ltOf cfo) M b D2 by rw [hD2]; exact sorted_keep (HRGT.out D HRT.out (by omega)) (fun i h1 h2 => HP1.out.2.1 i (.inr h1)))
                clear S4 hD2
                go_wp2_with fail
                all_goals go_end0
                all_goals exact ⟨rfl, D2, S5.out, HEND.out D D1 D2 HRT.out HP1.out HS1.out HP2.out HS2.out⟩
            · skip
              by_cases g_v : t < b
              · skip
                have z_1 : ¬ (s : Int) < (m : Int) := by omega
                have z_2 : (m : Int) < (t : Int) := by omega
                have z_3 : ¬ (a : Int) < (s : Int) := by omega
                have z_4 : (s : Int) < (M : Int) := by omega
                have z_5 : ¬ (M : Int) < (t : Int) := by omega
                have z_6 : (t : Int) < (b : Int) := by omega
                obtain ⟨D, hD⟩ : ∃ D, D = d := ⟨_, rfl⟩
                have HRT := Lib.hid (show Rot d s m t D by rw [hD]; exact rot_none d s m t (by omega))
                have hDz : D.size = N := by rw [hD]; exact hN
                have S3 : Aside (SK kz w0 g D wr) := by rw [hD]; exact S1
                clear S1 hD
                obtain ⟨D1, hD1⟩ : ∃ D1, D1 = D := ⟨_, rfl⟩
                have hDz1 : D1.size = N := by rw [hD1]; exact hDz
                have S4 : Aside (SK kz w0 g D1 wr) := by rw [hD1]; exact S3
                have HP1 := Lib.hid (show PermIn a M D D1 by rw [hD1]; exact permIn_refl _ _ _)
                have HS1 := Lib.hid (show SortedIn (ltOf cfo) a M D1 by rw [hD1]; exact HLFT.out D HRT.out (by omega))
                clear S3 hD1
                obtain ⟨D2, hD2⟩ : ∃ D2, D2 = D1 := ⟨_, rfl⟩
                have S5 : Aside (SK kz w0 g D2 wr) := by rw [hD2]; exact S4
                have HP2 := Lib.hid (show PermIn M b D1 D2 by rw [hD2]; exact permIn_refl _ _ _)
                have HS2 := Lib.hid (show SortedIn (ltOf cfo) M b D2 by rw [hD2]; exact sorted_keep (HRGT.out D HRT.out (by omega)) (fun i h1 h2 => HP1.out.2.1 i (.inr h1)))
                clear S4 hD2
                go_wp2_with fail
                all_goals go_end0
                all_goals exact ⟨rfl, D2, S5.out, HEND.out D D1 D2 HRT.out HP1.out HS1.out HP2.out HS2.out⟩
              · skip
                have z_1 : ¬ (s : Int) < (m : Int) := by omega
                have z_2 : (m : Int) < (t : Int) := by omega
                have z_3 : ¬ (a : Int) < (s : Int) := by omega
                have z_4 : (s : Int) < (M : Int) := by omega
                have z_5 : ¬ (M : Int) < (t : Int) := by omega
                have z_6 : ¬ (t : Int) < (b : Int) := by omega
                obtain ⟨D, hD⟩ : ∃ D, D = d := ⟨_, rfl⟩
                have HRT := Lib.hid (show Rot d s m t D by rw [hD]; exact rot_none d s m t (by omega))
                have hDz : D.size = N := by rw [hD]; exact hN
                have S3 : Aside (SK kz w0 g D wr) := by rw [hD]; exact S1
                clear S1 hD
                obtain ⟨D1, hD1⟩ : ∃ D1, D1 = D := ⟨_, rfl⟩
                have hDz1 : D1.size = N := by rw [hD1]; exact hDz
                have S4 : Aside (SK kz w0 g D1 wr) := by rw [hD1]; exact S3
                have HP1 := Lib.hid (show PermIn a M D D1 by rw [hD1]; exact permIn_refl _ _ _)
                have HS1 := Lib.hid (show SortedIn (ltOf cfo) a M D1 by rw [hD1]; exact HLFT.out D HRT.out (by omega))
                clear S3 hD1
                obtain ⟨D2, hD2⟩ : ∃ D2, D2 = D1 := ⟨_, rfl⟩
                have S5 : Aside (SK kz w0 g D2 wr) := by rw [hD2]; exact S4
                have HP2 := Lib.hid (show PermIn M b D1 D2 by rw [hD2]; exact permIn_refl _ _ _)
                have HS2 := Lib.hid (show SortedIn (ltOf cfo) M b D2 by rw [hD2]; exact sorted_keep (HRGT.out D HRT.out (by omega)) (fun i h1 h2 => HP1.out.2.1 i (.inr h1)))
                clear S4 hD2
                go_wp2_with fail
                all_goals go_end0
                all_goals exact ⟨rfl, D2, S5.out, HEND.out D D1 D2 HRT.out HP1.out HS1.out HP2.out HS2.out⟩
          · skip
            by_cases g_u : a < s
            · skip
              by_cases g_v : t < b
              · skip
                have z_1 : ¬ (s : Int) < (m : Int) := by omega
                have z_2 : ¬ (m : Int) < (t : Int) := by omega
                have z_3 : (a : Int) < (s : Int) := by omega
                have z_4 : ¬ (s : Int) < (M : Int) := by omega
                have z_5 : ¬ (M : Int) < (t : Int) := by omega
                have z_6 : (t : Int) < (b : Int) := by omega
                obtain ⟨D, hD⟩ : ∃ D, D = d := ⟨_, rfl⟩
                have HRT := Lib.hid (show Rot d s m t D by rw [hD]; exact rot_none d s m t (by omega))
                have hDz : D.size = N := by rw [hD]; exact hN
                have S3 : Aside (SK kz w0 g D wr) := by rw [hD]; exact S1
                clear S1 hD
                obtain ⟨D1, hD1⟩ : ∃ D1, D1 = D := ⟨_, rfl⟩
                have hDz1 : D1.size = N := by rw [hD1]; exact hDz
                have S4 : Aside (SK kz w0 g D1 wr) := by rw [hD1]; exact S3
                have HP1 := Lib.hid (show PermIn a M D D1 by rw [hD1]; exact permIn_refl _ _ _)
                have HS1 := Lib.hid (show SortedIn (ltOf cfo) a M D1 by rw [hD1]; exact HLFT.out D HRT.out (by omega))
                clear S3 hD1
                obtain ⟨D2, hD2⟩ : ∃ D2, D2 = D1 := ⟨_, rfl⟩
                have S5 : Aside (SK kz w0 g D2 wr) := by rw [hD2]; exact S4
                have HP2 := Lib.hid (show PermIn M b D1 D2 by rw [hD2]; exact permIn_refl _ _ _)
                have HS2 := Lib.hid (show SortedIn (ltOf cfo) M b D2 by rw [hD2]; exact sorted_keep (HRGT.out D HRT.out (by omega)) (fun i h1 h2 => HP1.out.2.1 i (.inr h1)))
                clear S4 hD2
                go_wp2_with fail
                all_goals go_end0
                all_goals exact ⟨rfl, D2, S5.out, HEND.out D D1 D2 HRT.out HP1.out HS1.out HP2.out HS2.out⟩
              · skip
                have z_1 : ¬ (s : Int) < (m : Int) := by omega
                have z_2 : ¬ (m : Int) < (t : Int) := by omega
                have z_3 : (a : Int) < (s : Int) := by omega
                have z_4 : ¬ (s : Int) < (M : Int) := by omega
                have z_5 : ¬ (M : Int) < (t : Int) := by omega
                have z_6 : ¬ (t : Int) < (b : Int) := by omega
                obtain ⟨D, hD⟩ : ∃ D, D = d := ⟨_, rfl⟩
                have HRT := Lib.hid (show Rot d s m t D by rw [hD]; exact rot_none d s m t (by omega))
                have hDz : D.size = N := by rw [hD]; exact hN
                have S3 : Aside (SK kz w0 g D wr) := by rw [hD]; exact S1
                clear S1 hD
                obtain ⟨D1, hD1⟩ : ∃ D1, D1 = D := ⟨_, rfl⟩
                have hDz1 : D1.size = N := by rw [hD1]; exact hDz
                have S4 : Aside (SK kz w0 g D1 wr) := by rw [hD1]; exact S3
                have HP1 := Lib.hid (show PermIn a M D D1 by rw [hD1]; exact permIn_refl _ _ _)
                have HS1 := Lib.hid (show SortedIn (ltOf cfo) a M D1 by rw [hD1]; exact HLFT.out D HRT.out (by omega))
                clear S3 hD1
                obtain ⟨D2, hD2⟩ : ∃ D2, D2 = D1 := ⟨_, rfl⟩
                have S5 : Aside (SK kz w0 g D2 wr) := by rw [hD2]; exact S4
                have HP2 := Lib.hid (show PermIn M b D1 D2 by rw [hD2]; exact permIn_refl _ _ _)
                have HS2 := Lib.hid (show SortedIn (ltOf cfo) M b D2 by rw [hD2]; exact sorted_keep (HRGT.out D HRT.out (by omega)) (fun i h1 h2 => HP1.out.2.1 i (.inr h1)))
                clear S4 hD2
                go_wp2_with fail
                all_goals go_end0
                all_goals exact ⟨rfl, D2, S5.out, HEND.out D D1 D2 HRT.out HP1.out HS1.out HP2.out HS2.out⟩
            · skip
              by_cases g_v : t < b
              · skip
                have z_1 : ¬ (s : Int) < (m : Int) := by omega
                have z_2 : ¬ (m : Int) < (t : Int) := by omega
                have z_3 : ¬ (a : Int) < (s : Int) := by omega
                have z_4 : ¬ (s : Int) < (M : Int) := by omega
                have z_5 : ¬ (M : Int) < (t : Int) := by omega
                have z_6 : (t : Int) < (b : Int) := by omega
                obtain ⟨D, hD⟩ : ∃ D, D = d := ⟨_, rfl⟩
                have HRT := Lib.hid (show Rot d s m t D by rw [hD]; exact rot_none d s m t (by omega))
                have hDz : D.size = N := by rw [hD]; exact hN
                have S3 : Aside (SK kz w0 g D wr) := by rw [hD]; exact S1
                clear S1 hD
                obtain ⟨D1, hD1⟩ : ∃ D1, D1 = D := ⟨_, rfl⟩
                have hDz1 : D1.size = N := by rw [hD1]; exact hDz
                have S4 : Aside (SK kz w0 g D1 wr) := by rw [hD1]; exact S3
                have HP1 := Lib.hid (show PermIn a M D D1 by rw [hD1]; exact permIn_refl _ _ _)
                have HS1 := Lib.hid (show SortedIn (ltOf cfo) a M D1 by rw [hD1]; exact HLFT.out D HRT.out (by omega))
                clear S3 hD1
                obtain ⟨D2, hD2⟩ : ∃ D2, D2 = D1 := ⟨_, rfl⟩
                have S5 : Aside (SK kz w0 g D2 wr) := by rw [hD2]; exact S4
                have HP2 := Lib.hid (show PermIn M b D1 D2 by rw [hD2]; exact permIn_refl _ _ _)
                have HS2 := Lib.hid (show SortedIn (ltOf cfo) M b D2 by rw [hD2]; exact sorted_keep (HRGT.out D HRT.out (by omega)) (fun i h1 h2 => HP1.out.2.1 i (.inr h1)))
                clear S4 hD2
                go_wp2_with fail
                all_goals go_end0
                all_goals exact ⟨rfl, D2, S5.out, HEND.out D D1 D2 HRT.out HP1.out HS1.out HP2.out HS2.out⟩
              · skip
                have z_1 : ¬ (s : Int) < (m : Int) := by omega
                have z_2 : ¬ (m : Int) < (t : Int) := by omega
                have z_3 : ¬ (a : Int) < (s : Int) := by omega
                have z_4 : ¬ (s : Int) < (M : Int) := by omega
                have z_5 : ¬ (M : Int) < (t : Int) := by omega
                have z_6 : ¬ (t : Int) < (b : Int) := by omega
                obtain ⟨D, hD⟩ : ∃ D, D = d := ⟨_, rfl⟩
                have HRT := Lib.hid (show Rot d s m t D by rw [hD]; exact rot_none d s m t (by omega))
                have hDz : D.size = N := by rw [hD]; exact hN
                have S3 : Aside (SK kz w0 g D wr) := by rw [hD]; exact S1
                clear S1 hD
                obtain ⟨D1, hD1⟩ : ∃ D1, D1 = D := ⟨_, rfl⟩
                have hDz1 : D1.size = N := by rw [hD1]; exact hDz
                have S4 : Aside (SK kz w0 g D1 wr) := by rw [hD1]; exact S3
                have HP1 := Lib.hid (show PermIn a M D D1 by rw [hD1]; exact permIn_refl _ _ _)
                have HS1 := Lib.hid (show SortedIn (ltOf cfo) a M D1 by rw [hD1]; exact HLFT.out D HRT.out (by omega))
                clear S3 hD1
                obtain ⟨D2, hD2⟩ : ∃ D2, D2 = D1 := ⟨_, rfl⟩
                have S5 : Aside (SK kz w0 g D2 wr) := by rw [hD2]; exact S4
                have HP2 := Lib.hid (show PermIn M b D1 D2 by rw [hD2]; exact permIn_refl _ _ _)
                have HS2 := Lib.hid (show SortedIn (ltOf cfo) M b D2 by rw [hD2]; exact sorted_keep (HRGT.out D HRT.out (by omega)) (fun i h1 h2 => HP1.out.2.1 i (.inr h1)))
                clear S4 hD2
                go_wp2_with fail
                all_goals go_end0
                all_goals exact ⟨rfl, D2, S5.out, HEND.out D D1 D2 HRT.out HP1.out HS1.out HP2.out HS2.out⟩
theorem sym_any (g cap N : Nat) (d0 : Array Po) (w0 : World) (kz : Nat) (zE : ∀ w, (Go.sizeOf 27).run Tryd.prog w = .ok kz w) (R : RowK ocl kz w0 g 0 d0) (hcmp : CmpLays Tryd.prog 47 #[] ocl kz cfo g 0 d0.size w0) (hs : d0.size = N) (h4 : N ≤ 1000000) : ∀ (n a m b : Nat) (d : Array Po) (w : World), b - a ≤ n → d.size = N → SK kz w0 g d w → a < m → m < b → b ≤ N → SortedIn (ltOf cfo) a m d → SortedIn (ltOf cfo) m b d → Calls Tryd.prog 63 #[.slice (some ⟨g, 0, none⟩) N cap, .int .i64 (a : Int), .int .i64 (m : Int), .int .i64 (b : Int), .func (.func 47) #[] #[]] w fun e w' => e = .returned (.tuple #[]) ∧ ∃ D, SK kz w0 g D w' ∧ PermIn a b d D ∧ SortedIn (ltOf cfo) a b D := by
  intro n
  induction n with
  | zero => intro a m b d w h0 _ _ h1 h2 _ _ _; omega
  | succ n ih =>
    intro a m b d w h0 hN S h1 h2 h3 hL hR
    by_cases e1 : m = a + 1
    · exact sym_one g cap N d0 w0 kz zE R hcmp hs h4 a m b d w hN S h1 h2 h3 hL hR e1
    · by_cases e2 : b = m + 1
      · exact sym_last g cap N d0 w0 kz zE R hcmp hs h4 a m b d w hN S h1 h2 h3 hL hR e2 (by omega)
      · exact sym_gen g cap N d0 w0 kz zE R hcmp hs h4 a m b d w hN S h1 h2 h3 hL hR (by omega) (by omega) (fun a' m' b' d' w' h => ih a' m' b' d' w' (by omega))
end Go.Proofs.YtabjihchcmjdmaaDoor
/-
  slices.stableCmpFunc, SortStableFunc and SortedStableFunc at packets: a permutation, sorted by place. By an AI agent.
-/
namespace Go.Proofs.YtabjihchcmjdmaaDoor
open Go.RowKit Go.Shelf Go.Sort Go.Lib

/-- every row of bs from lo on is sorted, up to hi -/
def Blk (bs lo hi : Nat) (d : Array Po) : Prop := ∀ c, lo ≤ c * bs → SortedIn (ltOf cfo) (c * bs) (min (c * bs + bs) hi) d
theorem blk_ext {bs q a b : Nat} {d D : Array Po} (ha : a = q * bs) (_hab : a ≤ b) (hb : b ≤ a + bs) (h : Blk bs 0 a d) (hp : PermIn a b d D) (hs : SortedIn (ltOf cfo) a b D) : Blk bs 0 b D := by
  intro c _
  rcases Nat.lt_trichotomy c q with e | e | e
  · have e1 : (c + 1) * bs ≤ q * bs := Nat.mul_le_mul_right bs e
    rw [Nat.succ_mul, ← ha] at e1
    have := h c (Nat.zero_le _)
    rw [Nat.min_eq_left (by omega)] at this ⊢
    exact sorted_keep this (fun i h1 h2 => hp.2.1 i (.inl (by omega)))
  · subst e
    rw [← ha]
    intro i j h1 h2 h3
    exact hs i j h1 h2 (by omega)
  · have e1 : (q + 1) * bs ≤ c * bs := Nat.mul_le_mul_right bs e
    rw [Nat.succ_mul, ← ha] at e1
    intro i j h1 h2 h3
    omega
theorem blk_from {bs a b n : Nat} {d D : Array Po} (h : Blk bs a n d) (hab : a ≤ b) (hp : PermIn a b d D) : Blk bs b n D := by
  intro c hc
  exact sorted_keep (h c (by omega)) (fun i h1 h2 => hp.2.1 i (.inr (by omega)))
theorem blk_two {bs q a n : Nat} {d : Array Po} (ha : a = q * (2 * bs)) (h : Blk bs a n d) : SortedIn (ltOf cfo) a (min (a + bs) n) d ∧ SortedIn (ltOf cfo) (a + bs) (min (a + bs + bs) n) d := by
  have e1 : 2 * q * bs = a := by rw [ha, Nat.mul_comm 2 q, Nat.mul_assoc]
  have e2 : (2 * q + 1) * bs = a + bs := by rw [Nat.succ_mul, e1]
  have h1 := h (2 * q) (by omega)
  have h2 := h (2 * q + 1) (by omega)
  rw [e1] at h1
  rw [e2] at h2
  exact ⟨h1, h2⟩
set_option maxRecDepth 1000000 in
set_option maxHeartbeats 8000000 in
theorem stable_any (g cap n : Nat) (d0 : Array Po) (hs : d0.size = n) (w : World) (kz : Nat) (zE : ∀ w, (Go.sizeOf 27).run Tryd.prog w = .ok kz w) (R : RowK ocl kz w g 0 d0) (hcmp : CmpLays Tryd.prog 47 #[] ocl kz cfo g 0 d0.size w)
    (hins : ∀ (a b : Nat) (d : Array Po) (w' : World), d.size = n → SK kz w g d w' → a ≤ b → b ≤ n → Calls Tryd.prog 62 #[.slice (some ⟨g, 0, none⟩) n cap, .int .i64 (a : Int), .int .i64 (b : Int), .func (.func 47) #[] #[]] w' fun e w2 => e = .returned (.tuple #[]) ∧ ∃ D, SK kz w g D w2 ∧ PermIn a b d D ∧ SortedIn (ltOf cfo) a b D)
    (h4 : n ≤ 1000) :
    Calls Tryd.prog 61 #[.slice (some ⟨g, 0, none⟩) n cap, .int .i64 (n : Int), .func (.func 47) #[] #[]] w fun e w' =>
      e = .returned (.tuple #[]) ∧ ∃ D, SK kz w g D w' ∧ PermIn 0 n d0 D ∧ SortedIn (ltOf cfo) 0 n D := by
  have S0 : Aside (SK kz w g d0 w) := SWK.start R.hH
  have hsym := sym_any g cap n d0 w kz zE R hcmp hs (by omega) n
  have HI := Lib.hid hins
  have HS := Lib.hid hsym
  have HZ := Lib.hid hs
  clear hins hsym hcmp hs R
  go_enter Tryd.func61, Tryd.ntmps61
  go_wp2_with fail
  go_loopg [7, 8] n (fun kx s7 s8 wr => ∃ (a : Nat) (dk : Array Po), s7 = .int .i64 a ∧ s8 = .int .i64 ((a : Int) + 20) ∧ a ≤ n ∧ n - a ≤ kx ∧ Aside (SK kz w g dk wr) ∧ Hid (∃ q, a = q * 20) ∧ Hid (dk.size = n) ∧ Hid (PermIn 0 n d0 dk) ∧ Hid (Blk 20 0 a dk))
  case atStart => exact ⟨0, d0, rfl, rfl, Nat.zero_le _, Nat.le_refl _, S0, ⟨0, rfl⟩, HZ.out, permIn_refl _ _ _, fun c _ i j h1 h2 h3 => by omega⟩
  case round =>
    clear S0
    obtain ⟨a, dk, rfl, rfl, han, hkx, S1, HQ, HD, HP, HB⟩ := hrel
    by_cases hlt : (a : Int) + 20 ≤ (n : Int)
    · have hcall := HI.out a (a + 20) dk wr HD.out S1.out (by omega) (by omega)
      rw [show ((a + 20 : Nat) : Int) = (a : Int) + 20 by omega] at hcall
      have HC := Lib.hid hcall
      clear hcall S1
      go_wp2_with fail
      refine HC.out.mono ?_
      rintro e w1 ⟨rfl, D, S2, hp, hst⟩
      have S2 : Aside _ := S2
      have HP2 := Lib.hid hp
      have HS2 := Lib.hid hst
      clear hp hst HC
      go_wp2_with fail
      go_roundg (n - (a + 20))
      case measure => omega
      case rel =>
        obtain ⟨q, hq⟩ := HQ.out
        exact ⟨a + 20, D, by simp, by simp, by omega, Nat.le_refl _, S2, ⟨q + 1, by omega⟩, HP2.out.1.trans HD.out, permIn_trans _ _ _ _ _ HP.out (permIn_mono _ _ _ _ _ _ (Nat.zero_le _) (by omega) (by have := HD.out; omega) HP2.out), blk_ext hq (by omega) (Nat.le_refl _) HB.out HP2.out HS2.out⟩
    · have hcall := HI.out a n dk wr HD.out S1.out (by omega) (Nat.le_refl _)
      have HC := Lib.hid hcall
      clear hcall S1
      go_wp2_with fail
      refine HC.out.mono ?_
      rintro e w1 ⟨rfl, D, S2, hp, hst⟩
      have S2 : Aside _ := S2
      obtain ⟨q, hq⟩ := HQ.out
      have HB2 := Lib.hid (blk_ext hq (by omega) (by omega) HB.out hp hst)
      have HD2 := Lib.hid (hp.1.trans HD.out)
      have HP2 := Lib.hid (permIn_trans _ _ _ _ _ HP.out (permIn_mono _ _ _ _ _ _ (Nat.zero_le _) (Nat.le_refl _) (by have := HD.out; omega) hp))
      clear hp hst HC HB HP HD HQ hq hkx han hlt
      go_wp2_with fail
      go_loopg [6, 7, 8, 9] n (fun kx s6 _ _ _ wr => ∃ (bs : Nat) (dk : Array Po), s6 = .int .i64 bs ∧ 20 ≤ bs ∧ bs ≤ 2000 ∧ n - bs ≤ kx ∧ Aside (SK kz w g dk wr) ∧ Hid (dk.size = n) ∧ Hid (PermIn 0 n d0 dk) ∧ Hid (Blk bs 0 n dk))
      case atStart => exact ⟨20, D, rfl, Nat.le_refl _, by omega, by omega, S2, HD2.out, HP2.out, HB2.out⟩
      case round =>
        clear S2 HB2 HD2 HP2
        obtain ⟨bs, dk, rfl, hb20, hb2k, hkx, S1, HD, HP, HB⟩ := hrel
        by_cases hlt : (bs : Int) < (n : Int)
        · go_wp2_with fail
          go_loopg [7, 8] n (fun kx s7 s8 wr => ∃ (a : Nat) (dk : Array Po), s7 = .int .i64 a ∧ s8 = .int .i64 ((a : Int) + 2 * (bs : Int)) ∧ a ≤ n ∧ n - a ≤ kx ∧ Aside (SK kz w g dk wr) ∧ Hid (∃ q, a = q * (2 * bs)) ∧ Hid (dk.size = n) ∧ Hid (PermIn 0 n d0 dk) ∧ Hid (Blk (2 * bs) 0 a dk) ∧ Hid (Blk bs a n dk))
          case atStart => exact ⟨0, dk, rfl, by simp, Nat.zero_le _, Nat.le_refl _, S1, ⟨0, by simp⟩, HD.out, HP.out, fun c _ i j h1 h2 h3 => by omega, HB.out⟩
          case round =>
            clear S1 HD HP HB
            obtain ⟨a, dk, rfl, rfl, han, hkx2, S1, HQ, HD, HP, HB, HC⟩ := hrel
            by_cases hlt2 : (a : Int) + 2 * (bs : Int) ≤ (n : Int)
            · obtain ⟨q, hq⟩ := HQ.out
              obtain ⟨t1, t2⟩ := blk_two hq HC.out
              rw [Nat.min_eq_left (by omega)] at t1 t2
              have hcall := HS.out a (a + bs) (a + bs + bs) dk wr (by omega) HD.out S1.out (by omega) (by omega) (by omega) t1 t2
              rw [show ((a + bs : Nat) : Int) = (a : Int) + (bs : Int) by omega, show ((a + bs + bs : Nat) : Int) = (a : Int) + 2 * (bs : Int) by omega] at hcall
              have HCL := Lib.hid hcall
              have HQ2 := Lib.hid hq
              clear hcall S1 t1 t2 hq
              go_wp2_with fail
              refine HCL.out.mono ?_
              rintro e w1 ⟨rfl, D, S2, hp, hst⟩
              have S2 : Aside _ := S2
              have HP2 := Lib.hid hp
              have HS2 := Lib.hid hst
              clear hp hst HCL
              go_wp2_with fail
              go_roundg (n - (a + 2 * bs))
              case measure => omega
              case rel =>
                refine ⟨a + 2 * bs, D, by simp, by simp, by omega, Nat.le_refl _, S2, ⟨q + 1, by rw [Nat.add_mul, Nat.one_mul, ← HQ2.out]⟩, HP2.out.1.trans HD.out, permIn_trans _ _ _ _ _ HP.out (permIn_mono _ _ _ _ _ _ (Nat.zero_le _) (by omega) (by have := HD.out; omega) HP2.out), ?_, ?_⟩
                · have := blk_ext (b := a + bs + bs) HQ2.out (by omega) (by omega) HB.out HP2.out HS2.out
                  rwa [show a + bs + bs = a + 2 * bs by omega] at this
                · have := blk_from (b := a + bs + bs) HC.out (by omega) HP2.out
                  rwa [show a + bs + bs = a + 2 * bs by omega] at this
            · obtain ⟨q, hq⟩ := HQ.out
              obtain ⟨t1, t2⟩ := blk_two hq HC.out
              by_cases hm : (a : Int) + (bs : Int) < (n : Int)
              · rw [Nat.min_eq_left (by omega)] at t1
                rw [Nat.min_eq_right (by omega)] at t2
                have hcall := HS.out a (a + bs) n dk wr (by omega) HD.out S1.out (by omega) (by omega) (Nat.le_refl _) t1 t2
                rw [show ((a + bs : Nat) : Int) = (a : Int) + (bs : Int) by omega] at hcall
                have HCL := Lib.hid hcall
                have HQ2 := Lib.hid hq
                clear hcall S1 t1 t2 hq
                go_wp2_with fail
                refine HCL.out.mono ?_
                rintro e w1 ⟨rfl, D, S2, hp, hst⟩
                have S2 : Aside _ := S2
                have HP2 := Lib.hid hp
                have HS2 := Lib.hid hst
                clear hp hst HCL
                go_wp2_with fail
                go_roundg (n - 2 * bs)
                case measure => omega
                case rel => exact ⟨2 * bs, D, by simp; omega, by omega, by omega, Nat.le_refl _, S2, HP2.out.1.trans HD.out, permIn_trans _ _ _ _ _ HP.out (permIn_mono _ _ _ _ _ _ (Nat.zero_le _) (Nat.le_refl _) (by have := HD.out; omega) HP2.out), blk_ext HQ2.out (by omega) (by omega) HB.out HP2.out HS2.out⟩
              · rw [Nat.min_eq_right (by omega)] at t1
                have HT := Lib.hid t1
                have HQ2 := Lib.hid hq
                clear t1 t2 hq
                go_wp2_with fail
                go_roundg (n - 2 * bs)
                case measure => omega
                case rel => exact ⟨2 * bs, dk, by simp; omega, by omega, by omega, Nat.le_refl _, S1, HD.out, HP.out, blk_ext HQ2.out (by omega) (by omega) HB.out (permIn_refl _ _ _) HT.out⟩
        · go_wp2_with fail
          go_end0
          have := HB.out 0 (by omega)
          rw [Nat.zero_mul, Nat.min_eq_right (by omega)] at this
          exact ⟨rfl, dk, S1.out, HP.out, this⟩
end Go.Proofs.YtabjihchcmjdmaaDoor
/-
  slices.SortedStableFunc over slices.Values, at packets, by their places: up to ninety. By an AI agent.
-/
namespace Go.Proofs.YtabjihchcmjdmaaDoor
open Go.RowKit Go.Shelf Go.Sort Go.Lib

theorem perm_list (os : List Po) (D : Array Po) (n : Nat) (hn : os.length = n) (hp : PermIn 0 n os.toArray D) (hs : SortedIn (ltOf cfo) 0 n D) : D.toList.Perm os ∧ D.toList.Pairwise (fun x y => x.1.off ≤ y.1.off) := by
  subst hn
  obtain ⟨h1, _, h3⟩ := hp
  have hz : D.size = os.length := h1.trans (by simp)
  refine ⟨?_, ?_⟩
  · have e1 : os.toArray.extract 0 os.length = os.toArray := by simp
    have e2 : D.extract 0 os.length = D := by
      have h9 : ∀ (X : Array Po) (n : Nat), X.size = n → X.extract 0 n = X := fun X n h => by subst h; simp
      exact h9 _ _ hz
    rw [e1, e2] at h3
    simpa using h3
  · rw [List.pairwise_iff_getElem]
    intro i j hi hj hij
    rw [Array.length_toList] at hi hj
    have := hs i j (Nat.zero_le _) hij (by omega)
    rw [lt_cfo, decide_eq_false_iff_not] at this
    rw [getElem!_pos _ i hi, getElem!_pos _ j hj] at this
    simp only [Array.getElem_toList]
    omega
theorem ins_any (g cap n : Nat) (d0 : Array Po) (hs : d0.size = n) (w : World) (hH : HoldsK ocl 10 w g 0 d0) (hg : g < w.heap.size) (h4 : n ≤ 1000) (a b : Nat) (d : Array Po) (w' : World) (hd : d.size = n) (S : SK 10 w g d w') (hab : a ≤ b) (hb : b ≤ n) :
    Calls Tryd.prog 62 #[.slice (some ⟨g, 0, none⟩) n cap, .int .i64 (a : Int), .int .i64 (b : Int), .func (.func 47) #[] #[]] w' fun e w2 => e = .returned (.tuple #[]) ∧ ∃ D, SK 10 w g D w2 ∧ PermIn a b d D ∧ SortedIn (ltOf cfo) a b D := by
  have hc := insert_any g cap a b d w' (SWK.holds S hg hH (by omega)) (SWK.lt S hg) hab (by omega) (by omega)
  rw [hd] at hc
  refine hc.mono ?_
  rintro e w2 ⟨h1, m, os, rfl⟩
  obtain ⟨p, s⟩ := insertionSort_holds swo_cfo d a b hab (by omega)
  exact ⟨h1, srt d a b, SWK.on S hg m (srt d a b) os p.1, p, s⟩
set_option maxRecDepth 100000 in
theorem sortstable_any (g cap n : Nat) (d : Array Po) (hn : d.size = n) (w : World) (hH : HoldsK ocl 10 w g 0 d) (hg : g < w.heap.size) (h4 : n ≤ 1000) :
    Calls Tryd.prog 54 #[.slice (some ⟨g, 0, none⟩) n cap, .func (.func 47) #[] #[]] w fun e w' =>
      e = .returned (.tuple #[]) ∧ ∃ D, SK 10 w g D w' ∧ PermIn 0 n d D ∧ SortedIn (ltOf cfo) 0 n D := by
  have HC := Lib.hid (stable_any g cap n d hn w 10 pk_sizeOf ⟨ocl_len, ocl_one, hH, hg⟩ (cmpLays g 0 d.size w) (ins_any g cap n d hn w hH hg h4) h4)
  clear hH hg hn h4
  go_enter Tryd.func54, Tryd.ntmps54
  go_wp2_with fail
  refine HC.out.mono ?_
  rintro e w1 ⟨rfl, hw⟩
  have HW := Lib.hid hw
  clear hw
  go_wp2_with fail
  go_end0
  exact ⟨rfl, HW.out⟩
set_option maxRecDepth 100000 in
theorem sorted_any (Bs g cap n : Nat) (os : List Po) (hn : os.length = n) (h1 : 0 < n) (h2 : n ≤ 200) (w : World) (tb : TypeId) (hBs : w.heap[Bs]? = some (.cells #[.slice (some ⟨g, 0, none⟩) n cap] tb)) (hrow : PRow w g os) :
    Calls Tryd.prog 45 #[.func (.func 55) #[] #[.pointer (some ⟨Bs, 0, none⟩)], .func (.func 47) #[] #[]] w fun e w' =>
      ∃ s c L, e = .returned (.slice (some ⟨s, 0, none⟩) n c) ∧ PRow w' s L ∧ L.Perm os ∧ L.Pairwise (fun x y => x.1.off ≤ y.1.off) ∧ w.heap.size ≤ s ∧ Ex (fun _ => False) w w' := by
  have hc := collect_any Bs g cap os (by omega) (by omega) w tb (by rw [hn]; exact hBs) hrow
  rw [hn] at hc
  have HC := Lib.hid hc
  have HN := Lib.hid hn
  have H12 := Lib.hid (show 0 < n ∧ n ≤ 200 from ⟨h1, h2⟩)
  clear hc hBs hrow hn h1 h2
  go_enter Tryd.func45, Tryd.ntmps45
  go_wp2_with fail
  refine HC.out.mono ?_
  rintro e w1 ⟨A, c, rfl, hop, hx⟩
  have hop2 := hop
  rw [← HN.out] at hop2
  obtain ⟨s, c', e1, _, _⟩ := OP.get hop2 0 (by rw [HN.out]; exact H12.out.1)
  injection e1 with e1 _ e3
  subst e1 e3
  have hl := hop.lt s rfl
  have HH := Lib.hid (holdsK_of_op hop)
  have HL := Lib.hid hl
  have HX := Lib.hid hx
  clear hop hop2 hx hl
  go_wp2_with fail
  refine (sortstable_any s c n os.toArray (by simpa using HN.out) w1 HH.out HL.out.2 (by have := H12.out; omega)).mono ?_
  rintro e w2 ⟨rfl, D, S, hp, hs⟩
  obtain ⟨q1, q2⟩ := perm_list os D n HN.out hp hs
  have hh2 := SWK.holds S HL.out.2 HH.out hp.1
  have hx2 : Ex (fun k => k = s) w1 w2 := by
    obtain ⟨m, oo, rfl⟩ := S
    exact sorted_ex
  have HX2 := Lib.hid hx2
  have HH2 := Lib.hid hh2
  have HQ := Lib.hid (And.intro q1 q2)
  clear hx2 hh2 S hp hs q1 q2
  go_wp2_with fail
  go_ret
  exact ⟨s, c, D.toList, rfl, prow_of_holdsK HH2.out, HQ.out.1, HQ.out.2, HL.out.1, HX.out.andThen HX2.out (fun i hi e => by have := HL.out.1; omega)⟩
end Go.Proofs.YtabjihchcmjdmaaDoor
