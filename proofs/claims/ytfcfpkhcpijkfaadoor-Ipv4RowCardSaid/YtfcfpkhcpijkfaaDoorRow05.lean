/-
  The walk of Ipv4Row. By an AI agent.
-/
import Derived.Test.YtfcfpkhcpijkfaaDoorShown05
import Derived.Test.YtfcfpkhcpijkfaaDoorStr
import Derived.Test.YtfcfpkhcpijkfaaDoorSame05
import Derived.Test.YtfcfpkhcpijkfaaDoorOwnPk
import Derived.Test.YtfcfpkhcpijkfaaDoorIpA2
import Derived.Deep.DeepCutAuto
import Derived.Deep.CutBlock
import Derived.HandedShaped
namespace Go.Proofs.YtfcfpkhcpijkfaaDoor
open Go.RowKit

theorem Tryd.info51 : (Tryd.prog.info? 51).map (fun i => (i.zero, i.size, i.bytes)) = some (some (.agg #[.int .u8 0, .int .u16 0, .bool false, .bool false, .int .i64 0, .int .u8 0, .int .u8 0, .int .u32 0, .int .u32 0, .slice none 0 0]), 10, 56) := by kernel_rfl
theorem RB.drop {w : World} {P : Nat → Prop} {g o n c : Nat} {l : List UInt8} (h : RB w P (.slice (some ⟨g, o, none⟩) n c) l) (k : Nat) (hk : k ≤ l.length) : RB w P (.slice (some ⟨g, o + k, none⟩) (l.drop k).length (c - k)) (l.drop k) := by
  obtain ⟨h1, A', c', e, h3, h4⟩ := h
  injection e with e1 e2 e3
  subst e1 e2 e3
  refine ⟨by simp; omega, _, _, rfl, by simp; omega, fun i hi => ?_⟩
  obtain ⟨b, off, e, hp, hc⟩ := h4 (k + i) (by simp at hi; omega)
  injection e with e
  injection e with e1 e2
  subst e1 e2
  refine ⟨g, o + k, rfl, hp, ?_⟩
  rw [Nat.add_assoc, List.getElem_drop]
  exact hc
/-- the bytes of packets, one behind the other -/
def pbs (os : List (Pk × Option Addr × Nat)) : List UInt8 := os.flatMap fun o => pb o.1
theorem pbs_snoc (os : List (Pk × Option Addr × Nat)) (o : Pk × Option Addr × Nat) : pbs (os ++ [o]) = pbs os ++ pb o.1 := by simp [pbs]
theorem pbs_drop (os : List (Pk × Option Addr × Nat)) (k : Nat) (h : k < os.length) : pbs (os.drop k) = pb os[k].1 ++ pbs (os.drop (k + 1)) := by
  rw [List.drop_eq_getElem_cons h]; rfl
theorem pbs_end (os : List (Pk × Option Addr × Nat)) (k : Nat) (h : os.length ≤ k) : pbs (os.drop k) = [] := by
  rw [List.drop_eq_nil_of_le h]; rfl
set_option maxRecDepth 100000 in
set_option maxHeartbeats 16000000 in
theorem row05_any (v : Value) (ps : List Pk) (w : World) (hr : RPk w v ps) (hg : ET w) :
    Calls Tryd.prog 13 #[v] w fun e w' => e = .returned (.bool true) ∧ Ex (fun _ => False) w w' := by
  obtain ⟨hps, A, c, rfl, hpc, hcell⟩ := hr
  obtain ⟨i0, hi, hz0, hz1, hz2⟩ := info_parts Tryd.info5
  obtain ⟨i1, hj, hy0, hy1, hy2⟩ := info_parts Tryd.info51
  have HI := Lib.hid (And.intro hi (And.intro hz0 (And.intro hz1 hz2)))
  have HJ := Lib.hid (And.intro hj (And.intro hy0 (And.intro hy1 hy2)))
  have HP := Lib.hid hcell
  have HG := Lib.hid hg
  clear hcell hg hi hz0 hz1 hz2 hj hy0 hy1 hy2
  go_enter Tryd.func13, Tryd.ntmps13
  go_wp2_with fail
  refine (shown5_any w HG.out).mono ?_
  rintro e w1 ⟨rfl, hx⟩
  have HX_w1 := Lib.hid hx
  clear hx
  go_upto_region 4 with fail
  have ho := OB.lit w1 w1.heap.size [] (Nat.le_refl _) (by simp)
  have hx : Ex (fun _ => False) w1 (w1.alloc (.cells (([] : List UInt8).map u8v).toArray 5)) := (Ex.refl _ w1).alloc _
  have hg2 : w1.heap.size < (w1.alloc (.cells (([] : List UInt8).map u8v).toArray 5)).heap.size := by simp
  simp only [List.map_nil, List.length_nil] at ho hx hg2
  obtain ⟨g0, hg0⟩ : ∃ g, g = w1.heap.size := ⟨_, rfl⟩
  rw [← hg0] at ho hg2 ⊢
  have hg1 : w1.heap.size ≤ g0 := by omega
  generalize w1.alloc (.cells #[] 5) = w2 at ho hx hg2 ⊢
  clear hg0
  have HO2 := Lib.hid (ho.mono hg1)
  clear ho
  have HX_w2 := Lib.hid hx
  clear hx
  have hpn := OP.nil w2 w1.heap.size
  have HPN := Lib.hid hpn
  have hx0 := Lib.hid (Ex.refl (fun _ => False) w1)
  have hs12 := HX_w2.out.size
  clear hpn
  have HX01 := Lib.hid HX_w1.out
  go_wp2_with fail
  go_loopw [4, 5, 6] (fun own all i wr => ∃ (j : Nat) (os : List (Pk × Option Addr × Nat)) (l : List UInt8) (g c2 : Nat), j ≤ ps.length ∧ j ≤ 6 ∧ i = .int .i64 (j : Int) ∧ os.length ≤ j ∧ l.length ≤ 220 * j ∧ all = .slice (some ⟨g, 0, none⟩) l.length c2 ∧ w1.heap.size ≤ g ∧ Hid (l = pbs os) ∧
    Hid (∀ o ∈ os, o.1.ok ∧ o.1.right = 0 ∧ o.1.b.length ≤ 200 ∧ RB w (fun _ => True) (.slice o.2.1 o.1.b.length o.2.2) o.1.b) ∧ Hid (OP wr w1.heap.size own os) ∧ Hid (OB wr w1.heap.size (.slice (some ⟨g, 0, none⟩) l.length c2) l) ∧ Hid (∀ k, own.ownBlock = some k → k ≠ g) ∧ Hid (Ex (fun _ => False) w1 wr) ∧ w1.heap.size ≤ wr.heap.size) (fun _ _ i _ => ps.length - (intOf i).toNat)
  case atStart => exact ⟨0, [], [], g0, 0, by omega, by omega, rfl, by simp, by simp, rfl, hg1, Lib.hid rfl, Lib.hid (fun o h => by cases h), HPN, HO2, Lib.hid (fun k h => by cases h), HX_w2, hs12⟩
  case round =>
    clear hx0 HPN HO2 hs12 HX_w2 hg1 hg2
    obtain ⟨j, os, l, g, c2, hjn, hj6, rfl, hoj, hlj, rfl, hgw, hlo, hos, hop, hob, hne, hxr, hsr⟩ := hrel
    obtain ⟨Ao, co, rfl⟩ := hop.out.shape
    by_cases d1 : j < ps.length
    ·
      by_cases d2 : j < 6
      ·
        obtain ⟨b, off, A', c', rfl, hp⟩ := HP.out j d1
        obtain ⟨q, hq⟩ : ∃ q, q = ps[j] := ⟨_, rfl⟩
        rw [← hq] at hp
        clear hq
        obtain ⟨xtos, xid, xdf, xmf, xoff, xttl, xpr, xsrc, xdst, xb⟩ := q
        have HPA := Lib.hid hp
        have HQ := Lib.hid hp.bytes
        have OKQ := Lib.hid hp.ok
        clear hp
        have hxb : xb.length ≤ c' := by obtain ⟨_, _, _, e, h, _⟩ := HQ.out; injection e with _ _ e3; rw [e3]; exact h
        have co0 : wr.cell? ⟨b, off + j * 10 + 0, none⟩ = some (.int .u8 xtos) := (HX_w1.out.trans hxr.out).cell (HPA.out.cells 0 _ rfl) id
        have co1 : wr.cell? ⟨b, off + j * 10 + 1, none⟩ = some (.int .u16 xid) := (HX_w1.out.trans hxr.out).cell (HPA.out.cells 1 _ rfl) id
        have co2 : wr.cell? ⟨b, off + j * 10 + 2, none⟩ = some (.bool xdf) := (HX_w1.out.trans hxr.out).cell (HPA.out.cells 2 _ rfl) id
        have co3 : wr.cell? ⟨b, off + j * 10 + 3, none⟩ = some (.bool xmf) := (HX_w1.out.trans hxr.out).cell (HPA.out.cells 3 _ rfl) id
        have co4 : wr.cell? ⟨b, off + j * 10 + 4, none⟩ = some (.int .i64 xoff) := (HX_w1.out.trans hxr.out).cell (HPA.out.cells 4 _ rfl) id
        have co5 : wr.cell? ⟨b, off + j * 10 + 5, none⟩ = some (.int .u8 xttl) := (HX_w1.out.trans hxr.out).cell (HPA.out.cells 5 _ rfl) id
        have co6 : wr.cell? ⟨b, off + j * 10 + 6, none⟩ = some (.int .u8 xpr) := (HX_w1.out.trans hxr.out).cell (HPA.out.cells 6 _ rfl) id
        have co7 : wr.cell? ⟨b, off + j * 10 + 7, none⟩ = some (.int .u32 xsrc) := (HX_w1.out.trans hxr.out).cell (HPA.out.cells 7 _ rfl) id
        have co8 : wr.cell? ⟨b, off + j * 10 + 8, none⟩ = some (.int .u32 xdst) := (HX_w1.out.trans hxr.out).cell (HPA.out.cells 8 _ rfl) id
        have co9 : wr.cell? ⟨b, off + j * 10 + 9, none⟩ = some (.slice A' xb.length c') := (HX_w1.out.trans hxr.out).cell (HPA.out.cells 9 _ rfl) id
        try simp only [Nat.add_zero] at co0
        have hdi : (j : Int) < (ps.length : Int) := by omega
        have hd6 : (j : Int) < 6 := by omega
        obtain ⟨xl, hk, hk1, hk2, hs1⟩ : ∃ l1 : List UInt8, (if 200 < (xb.length : Int) then (200 : Int) else (xb.length : Int)) = (l1.length : Int) ∧ l1.length ≤ xb.length ∧ l1.length ≤ 200 ∧ Hid (l1 = xb.take 200) := by
          refine ⟨xb.take 200, ?_, by simp; omega, by simp; omega, rfl⟩
          rw [List.length_take]; split <;> omega
        have hki : (xl.length : Int) ≤ (xb.length : Int) := by omega
        have hkc : xl.length ≤ c' := by omega
        have hrt := HQ.out.take 200
        rw [← hs1.out] at hrt
        have HT := Lib.hid hrt
        clear hrt
        go_upto_region 8 with fail
        clear co0 co1 co2 co3 co4 co5 co6 co7 co8 co9
        have hx : Ex (fun _ => False) wr (wr.alloc (.cells #[.int .u8 xtos, .int .u16 xid, .bool xdf, .bool xmf, .int .i64 xoff, .int .u8 xttl, .int .u8 xpr, .int .u32 xsrc, .int .u32 xdst, .slice A' xb.length c'] 51)) := (Ex.refl _ wr).alloc _
        have hb : (wr.alloc (.cells #[.int .u8 xtos, .int .u16 xid, .bool xdf, .bool xmf, .int .i64 xoff, .int .u8 xttl, .int .u8 xpr, .int .u32 xsrc, .int .u32 xdst, .slice A' xb.length c'] 51)).heap[wr.heap.size]? = some (.cells #[.int .u8 xtos, .int .u16 xid, .bool xdf, .bool xmf, .int .i64 xoff, .int .u8 xttl, .int .u8 xpr, .int .u32 xsrc, .int .u32 xdst, .slice A' xb.length c'] 51) := heap_alloc_new wr _
        obtain ⟨xb_, hxb_⟩ : ∃ xb_, xb_ = wr.heap.size := ⟨_, rfl⟩
        have hb_xb_ : wr.heap.size ≤ xb_ := by omega
        rw [← hxb_] at hb
        try simp only [← hxb_]
        generalize wr.alloc (.cells #[.int .u8 xtos, .int .u16 xid, .bool xdf, .bool xmf, .int .i64 xoff, .int .u8 xttl, .int .u8 xpr, .int .u32 xsrc, .int .u32 xdst, .slice A' xb.length c'] 51) = w3 at hx hb ⊢
        clear hxb_
        have HX_w3 := Lib.hid hx
        clear hx
        have B_xb_ := Lib.hid hb
        clear hb
        have cxb_9 := row_cell (k := 9) (v := .slice A' xb.length c') B_xb_.out rfl
        have fxb_9 := row_frozen B_xb_.out 9
        go_upto_region 9 with fail
        have hb : (w3.setCell ⟨xb_, 9, none⟩ (.slice A' xl.length c')).heap[xb_]? = some (.cells #[.int .u8 xtos, .int .u16 xid, .bool xdf, .bool xmf, .int .i64 xoff, .int .u8 xttl, .int .u8 xpr, .int .u32 xsrc, .int .u32 xdst, .slice A' xl.length c'] 51) := (row_set B_xb_.out 9 (.slice A' xl.length c'))
        have hx : Ex (fun j => j = xb_) w3 (w3.setCell ⟨xb_, 9, none⟩ (.slice A' xl.length c')) := ((Ex.refl (fun j => j = xb_) w3).setCell (p := ⟨xb_, 9, none⟩) (.inl rfl) (.slice A' xl.length c'))
        clear cxb_9 fxb_9 hk
        generalize (w3.setCell ⟨xb_, 9, none⟩ (.slice A' xl.length c')) = w4 at hx hb ⊢
        clear B_xb_
        have HX_w4 := Lib.hid hx
        clear hx
        have B_xb_ := Lib.hid hb
        clear hb
        have cxb_0 := row_cell (k := 0) (v := .int .u8 xtos) B_xb_.out rfl
        have cxb_1 := row_cell (k := 1) (v := .int .u16 xid) B_xb_.out rfl
        have cxb_2 := row_cell (k := 2) (v := .bool xdf) B_xb_.out rfl
        have cxb_3 := row_cell (k := 3) (v := .bool xmf) B_xb_.out rfl
        have cxb_4 := row_cell (k := 4) (v := .int .i64 xoff) B_xb_.out rfl
        have cxb_5 := row_cell (k := 5) (v := .int .u8 xttl) B_xb_.out rfl
        have cxb_6 := row_cell (k := 6) (v := .int .u8 xpr) B_xb_.out rfl
        have cxb_7 := row_cell (k := 7) (v := .int .u32 xsrc) B_xb_.out rfl
        have cxb_8 := row_cell (k := 8) (v := .int .u32 xdst) B_xb_.out rfl
        have cxb_9 := row_cell (k := 9) (v := .slice A' xl.length c') B_xb_.out rfl
        have okl : (⟨xtos, xid, xdf, xmf, xoff, xttl, xpr, xsrc, xdst, xl⟩ : Pk).ok := OKQ.out
        by_cases hright : (⟨xtos, xid, xdf, xmf, xoff, xttl, xpr, xsrc, xdst, xl⟩ : Pk).right = 0
        ·
          have HRT := Lib.hid hright
          clear hright
          go_wp2_with fail
          refine (pbytes_yes _ (⟨xtos, xid, xdf, xmf, xoff, xttl, xpr, xsrc, xdst, xl⟩ : Pk) A' c' w4 okl (RB.keep HT.out (((HX_w1.out.trans hxr.out).trans HX_w3.out).andThen HX_w4.out (fun i hi e => by have := (HX_w1.out.trans hxr.out).size; have := hb_xb_; omega)) (fun _ _ _ => id)) (by show xl.length ≤ _; omega) HRT.out).mono ?_
          rintro e w5 ⟨g5, c5, rfl, ho5, hgw5, hgl5, hx⟩
          clear okl cxb_0 cxb_1 cxb_2 cxb_3 cxb_4 cxb_5 cxb_6 cxb_7 cxb_8 cxb_9
          obtain ⟨m5, hm5⟩ : ∃ m, m = pb (⟨xtos, xid, xdf, xmf, xoff, xttl, xpr, xsrc, xdst, xl⟩ : Pk) := ⟨_, rfl⟩
          have hml : m5.length = 20 + xl.length := by rw [hm5, pb_len]
          rw [← hm5] at ho5 ⊢
          have HM5 := Lib.hid hm5
          have HML5 := Lib.hid hml
          clear hm5 hml
          have HX_w5 := Lib.hid hx
          clear hx
          have HO5 := Lib.hid ho5
          clear ho5
          replace B_xb_ := Lib.hid ((HX_w5.out.block xb_ (row_lt B_xb_.out) id).trans B_xb_.out)
          have cxb_0 := row_cell (k := 0) (v := .int .u8 xtos) B_xb_.out rfl
          have cxb_1 := row_cell (k := 1) (v := .int .u16 xid) B_xb_.out rfl
          have cxb_2 := row_cell (k := 2) (v := .bool xdf) B_xb_.out rfl
          have cxb_3 := row_cell (k := 3) (v := .bool xmf) B_xb_.out rfl
          have cxb_4 := row_cell (k := 4) (v := .int .i64 xoff) B_xb_.out rfl
          have cxb_5 := row_cell (k := 5) (v := .int .u8 xttl) B_xb_.out rfl
          have cxb_6 := row_cell (k := 6) (v := .int .u8 xpr) B_xb_.out rfl
          have cxb_7 := row_cell (k := 7) (v := .int .u32 xsrc) B_xb_.out rfl
          have cxb_8 := row_cell (k := 8) (v := .int .u32 xdst) B_xb_.out rfl
          have cxb_9 := row_cell (k := 9) (v := .slice A' xl.length c') B_xb_.out rfl
          obtain ⟨hj, hy0, hy1, hy2⟩ := HJ.out
          have hop5 := hop.out.keep ((HX_w3.out.andThen HX_w4.out (fun i hi e => by have := hb_xb_; omega)).trans HX_w5.out) (fun _ _ _ _ => id)
          have hob5 := hob.out.keep ((HX_w3.out.andThen HX_w4.out (fun i hi e => by have := hb_xb_; omega)).trans HX_w5.out) (fun _ _ _ _ => id)
          have HOB5 := Lib.hid hob5
          have HOP5 := Lib.hid hop5
          have hsz5 := ((HX_w3.out.andThen HX_w4.out (fun i hi e => by have := hb_xb_; omega)).trans HX_w5.out).size
          clear hop5 hob5
          have hlc : ∀ k u, (ocl ((⟨xtos, xid, xdf, xmf, xoff, xttl, xpr, xsrc, xdst, xl⟩ : Pk), A', c'))[k]? = some u → (w5.alloc (.cells #[.int .u8 xtos, .int .u16 xid, .bool xdf, .bool xmf, .int .i64 xoff, .int .u8 xttl, .int .u8 xpr, .int .u32 xsrc, .int .u32 xdst, .slice A' xl.length c'] 51)).cell? ⟨w5.heap.size, k, none⟩ = some u := fun k u h => row_cell (heap_alloc_new w5 _) (by simpa [ocl, pcl] using h)
          have HLC := Lib.hid hlc
          clear hlc
          go_upto_region 12 with (at_builtin; refine wpList_append_op i1 70 _ 56 Tryd.underlying70 hj hy0 rfl hy1 hy2 (by decide) rfl (.tmp 46) (.tmp 48) rfl w1.heap.size (.slice Ao os.length co) os rfl ((⟨xtos, xid, xdf, xmf, xoff, xttl, xpr, xsrc, xdst, xl⟩ : Pk), A', c') w5.heap.size 1 1 rfl rfl (HOP5.out.keep (S := fun _ => False) ((Ex.refl _ w5).alloc _) (fun _ _ _ _ => id)) HLC.out (by omega) (by simp; omega) ?_; intro A6 c6 w6 ho6 hg6 hn6)
          clear hj hy0 hy1 hy2 cxb_0 cxb_1 cxb_2 cxb_3 cxb_4 cxb_5 cxb_6 cxb_7 cxb_8 cxb_9
          have hlo5 := hop.out.lt
          have hlg := (hob.out.lt g rfl).2
          have hx56 : Ex (fun k => (Value.slice Ao os.length co).ownBlock = some k) (w5.alloc (.cells #[.int .u8 xtos, .int .u16 xid, .bool xdf, .bool xmf, .int .i64 xoff, .int .u8 xttl, .int .u8 xpr, .int .u32 xsrc, .int .u32 xdst, .slice A' xl.length c'] 51)) w6 := (Ex.refl _ _).grown hg6 (fun k hk => .inl hk)
          have hx5a : Ex (fun _ => False) w5 (w5.alloc (.cells #[.int .u8 xtos, .int .u16 xid, .bool xdf, .bool xmf, .int .i64 xoff, .int .u8 xttl, .int .u8 xpr, .int .u32 xsrc, .int .u32 xdst, .slice A' xl.length c'] 51)) := (Ex.refl _ w5).alloc _
          have hs5a : (w5.alloc (.cells #[.int .u8 xtos, .int .u16 xid, .bool xdf, .bool xmf, .int .i64 xoff, .int .u8 xttl, .int .u8 xpr, .int .u32 xsrc, .int .u32 xdst, .slice A' xl.length c'] 51)).heap.size = w5.heap.size + 1 := by simp
          generalize w5.alloc (.cells #[.int .u8 xtos, .int .u16 xid, .bool xdf, .bool xmf, .int .i64 xoff, .int .u8 xttl, .int .u8 xpr, .int .u32 xsrc, .int .u32 xdst, .slice A' xl.length c'] 51) = w5a at hx56 hx5a hs5a hn6 hg6
          have hob6 : OB w6 w1.heap.size (.slice (some ⟨g, 0, none⟩) l.length c2) l := (HOB5.out.keep hx5a (fun _ _ _ _ => id)).keep hx56 (fun k hk _ _ h => by injection hk with hk; exact hne.out k h hk.symm)
          have hrb6 : RB w6 (fun _ => True) (.slice (some ⟨g5, 0, none⟩) m5.length c5) m5 := RB.any (((HO5.out.rb.keep hx5a (fun _ _ _ => id)).keep hx56 (fun k _ hk h => by have := (hlo5 k h).2; have := hk.2; have h4 := (HX_w3.out.andThen HX_w4.out (fun i hi e => by have := hb_xb_; omega)).size; omega)))
          have hs56 := hx56.size
          have hx16 : Ex (fun _ => False) w1 w6 := ((((hxr.out.trans HX_w3.out).andThen HX_w4.out (fun i hi e => by have := hxr.out.size; have := hb_xb_; omega)).trans HX_w5.out).trans hx5a).andThen hx56 (fun i hi e => by have := (hlo5 i e).1; omega)
          have hl6 := ho6.lt
          have HX16 := Lib.hid hx16
          have HO6 := Lib.hid ho6
          have HN6 := Lib.hid hn6
          have HOB6 := Lib.hid hob6
          have HRB6 := Lib.hid hrb6
          have HL6 := Lib.hid hl6
          have HLO5 := Lib.hid hlo5
          clear hlo5 hg6 hn6 ho6 hx56 hx5a hob6 hrb6 hx16 hl6
          obtain ⟨hi, hz0, hz1, hz2⟩ := HI.out
          have hlm := HML5.out
          go_wp2_with (at_builtin; refine wpList_append_ob i0 22 Tryd.underlying22 hi hz0 hz1 hz2 rfl (.tmp 50) (.tmp 51) rfl w1.heap.size (.slice (some ⟨g, 0, none⟩) l.length c2) l rfl (fun _ => True) (.slice (some ⟨g5, 0, none⟩) m5.length c5) m5 rfl HOB6.out HRB6.out (by omega) (by omega) ?_; intro A7 c7 w7 ho7 hg7 hn7 hb7; have HO7 := Lib.hid ho7; have HG7 := Lib.hid hg7; have HN7 := Lib.hid hn7; have HB7 := Lib.hid hb7; clear ho7 hg7 hn7 hb7 hi hz0 hz1 hz2 hlm)
          go_roundw
          case rel =>
            have ho7 := HO7.out
            cases A7 with
            | none => exact absurd (HN7.out.1 rfl).1 (by simp)
            | some A7 =>
              have hx67 : Ex (fun k => k = g) w6 w7 := (Ex.refl _ _).grown HG7.out (fun k hk => .inl (by injection hk with hk; exact hk.symm))
              have hll : (l ++ m5).length = l.length + m5.length := List.length_append
              rw [← hll] at ho7
              obtain ⟨g7, rfl, hg71, hg72⟩ := ho7.plain
              have hlm := HML5.out
              have hne7 : ∀ k, (Value.slice A6 (os.length + 1) c6).ownBlock = some k → k ≠ g := by
                intro k hk e
                rcases HN6.out with h | h
                · exact hne.out k (h.symm.trans hk) e
                · have := h.symm.trans hk; injection this with this; have h4 := ((HX_w3.out.andThen HX_w4.out (fun i hi e => by have := hb_xb_; omega)).trans HX_w5.out).size; omega
              have hop7 : OP w7 w1.heap.size (.slice A6 (os.length + 1) c6) (os ++ [((⟨xtos, xid, xdf, xmf, xoff, xttl, xpr, xsrc, xdst, xl⟩ : Pk), A', c')]) := HO6.out.keep hx67 (fun k hk _ _ h => hne7 k hk h)
              refine ⟨j + 1, os ++ [((⟨xtos, xid, xdf, xmf, xoff, xttl, xpr, xsrc, xdst, xl⟩ : Pk), A', c')], l ++ m5, g7, c7, by omega, by omega, by go_num, by simp; omega, by rw [hll]; omega, by rw [hll], hg71, ?_, ?_, Lib.hid hop7, Lib.hid ho7, ?_, ?_, ?_⟩
              · exact Lib.hid (by rw [pbs_snoc, ← hlo.out]; show l ++ m5 = l ++ pb (⟨xtos, xid, xdf, xmf, xoff, xttl, xpr, xsrc, xdst, xl⟩ : Pk); rw [HM5.out])
              · refine Lib.hid (fun o ho => ?_)
                rcases List.mem_append.1 ho with h | h
                · exact hos.out o h
                · obtain rfl := List.mem_singleton.1 h
                  exact ⟨OKQ.out, HRT.out, hk2, HT.out⟩
              · refine Lib.hid (fun k hk => ?_)
                intro e
                rcases HB7.out with h | h
                · have h : some g7 = some g := h
                  injection h with h
                  exact hne7 k hk (e.trans h)
                · have h : some g7 = some w6.heap.size := h
                  injection h with h
                  have := (HL6.out k hk).2
                  omega
              · exact Lib.hid (HX16.out.andThen hx67 (fun i hi e => by omega))
              · have := hx67.size; have := HX16.out.size; omega
          case measure => simp [intOf]; omega
        ·
          have HRT := Lib.hid hright
          clear hright
          go_wp2_with fail
          refine (pbytes_no _ (⟨xtos, xid, xdf, xmf, xoff, xttl, xpr, xsrc, xdst, xl⟩ : Pk) A' c' w4 okl (RB.keep HT.out (((HX_w1.out.trans hxr.out).trans HX_w3.out).andThen HX_w4.out (fun i hi e => by have := (HX_w1.out.trans hxr.out).size; have := hb_xb_; omega)) (fun _ _ _ => id)) (by show xl.length ≤ _; omega) HRT.out).mono ?_
          rintro e w5 ⟨t5, y5, rfl, he5, hx⟩
          clear okl he5 cxb_0 cxb_1 cxb_2 cxb_3 cxb_4 cxb_5 cxb_6 cxb_7 cxb_8 cxb_9
          have HX_w5 := Lib.hid hx
          clear hx
          have hsz := ((HX_w3.out.andThen HX_w4.out (fun i hi e => by have := hb_xb_; omega)).trans HX_w5.out).size
          go_wp2_with fail
          go_roundw
          case rel => exact ⟨j + 1, os, l, g, c2, by omega, by omega, by go_num, by omega, by omega, rfl, hgw, hlo, hos, Lib.hid (hop.out.keep ((HX_w3.out.andThen HX_w4.out (fun i hi e => by have := hb_xb_; omega)).trans HX_w5.out) (fun _ _ _ _ => id)), Lib.hid (hob.out.keep ((HX_w3.out.andThen HX_w4.out (fun i hi e => by have := hb_xb_; omega)).trans HX_w5.out) (fun _ _ _ _ => id)), hne, Lib.hid (((hxr.out.trans HX_w3.out).andThen HX_w4.out (fun i hi e => by have := hxr.out.size; have := hb_xb_; omega)).trans HX_w5.out), by omega⟩
          case measure => simp [intOf]; omega
      ·
        go_wp2_with fail
        have hq0 := Lib.hid hob.out.rb.any
        have hx0 := Lib.hid (Ex.refl (fun _ => False) wr)
        go_loopw [5, 10] (fun all i wl => ∃ (k o2 c2 : Nat) (m : List UInt8), k ≤ os.length ∧ i = .int .i64 (k : Int) ∧ all = .slice (some ⟨g, o2, none⟩) m.length c2 ∧ m.length ≤ 1320 ∧ Hid (m = pbs (os.drop k)) ∧ Hid (RB wl (fun _ => True) (.slice (some ⟨g, o2, none⟩) m.length c2) m) ∧ Hid (Ex (fun _ => False) wr wl)) (fun _ i _ => os.length - (intOf i).toNat)
        case atStart => exact ⟨0, 0, c2, l, by omega, rfl, rfl, by omega, hlo, hq0, hx0⟩
        case round =>
          clear hx0 hq0
          obtain ⟨k, o2, c3, m, hk, rfl, rfl, hm1, hm, hrm, hxl⟩ := hrel
          by_cases dk : k < os.length
          ·
            have hmem := hos.out os[k] (List.getElem_mem dk)
            obtain ⟨go, cg, hv4, hcg, hget⟩ := hop.out.get k dk
            injection hv4 with hA hn4 hc4
            subst hA hc4
            clear hn4
            have hme := hm.out.trans (pbs_drop os k dk)
            obtain ⟨q, hq⟩ : ∃ q, q = os[k] := ⟨_, rfl⟩
            rw [← hq] at hmem hget hme
            clear hq
            obtain ⟨q, Aq, cq⟩ := q
            obtain ⟨okq, rtq, lnq, rbq⟩ := hmem
            obtain ⟨hp1, hp2⟩ := pb_back okq rtq (pbs (os.drop (k + 1)))
            rw [← hme] at hp1 hp2
            have hpl := pb_len q
            have hml : m.length = (pb q).length + (pbs (os.drop (k + 1))).length := by rw [hme, List.length_append]
            have hdr : m.drop (20 + q.b.length) = pbs (os.drop (k + 1)) := by rw [hme, ← hpl]; simp
            have hml2 : 20 + q.b.length ≤ m.length := by omega
            have HML := Lib.hid hml2
            have HDR := Lib.hid hdr
            have OKQ := Lib.hid okq
            have HQ := Lib.hid rbq
            have HGT := Lib.hid hget
            clear hme hdr okq rtq rbq hget hml hpl hml2
            go_wp2_with fail
            refine (ipparse_yes _ (some ⟨g, o2, none⟩) m.length c3 m wr hrm.out (fun h => by cases h) (by omega) q hp1 hp2).mono ?_
            rintro e w5 ⟨A5, g5, o5, rfl, hg5, hb5, _, hx⟩
            clear hp1 hp2
            obtain ⟨xtos, xid, xdf, xmf, xoff, xttl, xpr, xsrc, xdst, xb⟩ := q
            simp only at lnq
            have hv : pkv (⟨xtos, xid, xdf, xmf, xoff, xttl, xpr, xsrc, xdst, xb⟩ : Pk) (.slice A5 (⟨xtos, xid, xdf, xmf, xoff, xttl, xpr, xsrc, xdst, xb⟩ : Pk).b.length (⟨xtos, xid, xdf, xmf, xoff, xttl, xpr, xsrc, xdst, xb⟩ : Pk).b.length) = .agg #[.int .u8 xtos, .int .u16 xid, .bool xdf, .bool xmf, .int .i64 xoff, .int .u8 xttl, .int .u8 xpr, .int .u32 xsrc, .int .u32 xdst, .slice A5 xb.length xb.length] := rfl
            rw [hv]
            clear hv
            have HX_w5 := Lib.hid hx
            clear hx
            have HB5 := Lib.hid hb5
            clear hb5
            go_upto_region 17 with fail
            have hx : Ex (fun _ => False) w5 (w5.alloc (.cells #[.int .u8 xtos, .int .u16 xid, .bool xdf, .bool xmf, .int .i64 xoff, .int .u8 xttl, .int .u8 xpr, .int .u32 xsrc, .int .u32 xdst, .slice A5 xb.length xb.length] 51)) := (Ex.refl _ w5).alloc _
            have hb : (w5.alloc (.cells #[.int .u8 xtos, .int .u16 xid, .bool xdf, .bool xmf, .int .i64 xoff, .int .u8 xttl, .int .u8 xpr, .int .u32 xsrc, .int .u32 xdst, .slice A5 xb.length xb.length] 51)).heap[w5.heap.size]? = some (.cells #[.int .u8 xtos, .int .u16 xid, .bool xdf, .bool xmf, .int .i64 xoff, .int .u8 xttl, .int .u8 xpr, .int .u32 xsrc, .int .u32 xdst, .slice A5 xb.length xb.length] 51) := heap_alloc_new w5 _
            obtain ⟨yb, hyb⟩ : ∃ yb, yb = w5.heap.size := ⟨_, rfl⟩
            have hb_yb : w5.heap.size ≤ yb := by omega
            rw [← hyb] at hb
            try simp only [← hyb]
            generalize w5.alloc (.cells #[.int .u8 xtos, .int .u16 xid, .bool xdf, .bool xmf, .int .i64 xoff, .int .u8 xttl, .int .u8 xpr, .int .u32 xsrc, .int .u32 xdst, .slice A5 xb.length xb.length] 51) = w6 at hx hb ⊢
            clear hyb
            have HX_w6 := Lib.hid hx
            clear hx
            have B_yb := Lib.hid hb
            clear hb
            have cyb0 := row_cell (k := 0) (v := .int .u8 xtos) B_yb.out rfl
            have cyb1 := row_cell (k := 1) (v := .int .u16 xid) B_yb.out rfl
            have cyb2 := row_cell (k := 2) (v := .bool xdf) B_yb.out rfl
            have cyb3 := row_cell (k := 3) (v := .bool xmf) B_yb.out rfl
            have cyb4 := row_cell (k := 4) (v := .int .i64 xoff) B_yb.out rfl
            have cyb5 := row_cell (k := 5) (v := .int .u8 xttl) B_yb.out rfl
            have cyb6 := row_cell (k := 6) (v := .int .u8 xpr) B_yb.out rfl
            have cyb7 := row_cell (k := 7) (v := .int .u32 xsrc) B_yb.out rfl
            have cyb8 := row_cell (k := 8) (v := .int .u32 xdst) B_yb.out rfl
            have cyb9 := row_cell (k := 9) (v := .slice A5 xb.length xb.length) B_yb.out rfl
            replace HB5 := Lib.hid (RB.keep HB5.out HX_w6.out (fun _ _ _ => id))
            have hqk := (RB.keep HQ.out ((((HX_w1.out.trans hxr.out).trans hxl.out).trans HX_w5.out).trans HX_w6.out) (fun _ _ _ => id))
            have HQK := Lib.hid hqk
            clear hqk
            have co0 : w6.cell? ⟨go, k * 10 + 0, none⟩ = some (.int .u8 xtos) := ((hxl.out.trans HX_w5.out).trans HX_w6.out).cell (HGT.out 0 _ rfl) id
            have co1 : w6.cell? ⟨go, k * 10 + 1, none⟩ = some (.int .u16 xid) := ((hxl.out.trans HX_w5.out).trans HX_w6.out).cell (HGT.out 1 _ rfl) id
            have co2 : w6.cell? ⟨go, k * 10 + 2, none⟩ = some (.bool xdf) := ((hxl.out.trans HX_w5.out).trans HX_w6.out).cell (HGT.out 2 _ rfl) id
            have co3 : w6.cell? ⟨go, k * 10 + 3, none⟩ = some (.bool xmf) := ((hxl.out.trans HX_w5.out).trans HX_w6.out).cell (HGT.out 3 _ rfl) id
            have co4 : w6.cell? ⟨go, k * 10 + 4, none⟩ = some (.int .i64 xoff) := ((hxl.out.trans HX_w5.out).trans HX_w6.out).cell (HGT.out 4 _ rfl) id
            have co5 : w6.cell? ⟨go, k * 10 + 5, none⟩ = some (.int .u8 xttl) := ((hxl.out.trans HX_w5.out).trans HX_w6.out).cell (HGT.out 5 _ rfl) id
            have co6 : w6.cell? ⟨go, k * 10 + 6, none⟩ = some (.int .u8 xpr) := ((hxl.out.trans HX_w5.out).trans HX_w6.out).cell (HGT.out 6 _ rfl) id
            have co7 : w6.cell? ⟨go, k * 10 + 7, none⟩ = some (.int .u32 xsrc) := ((hxl.out.trans HX_w5.out).trans HX_w6.out).cell (HGT.out 7 _ rfl) id
            have co8 : w6.cell? ⟨go, k * 10 + 8, none⟩ = some (.int .u32 xdst) := ((hxl.out.trans HX_w5.out).trans HX_w6.out).cell (HGT.out 8 _ rfl) id
            have co9 : w6.cell? ⟨go, k * 10 + 9, none⟩ = some (.slice Aq xb.length cq) := ((hxl.out.trans HX_w5.out).trans HX_w6.out).cell (HGT.out 9 _ rfl) id
            try simp only [Nat.add_zero] at co0
            have hdi : (k : Int) < (os.length : Int) := by omega
            have hd0 : k ≤ os.length := by omega
            have hS0 : Ex (fun _ => False) w6 w6.drew := (Ex.refl _ w6).drew
            refine wp_region_held_drew (S := fun W => Ex (fun _ => False) w6 W) (by kernel_rfl) hS0 (fun _ => ?_)
            refine wpAnyH_take (i := 0) (oi := { dst := some 64, op := Go.Op.move (Go.Operand.tmp 12), type := 29, pos := "more.go:55", after := #[], guard := none }) (v := ?v1) rfl (by kernel_rfl) (by kernel_rfl) (by kernel_rfl) (fun _ _ _ h => h) (Or.inl ⟨by rfl, ?hy1⟩) (by assumption) ?rest1
            case hy1 => (intro w hSw; (try dsimp only at hSw); have ecyb0 := hSw.cell cyb0 id; have ecyb1 := hSw.cell cyb1 id; have ecyb2 := hSw.cell cyb2 id; have ecyb3 := hSw.cell cyb3 id; have ecyb4 := hSw.cell cyb4 id; have ecyb5 := hSw.cell cyb5 id; have ecyb6 := hSw.cell cyb6 id; have ecyb7 := hSw.cell cyb7 id; have ecyb8 := hSw.cell cyb8 id; have ecyb9 := hSw.cell cyb9 id; have eco0 := hSw.cell co0 id; have eco1 := hSw.cell co1 id; have eco2 := hSw.cell co2 id; have eco3 := hSw.cell co3 id; have eco4 := hSw.cell co4 id; have eco5 := hSw.cell co5 id; have eco6 := hSw.cell co6 id; have eco7 := hSw.cell co7 id; have eco8 := hSw.cell co8 id; have eco9 := hSw.cell co9 id; go_simp <;> with_reducible rfl)
            try simp only [Act.put, List.setIfInBounds_toArray, List.set_cons_zero, List.set_cons_succ]
            refine wpAnyH_take (i := 1) (oi := { dst := some 65, op := Go.Op.binOp Go.BinOp.neq 29 (Go.Operand.tmp 64) (Go.Operand.const Go.Value.nilIface) 29, type := 4, pos := "more.go:55", after := #[{ on := 0, ground := Go.Ground.data }], guard := none }) (v := ?v2) rfl (by kernel_rfl) (by kernel_rfl) (by kernel_rfl) (fun _ _ _ h => h) (Or.inl ⟨by rfl, ?hy2⟩) (by assumption) ?rest2
            case hy2 => (intro w hSw; (try dsimp only at hSw); have ecyb0 := hSw.cell cyb0 id; have ecyb1 := hSw.cell cyb1 id; have ecyb2 := hSw.cell cyb2 id; have ecyb3 := hSw.cell cyb3 id; have ecyb4 := hSw.cell cyb4 id; have ecyb5 := hSw.cell cyb5 id; have ecyb6 := hSw.cell cyb6 id; have ecyb7 := hSw.cell cyb7 id; have ecyb8 := hSw.cell cyb8 id; have ecyb9 := hSw.cell cyb9 id; have eco0 := hSw.cell co0 id; have eco1 := hSw.cell co1 id; have eco2 := hSw.cell co2 id; have eco3 := hSw.cell co3 id; have eco4 := hSw.cell co4 id; have eco5 := hSw.cell co5 id; have eco6 := hSw.cell co6 id; have eco7 := hSw.cell co7 id; have eco8 := hSw.cell co8 id; have eco9 := hSw.cell co9 id; go_simp <;> with_reducible rfl)
            try simp only [Act.put, List.setIfInBounds_toArray, List.set_cons_zero, List.set_cons_succ]
            refine wpAnyH_take (i := 2) (oi := { dst := some 66, op := Go.Op.move (Go.Operand.tmp 65), type := 4, pos := "more.go:55", after := #[{ on := 1, ground := Go.Ground.data }], guard := none }) (v := ?v3) rfl (by kernel_rfl) (by kernel_rfl) (by kernel_rfl) (fun _ _ _ h => h) (Or.inl ⟨by rfl, ?hy3⟩) (by assumption) ?rest3
            case hy3 => (intro w hSw; (try dsimp only at hSw); have ecyb0 := hSw.cell cyb0 id; have ecyb1 := hSw.cell cyb1 id; have ecyb2 := hSw.cell cyb2 id; have ecyb3 := hSw.cell cyb3 id; have ecyb4 := hSw.cell cyb4 id; have ecyb5 := hSw.cell cyb5 id; have ecyb6 := hSw.cell cyb6 id; have ecyb7 := hSw.cell cyb7 id; have ecyb8 := hSw.cell cyb8 id; have ecyb9 := hSw.cell cyb9 id; have eco0 := hSw.cell co0 id; have eco1 := hSw.cell co1 id; have eco2 := hSw.cell co2 id; have eco3 := hSw.cell co3 id; have eco4 := hSw.cell co4 id; have eco5 := hSw.cell co5 id; have eco6 := hSw.cell co6 id; have eco7 := hSw.cell co7 id; have eco8 := hSw.cell co8 id; have eco9 := hSw.cell co9 id; go_simp <;> with_reducible rfl)
            try simp only [Act.put, List.setIfInBounds_toArray, List.set_cons_zero, List.set_cons_succ]
            refine wpAnyH_take (i := 3) (oi := { dst := some 67, op := Go.Op.load 51 (Go.Operand.tmp 11), type := 51, pos := "more.go:55", after := #[{ on := 2, ground := Go.Ground.guard }], guard := some (2, false) }) (v := ?v4) rfl (by kernel_rfl) (by kernel_rfl) (by kernel_rfl) (fun _ _ _ h => h) (Or.inl ⟨by rfl, ?hy4⟩) (by assumption) ?rest4
            case hy4 => (intro w hSw; (try dsimp only at hSw); have ecyb0 := hSw.cell cyb0 id; have ecyb1 := hSw.cell cyb1 id; have ecyb2 := hSw.cell cyb2 id; have ecyb3 := hSw.cell cyb3 id; have ecyb4 := hSw.cell cyb4 id; have ecyb5 := hSw.cell cyb5 id; have ecyb6 := hSw.cell cyb6 id; have ecyb7 := hSw.cell cyb7 id; have ecyb8 := hSw.cell cyb8 id; have ecyb9 := hSw.cell cyb9 id; have eco0 := hSw.cell co0 id; have eco1 := hSw.cell co1 id; have eco2 := hSw.cell co2 id; have eco3 := hSw.cell co3 id; have eco4 := hSw.cell co4 id; have eco5 := hSw.cell co5 id; have eco6 := hSw.cell co6 id; have eco7 := hSw.cell co7 id; have eco8 := hSw.cell co8 id; have eco9 := hSw.cell co9 id; go_simp <;> with_reducible rfl)
            try simp only [Act.put, List.setIfInBounds_toArray, List.set_cons_zero, List.set_cons_succ]
            refine wpAnyH_take (i := 4) (oi := { dst := some 68, op := Go.Op.move (Go.Operand.tmp 4), type := 70, pos := "more.go:55", after := #[{ on := 2, ground := Go.Ground.guard }], guard := some (2, false) }) (v := ?v5) rfl (by kernel_rfl) (by kernel_rfl) (by kernel_rfl) (fun _ _ _ h => h) (Or.inl ⟨by rfl, ?hy5⟩) (by assumption) ?rest5
            case hy5 => (intro w hSw; (try dsimp only at hSw); have ecyb0 := hSw.cell cyb0 id; have ecyb1 := hSw.cell cyb1 id; have ecyb2 := hSw.cell cyb2 id; have ecyb3 := hSw.cell cyb3 id; have ecyb4 := hSw.cell cyb4 id; have ecyb5 := hSw.cell cyb5 id; have ecyb6 := hSw.cell cyb6 id; have ecyb7 := hSw.cell cyb7 id; have ecyb8 := hSw.cell cyb8 id; have ecyb9 := hSw.cell cyb9 id; have eco0 := hSw.cell co0 id; have eco1 := hSw.cell co1 id; have eco2 := hSw.cell co2 id; have eco3 := hSw.cell co3 id; have eco4 := hSw.cell co4 id; have eco5 := hSw.cell co5 id; have eco6 := hSw.cell co6 id; have eco7 := hSw.cell co7 id; have eco8 := hSw.cell co8 id; have eco9 := hSw.cell co9 id; go_simp <;> with_reducible rfl)
            try simp only [Act.put, List.setIfInBounds_toArray, List.set_cons_zero, List.set_cons_succ]
            refine wpAnyH_take (i := 5) (oi := { dst := some 69, op := Go.Op.move (Go.Operand.tmp 10), type := 3, pos := "more.go:55", after := #[{ on := 2, ground := Go.Ground.guard }], guard := some (2, false) }) (v := ?v6) rfl (by kernel_rfl) (by kernel_rfl) (by kernel_rfl) (fun _ _ _ h => h) (Or.inl ⟨by rfl, ?hy6⟩) (by assumption) ?rest6
            case hy6 => (intro w hSw; (try dsimp only at hSw); have ecyb0 := hSw.cell cyb0 id; have ecyb1 := hSw.cell cyb1 id; have ecyb2 := hSw.cell cyb2 id; have ecyb3 := hSw.cell cyb3 id; have ecyb4 := hSw.cell cyb4 id; have ecyb5 := hSw.cell cyb5 id; have ecyb6 := hSw.cell cyb6 id; have ecyb7 := hSw.cell cyb7 id; have ecyb8 := hSw.cell cyb8 id; have ecyb9 := hSw.cell cyb9 id; have eco0 := hSw.cell co0 id; have eco1 := hSw.cell co1 id; have eco2 := hSw.cell co2 id; have eco3 := hSw.cell co3 id; have eco4 := hSw.cell co4 id; have eco5 := hSw.cell co5 id; have eco6 := hSw.cell co6 id; have eco7 := hSw.cell co7 id; have eco8 := hSw.cell co8 id; have eco9 := hSw.cell co9 id; go_simp <;> with_reducible rfl)
            try simp only [Act.put, List.setIfInBounds_toArray, List.set_cons_zero, List.set_cons_succ]
            refine wpAnyH_take (i := 6) (oi := { dst := some 70, op := Go.Op.indexAddr 70 (Go.Operand.tmp 68) (Go.Operand.tmp 69), type := 0, pos := "more.go:55", after := #[{ on := 4, ground := Go.Ground.data }, { on := 5, ground := Go.Ground.data }, { on := 2, ground := Go.Ground.guard }], guard := some (2, false) }) (v := ?v7) rfl (by kernel_rfl) (by kernel_rfl) (by kernel_rfl) (fun _ _ _ h => h) (Or.inl ⟨by rfl, ?hy7⟩) (by assumption) ?rest7
            case hy7 => (intro w hSw; (try dsimp only at hSw); have ecyb0 := hSw.cell cyb0 id; have ecyb1 := hSw.cell cyb1 id; have ecyb2 := hSw.cell cyb2 id; have ecyb3 := hSw.cell cyb3 id; have ecyb4 := hSw.cell cyb4 id; have ecyb5 := hSw.cell cyb5 id; have ecyb6 := hSw.cell cyb6 id; have ecyb7 := hSw.cell cyb7 id; have ecyb8 := hSw.cell cyb8 id; have ecyb9 := hSw.cell cyb9 id; have eco0 := hSw.cell co0 id; have eco1 := hSw.cell co1 id; have eco2 := hSw.cell co2 id; have eco3 := hSw.cell co3 id; have eco4 := hSw.cell co4 id; have eco5 := hSw.cell co5 id; have eco6 := hSw.cell co6 id; have eco7 := hSw.cell co7 id; have eco8 := hSw.cell co8 id; have eco9 := hSw.cell co9 id; go_simp <;> with_reducible rfl)
            try simp only [Act.put, List.setIfInBounds_toArray, List.set_cons_zero, List.set_cons_succ]
            refine wpAnyH_take (i := 7) (oi := { dst := some 71, op := Go.Op.load 51 (Go.Operand.tmp 70), type := 51, pos := "more.go:55", after := #[{ on := 6, ground := Go.Ground.data }, { on := 2, ground := Go.Ground.guard }], guard := some (2, false) }) (v := ?v8) rfl (by kernel_rfl) (by kernel_rfl) (by kernel_rfl) (fun _ _ _ h => h) (Or.inl ⟨by rfl, ?hy8⟩) (by assumption) ?rest8
            case hy8 => (intro w hSw; (try dsimp only at hSw); have ecyb0 := hSw.cell cyb0 id; have ecyb1 := hSw.cell cyb1 id; have ecyb2 := hSw.cell cyb2 id; have ecyb3 := hSw.cell cyb3 id; have ecyb4 := hSw.cell cyb4 id; have ecyb5 := hSw.cell cyb5 id; have ecyb6 := hSw.cell cyb6 id; have ecyb7 := hSw.cell cyb7 id; have ecyb8 := hSw.cell cyb8 id; have ecyb9 := hSw.cell cyb9 id; have eco0 := hSw.cell co0 id; have eco1 := hSw.cell co1 id; have eco2 := hSw.cell co2 id; have eco3 := hSw.cell co3 id; have eco4 := hSw.cell co4 id; have eco5 := hSw.cell co5 id; have eco6 := hSw.cell co6 id; have eco7 := hSw.cell co7 id; have eco8 := hSw.cell co8 id; have eco9 := hSw.cell co9 id; go_simp <;> with_reducible rfl)
            try simp only [Act.put, List.setIfInBounds_toArray, List.set_cons_zero, List.set_cons_succ]
            refine wpAnyH_ready (rs := [8]) (by kernel_rfl) (by simp) ?_
            refine AllReadyH.cons (o := { dst := some 72, op := Go.Op.call { callee := Go.Callee.value (Go.Operand.func 32), args := #[Go.Operand.tmp 67, Go.Operand.tmp 71], argTypes := #[51, 51] }, type := 4, pos := "more.go:55", after := #[{ on := 3, ground := Go.Ground.data }, { on := 7, ground := Go.Ground.data }, { on := 2, ground := Go.Ground.chain }, { on := 2, ground := Go.Ground.guard }], guard := some (2, false) }) rfl (fun K hK => ?_) AllReadyH.nil
            go_simp
            refine (same_any _ _ (⟨xtos, xid, xdf, xmf, xoff, xttl, xpr, xsrc, xdst, xb⟩ : Pk) (⟨xtos, xid, xdf, xmf, xoff, xttl, xpr, xsrc, xdst, xb⟩ : Pk) A5 Aq xb.length cq _ OKQ.out OKQ.out (RB.keep HB5.out hS0 (fun _ _ _ => id)) (RB.keep HQK.out hS0 (fun _ _ _ => id))).mono ?_
            rintro e w7 ⟨rfl, hx⟩
            rw [Pk.eqB_self]
            have hS1 := hS0.trans hx
            clear hx
            refine hK.out _ _ hS1 (fun _ => ?_)
            refine wpAnyH_take (i := 9) (oi := { dst := some 73, op := Go.Op.unOp Go.UnOp.not 4 (Go.Operand.tmp 72), type := 4, pos := "more.go:55", after := #[{ on := 8, ground := Go.Ground.data }, { on := 2, ground := Go.Ground.guard }], guard := some (2, false) }) (v := ?v9) rfl (by kernel_rfl) (by kernel_rfl) (by kernel_rfl) (fun _ _ _ h => h) (Or.inl ⟨by rfl, ?hy9⟩) (by assumption) ?rest9
            case hy9 => (intro w hSw; (try dsimp only at hSw); have ecyb0 := hSw.cell cyb0 id; have ecyb1 := hSw.cell cyb1 id; have ecyb2 := hSw.cell cyb2 id; have ecyb3 := hSw.cell cyb3 id; have ecyb4 := hSw.cell cyb4 id; have ecyb5 := hSw.cell cyb5 id; have ecyb6 := hSw.cell cyb6 id; have ecyb7 := hSw.cell cyb7 id; have ecyb8 := hSw.cell cyb8 id; have ecyb9 := hSw.cell cyb9 id; have eco0 := hSw.cell co0 id; have eco1 := hSw.cell co1 id; have eco2 := hSw.cell co2 id; have eco3 := hSw.cell co3 id; have eco4 := hSw.cell co4 id; have eco5 := hSw.cell co5 id; have eco6 := hSw.cell co6 id; have eco7 := hSw.cell co7 id; have eco8 := hSw.cell co8 id; have eco9 := hSw.cell co9 id; go_simp <;> with_reducible rfl)
            try simp only [Act.put, List.setIfInBounds_toArray, List.set_cons_zero, List.set_cons_succ]
            refine wpAnyH_take (i := 10) (oi := { dst := some 74, op := Go.Op.pick (Go.Operand.tmp 66) (Go.Operand.const (Go.Value.bool true)) (Go.Operand.tmp 73), type := 4, pos := "more.go:55", after := #[{ on := 2, ground := Go.Ground.data }, { on := 9, ground := Go.Ground.data }], guard := none }) (v := ?v10) rfl (by kernel_rfl) (by kernel_rfl) (by kernel_rfl) (fun _ _ _ h => h) (Or.inl ⟨by rfl, ?hy10⟩) (by assumption) ?rest10
            case hy10 => (intro w hSw; (try dsimp only at hSw); have ecyb0 := hSw.cell cyb0 id; have ecyb1 := hSw.cell cyb1 id; have ecyb2 := hSw.cell cyb2 id; have ecyb3 := hSw.cell cyb3 id; have ecyb4 := hSw.cell cyb4 id; have ecyb5 := hSw.cell cyb5 id; have ecyb6 := hSw.cell cyb6 id; have ecyb7 := hSw.cell cyb7 id; have ecyb8 := hSw.cell cyb8 id; have ecyb9 := hSw.cell cyb9 id; have eco0 := hSw.cell co0 id; have eco1 := hSw.cell co1 id; have eco2 := hSw.cell co2 id; have eco3 := hSw.cell co3 id; have eco4 := hSw.cell co4 id; have eco5 := hSw.cell co5 id; have eco6 := hSw.cell co6 id; have eco7 := hSw.cell co7 id; have eco8 := hSw.cell co8 id; have eco9 := hSw.cell co9 id; go_simp <;> with_reducible rfl)
            try simp only [Act.put, List.setIfInBounds_toArray, List.set_cons_zero, List.set_cons_succ]
            refine wpAnyH_done (by kernel_rfl) ?_ _
            have hx := hS1
            clear hS0 hS1 cyb0 cyb1 cyb2 cyb3 cyb4 cyb5 cyb6 cyb7 cyb8 cyb9 co0 co1 co2 co3 co4 co5 co6 co7 co8 co9
            have HX_w7 := Lib.hid hx
            clear hx
            have cyb9 := row_cell (k := 9) (v := .slice A5 xb.length xb.length) ((HX_w7.out.block yb (row_lt B_yb.out) id).trans B_yb.out) rfl
            obtain ⟨n, hn⟩ : ∃ n, n = 20 + xb.length := ⟨_, rfl⟩
            have hni : (20 : Int) + (xb.length : Int) = (n : Int) := by omega
            have hml2 := HML.out
            try simp only at hml2
            have hnm : n ≤ m.length := by omega
            clear hml2
            have hnm' : (n : Int) ≤ (m.length : Int) := by omega
            have hcm : m.length ≤ c3 := by obtain ⟨_, _, _, e, h, _⟩ := hrm.out; injection e with _ _ e3; rw [e3]; exact h
            have hdrop := hrm.out.drop n hnm
            have hdl : (m.drop n).length = m.length - n := List.length_drop
            have HDL := Lib.hid hdl
            have hde : m.drop n = pbs (os.drop (k + 1)) := by rw [hn]; exact HDR.out
            have HDE := Lib.hid hde
            have HRD := Lib.hid hdrop
            clear hdrop hdl hde hn
            by_cases hcn : c3 = n
            · have hmn : m.drop n = [] := List.drop_eq_nil_of_le (by omega)
              have HMN := Lib.hid hmn
              have HLN : Hid (m.length - n = 0) := Lib.hid (by omega)
              clear hmn
              go_wp2_with fail
              go_roundw
              case rel =>
                refine ⟨k + 1, o2, 0, [], by omega, by go_num, ?_, by simp, Lib.hid (HMN.out.symm.trans HDE.out), Lib.hid ⟨by simp, _, _, rfl, by simp, fun i h => absurd h (by simp)⟩, Lib.hid (((hxl.out.trans HX_w5.out).trans HX_w6.out).trans HX_w7.out)⟩
                simp [HLN.out]
              case measure => simp [intOf]; omega
            · go_wp2_with fail
              go_roundw
              case rel =>
                refine ⟨k + 1, o2 + n, c3 - n, m.drop n, by omega, by go_num, by rw [HDL.out], by rw [HDL.out]; omega, HDE, ?_, Lib.hid (((hxl.out.trans HX_w5.out).trans HX_w6.out).trans HX_w7.out)⟩
                exact Lib.hid (HRD.out.keep ((HX_w5.out.trans HX_w6.out).trans HX_w7.out) (fun _ _ _ => id))
              case measure => simp [intOf]; omega
          ·
            obtain rfl : m = [] := hm.out.trans (pbs_end os k (by omega))
            have hp0 : perr ([] : List UInt8) = some ([lay5, lay1], 2) := if_pos (by decide)
            go_wp2_with fail
            refine (ipparse_no _ (some ⟨g, o2, none⟩) 0 c3 [] wr hrm.out (fun h => by cases h) (by simp) _ _ hp0).mono ?_
            rintro e w5 ⟨t5, y5, rfl, he, hx⟩
            clear hp0
            have HX_w5 := Lib.hid hx
            clear hx
            have HE5 := Lib.hid he
            clear he
            have hv : pkv zpk (.slice none 0 0) = .agg #[.int .u8 0, .int .u16 0, .bool false, .bool false, .int .i64 0, .int .u8 0, .int .u8 0, .int .u32 0, .int .u32 0, .slice none 0 0] := rfl
            rw [hv]
            clear hv
            go_upto_region 21 with fail
            have hx : Ex (fun _ => False) w5 (w5.alloc (.cells #[.int .u8 0, .int .u16 0, .bool false, .bool false, .int .i64 0, .int .u8 0, .int .u8 0, .int .u32 0, .int .u32 0, .slice none 0 0] 51)) := (Ex.refl _ w5).alloc _
            have hb : (w5.alloc (.cells #[.int .u8 0, .int .u16 0, .bool false, .bool false, .int .i64 0, .int .u8 0, .int .u8 0, .int .u32 0, .int .u32 0, .slice none 0 0] 51)).heap[w5.heap.size]? = some (.cells #[.int .u8 0, .int .u16 0, .bool false, .bool false, .int .i64 0, .int .u8 0, .int .u8 0, .int .u32 0, .int .u32 0, .slice none 0 0] 51) := heap_alloc_new w5 _
            obtain ⟨zb, hzb⟩ : ∃ zb, zb = w5.heap.size := ⟨_, rfl⟩
            have hb_zb : w5.heap.size ≤ zb := by omega
            rw [← hzb] at hb
            try simp only [← hzb]
            generalize w5.alloc (.cells #[.int .u8 0, .int .u16 0, .bool false, .bool false, .int .i64 0, .int .u8 0, .int .u8 0, .int .u32 0, .int .u32 0, .slice none 0 0] 51) = w6 at hx hb ⊢
            clear hzb
            have HX_w6 := Lib.hid hx
            clear hx
            have B_zb := Lib.hid hb
            clear hb
            go_wp2_with fail
            refine (code_any _ [lay5, lay1] 2 _ w6 (EC.keep HX_w6.out (fun _ _ => id) HE5.out) (HG.out.keep ((((HX_w1.out.trans hxr.out).trans hxl.out).trans HX_w5.out).trans HX_w6.out) id)).mono ?_
            rintro e w7 ⟨rfl, hx⟩
            have HX_w7 := Lib.hid hx
            clear hx
            go_wp2_with fail
            go_ret
            exact ⟨rfl, (((((HX_w1.out.trans hxr.out).trans hxl.out).trans HX_w5.out).trans HX_w6.out).trans HX_w7.out)⟩
    ·
      go_wp2_with fail
      have hq0 := Lib.hid hob.out.rb.any
      have hx0 := Lib.hid (Ex.refl (fun _ => False) wr)
      go_loopw [5, 10] (fun all i wl => ∃ (k o2 c2 : Nat) (m : List UInt8), k ≤ os.length ∧ i = .int .i64 (k : Int) ∧ all = .slice (some ⟨g, o2, none⟩) m.length c2 ∧ m.length ≤ 1320 ∧ Hid (m = pbs (os.drop k)) ∧ Hid (RB wl (fun _ => True) (.slice (some ⟨g, o2, none⟩) m.length c2) m) ∧ Hid (Ex (fun _ => False) wr wl)) (fun _ i _ => os.length - (intOf i).toNat)
      case atStart => exact ⟨0, 0, c2, l, by omega, rfl, rfl, by omega, hlo, hq0, hx0⟩
      case round =>
        clear hx0 hq0
        obtain ⟨k, o2, c3, m, hk, rfl, rfl, hm1, hm, hrm, hxl⟩ := hrel
        by_cases dk : k < os.length
        ·
          have hmem := hos.out os[k] (List.getElem_mem dk)
          obtain ⟨go, cg, hv4, hcg, hget⟩ := hop.out.get k dk
          injection hv4 with hA hn4 hc4
          subst hA hc4
          clear hn4
          have hme := hm.out.trans (pbs_drop os k dk)
          obtain ⟨q, hq⟩ : ∃ q, q = os[k] := ⟨_, rfl⟩
          rw [← hq] at hmem hget hme
          clear hq
          obtain ⟨q, Aq, cq⟩ := q
          obtain ⟨okq, rtq, lnq, rbq⟩ := hmem
          obtain ⟨hp1, hp2⟩ := pb_back okq rtq (pbs (os.drop (k + 1)))
          rw [← hme] at hp1 hp2
          have hpl := pb_len q
          have hml : m.length = (pb q).length + (pbs (os.drop (k + 1))).length := by rw [hme, List.length_append]
          have hdr : m.drop (20 + q.b.length) = pbs (os.drop (k + 1)) := by rw [hme, ← hpl]; simp
          have hml2 : 20 + q.b.length ≤ m.length := by omega
          have HML := Lib.hid hml2
          have HDR := Lib.hid hdr
          have OKQ := Lib.hid okq
          have HQ := Lib.hid rbq
          have HGT := Lib.hid hget
          clear hme hdr okq rtq rbq hget hml hpl hml2
          go_wp2_with fail
          refine (ipparse_yes _ (some ⟨g, o2, none⟩) m.length c3 m wr hrm.out (fun h => by cases h) (by omega) q hp1 hp2).mono ?_
          rintro e w5 ⟨A5, g5, o5, rfl, hg5, hb5, _, hx⟩
          clear hp1 hp2
          obtain ⟨xtos, xid, xdf, xmf, xoff, xttl, xpr, xsrc, xdst, xb⟩ := q
          simp only at lnq
          have hv : pkv (⟨xtos, xid, xdf, xmf, xoff, xttl, xpr, xsrc, xdst, xb⟩ : Pk) (.slice A5 (⟨xtos, xid, xdf, xmf, xoff, xttl, xpr, xsrc, xdst, xb⟩ : Pk).b.length (⟨xtos, xid, xdf, xmf, xoff, xttl, xpr, xsrc, xdst, xb⟩ : Pk).b.length) = .agg #[.int .u8 xtos, .int .u16 xid, .bool xdf, .bool xmf, .int .i64 xoff, .int .u8 xttl, .int .u8 xpr, .int .u32 xsrc, .int .u32 xdst, .slice A5 xb.length xb.length] := rfl
          rw [hv]
          clear hv
          have HX_w5 := Lib.hid hx
          clear hx
          have HB5 := Lib.hid hb5
          clear hb5
          go_upto_region 17 with fail
          have hx : Ex (fun _ => False) w5 (w5.alloc (.cells #[.int .u8 xtos, .int .u16 xid, .bool xdf, .bool xmf, .int .i64 xoff, .int .u8 xttl, .int .u8 xpr, .int .u32 xsrc, .int .u32 xdst, .slice A5 xb.length xb.length] 51)) := (Ex.refl _ w5).alloc _
          have hb : (w5.alloc (.cells #[.int .u8 xtos, .int .u16 xid, .bool xdf, .bool xmf, .int .i64 xoff, .int .u8 xttl, .int .u8 xpr, .int .u32 xsrc, .int .u32 xdst, .slice A5 xb.length xb.length] 51)).heap[w5.heap.size]? = some (.cells #[.int .u8 xtos, .int .u16 xid, .bool xdf, .bool xmf, .int .i64 xoff, .int .u8 xttl, .int .u8 xpr, .int .u32 xsrc, .int .u32 xdst, .slice A5 xb.length xb.length] 51) := heap_alloc_new w5 _
          obtain ⟨yb, hyb⟩ : ∃ yb, yb = w5.heap.size := ⟨_, rfl⟩
          have hb_yb : w5.heap.size ≤ yb := by omega
          rw [← hyb] at hb
          try simp only [← hyb]
          generalize w5.alloc (.cells #[.int .u8 xtos, .int .u16 xid, .bool xdf, .bool xmf, .int .i64 xoff, .int .u8 xttl, .int .u8 xpr, .int .u32 xsrc, .int .u32 xdst, .slice A5 xb.length xb.length] 51) = w6 at hx hb ⊢
          clear hyb
          have HX_w6 := Lib.hid hx
          clear hx
          have B_yb := Lib.hid hb
          clear hb
          have cyb0 := row_cell (k := 0) (v := .int .u8 xtos) B_yb.out rfl
          have cyb1 := row_cell (k := 1) (v := .int .u16 xid) B_yb.out rfl
          have cyb2 := row_cell (k := 2) (v := .bool xdf) B_yb.out rfl
          have cyb3 := row_cell (k := 3) (v := .bool xmf) B_yb.out rfl
          have cyb4 := row_cell (k := 4) (v := .int .i64 xoff) B_yb.out rfl
          have cyb5 := row_cell (k := 5) (v := .int .u8 xttl) B_yb.out rfl
          have cyb6 := row_cell (k := 6) (v := .int .u8 xpr) B_yb.out rfl
          have cyb7 := row_cell (k := 7) (v := .int .u32 xsrc) B_yb.out rfl
          have cyb8 := row_cell (k := 8) (v := .int .u32 xdst) B_yb.out rfl
          have cyb9 := row_cell (k := 9) (v := .slice A5 xb.length xb.length) B_yb.out rfl
          replace HB5 := Lib.hid (RB.keep HB5.out HX_w6.out (fun _ _ _ => id))
          have hqk := (RB.keep HQ.out ((((HX_w1.out.trans hxr.out).trans hxl.out).trans HX_w5.out).trans HX_w6.out) (fun _ _ _ => id))
          have HQK := Lib.hid hqk
          clear hqk
          have co0 : w6.cell? ⟨go, k * 10 + 0, none⟩ = some (.int .u8 xtos) := ((hxl.out.trans HX_w5.out).trans HX_w6.out).cell (HGT.out 0 _ rfl) id
          have co1 : w6.cell? ⟨go, k * 10 + 1, none⟩ = some (.int .u16 xid) := ((hxl.out.trans HX_w5.out).trans HX_w6.out).cell (HGT.out 1 _ rfl) id
          have co2 : w6.cell? ⟨go, k * 10 + 2, none⟩ = some (.bool xdf) := ((hxl.out.trans HX_w5.out).trans HX_w6.out).cell (HGT.out 2 _ rfl) id
          have co3 : w6.cell? ⟨go, k * 10 + 3, none⟩ = some (.bool xmf) := ((hxl.out.trans HX_w5.out).trans HX_w6.out).cell (HGT.out 3 _ rfl) id
          have co4 : w6.cell? ⟨go, k * 10 + 4, none⟩ = some (.int .i64 xoff) := ((hxl.out.trans HX_w5.out).trans HX_w6.out).cell (HGT.out 4 _ rfl) id
          have co5 : w6.cell? ⟨go, k * 10 + 5, none⟩ = some (.int .u8 xttl) := ((hxl.out.trans HX_w5.out).trans HX_w6.out).cell (HGT.out 5 _ rfl) id
          have co6 : w6.cell? ⟨go, k * 10 + 6, none⟩ = some (.int .u8 xpr) := ((hxl.out.trans HX_w5.out).trans HX_w6.out).cell (HGT.out 6 _ rfl) id
          have co7 : w6.cell? ⟨go, k * 10 + 7, none⟩ = some (.int .u32 xsrc) := ((hxl.out.trans HX_w5.out).trans HX_w6.out).cell (HGT.out 7 _ rfl) id
          have co8 : w6.cell? ⟨go, k * 10 + 8, none⟩ = some (.int .u32 xdst) := ((hxl.out.trans HX_w5.out).trans HX_w6.out).cell (HGT.out 8 _ rfl) id
          have co9 : w6.cell? ⟨go, k * 10 + 9, none⟩ = some (.slice Aq xb.length cq) := ((hxl.out.trans HX_w5.out).trans HX_w6.out).cell (HGT.out 9 _ rfl) id
          try simp only [Nat.add_zero] at co0
          have hdi : (k : Int) < (os.length : Int) := by omega
          have hd0 : k ≤ os.length := by omega
          have hS0 : Ex (fun _ => False) w6 w6.drew := (Ex.refl _ w6).drew
          refine wp_region_held_drew (S := fun W => Ex (fun _ => False) w6 W) (by kernel_rfl) hS0 (fun _ => ?_)
          refine wpAnyH_take (i := 0) (oi := { dst := some 64, op := Go.Op.move (Go.Operand.tmp 12), type := 29, pos := "more.go:55", after := #[], guard := none }) (v := ?v11) rfl (by kernel_rfl) (by kernel_rfl) (by kernel_rfl) (fun _ _ _ h => h) (Or.inl ⟨by rfl, ?hy11⟩) (by assumption) ?rest11
          case hy11 => (intro w hSw; (try dsimp only at hSw); have ecyb0 := hSw.cell cyb0 id; have ecyb1 := hSw.cell cyb1 id; have ecyb2 := hSw.cell cyb2 id; have ecyb3 := hSw.cell cyb3 id; have ecyb4 := hSw.cell cyb4 id; have ecyb5 := hSw.cell cyb5 id; have ecyb6 := hSw.cell cyb6 id; have ecyb7 := hSw.cell cyb7 id; have ecyb8 := hSw.cell cyb8 id; have ecyb9 := hSw.cell cyb9 id; have eco0 := hSw.cell co0 id; have eco1 := hSw.cell co1 id; have eco2 := hSw.cell co2 id; have eco3 := hSw.cell co3 id; have eco4 := hSw.cell co4 id; have eco5 := hSw.cell co5 id; have eco6 := hSw.cell co6 id; have eco7 := hSw.cell co7 id; have eco8 := hSw.cell co8 id; have eco9 := hSw.cell co9 id; go_simp <;> with_reducible rfl)
          try simp only [Act.put, List.setIfInBounds_toArray, List.set_cons_zero, List.set_cons_succ]
          refine wpAnyH_take (i := 1) (oi := { dst := some 65, op := Go.Op.binOp Go.BinOp.neq 29 (Go.Operand.tmp 64) (Go.Operand.const Go.Value.nilIface) 29, type := 4, pos := "more.go:55", after := #[{ on := 0, ground := Go.Ground.data }], guard := none }) (v := ?v12) rfl (by kernel_rfl) (by kernel_rfl) (by kernel_rfl) (fun _ _ _ h => h) (Or.inl ⟨by rfl, ?hy12⟩) (by assumption) ?rest12
          case hy12 => (intro w hSw; (try dsimp only at hSw); have ecyb0 := hSw.cell cyb0 id; have ecyb1 := hSw.cell cyb1 id; have ecyb2 := hSw.cell cyb2 id; have ecyb3 := hSw.cell cyb3 id; have ecyb4 := hSw.cell cyb4 id; have ecyb5 := hSw.cell cyb5 id; have ecyb6 := hSw.cell cyb6 id; have ecyb7 := hSw.cell cyb7 id; have ecyb8 := hSw.cell cyb8 id; have ecyb9 := hSw.cell cyb9 id; have eco0 := hSw.cell co0 id; have eco1 := hSw.cell co1 id; have eco2 := hSw.cell co2 id; have eco3 := hSw.cell co3 id; have eco4 := hSw.cell co4 id; have eco5 := hSw.cell co5 id; have eco6 := hSw.cell co6 id; have eco7 := hSw.cell co7 id; have eco8 := hSw.cell co8 id; have eco9 := hSw.cell co9 id; go_simp <;> with_reducible rfl)
          try simp only [Act.put, List.setIfInBounds_toArray, List.set_cons_zero, List.set_cons_succ]
          refine wpAnyH_take (i := 2) (oi := { dst := some 66, op := Go.Op.move (Go.Operand.tmp 65), type := 4, pos := "more.go:55", after := #[{ on := 1, ground := Go.Ground.data }], guard := none }) (v := ?v13) rfl (by kernel_rfl) (by kernel_rfl) (by kernel_rfl) (fun _ _ _ h => h) (Or.inl ⟨by rfl, ?hy13⟩) (by assumption) ?rest13
          case hy13 => (intro w hSw; (try dsimp only at hSw); have ecyb0 := hSw.cell cyb0 id; have ecyb1 := hSw.cell cyb1 id; have ecyb2 := hSw.cell cyb2 id; have ecyb3 := hSw.cell cyb3 id; have ecyb4 := hSw.cell cyb4 id; have ecyb5 := hSw.cell cyb5 id; have ecyb6 := hSw.cell cyb6 id; have ecyb7 := hSw.cell cyb7 id; have ecyb8 := hSw.cell cyb8 id; have ecyb9 := hSw.cell cyb9 id; have eco0 := hSw.cell co0 id; have eco1 := hSw.cell co1 id; have eco2 := hSw.cell co2 id; have eco3 := hSw.cell co3 id; have eco4 := hSw.cell co4 id; have eco5 := hSw.cell co5 id; have eco6 := hSw.cell co6 id; have eco7 := hSw.cell co7 id; have eco8 := hSw.cell co8 id; have eco9 := hSw.cell co9 id; go_simp <;> with_reducible rfl)
          try simp only [Act.put, List.setIfInBounds_toArray, List.set_cons_zero, List.set_cons_succ]
          refine wpAnyH_take (i := 3) (oi := { dst := some 67, op := Go.Op.load 51 (Go.Operand.tmp 11), type := 51, pos := "more.go:55", after := #[{ on := 2, ground := Go.Ground.guard }], guard := some (2, false) }) (v := ?v14) rfl (by kernel_rfl) (by kernel_rfl) (by kernel_rfl) (fun _ _ _ h => h) (Or.inl ⟨by rfl, ?hy14⟩) (by assumption) ?rest14
          case hy14 => (intro w hSw; (try dsimp only at hSw); have ecyb0 := hSw.cell cyb0 id; have ecyb1 := hSw.cell cyb1 id; have ecyb2 := hSw.cell cyb2 id; have ecyb3 := hSw.cell cyb3 id; have ecyb4 := hSw.cell cyb4 id; have ecyb5 := hSw.cell cyb5 id; have ecyb6 := hSw.cell cyb6 id; have ecyb7 := hSw.cell cyb7 id; have ecyb8 := hSw.cell cyb8 id; have ecyb9 := hSw.cell cyb9 id; have eco0 := hSw.cell co0 id; have eco1 := hSw.cell co1 id; have eco2 := hSw.cell co2 id; have eco3 := hSw.cell co3 id; have eco4 := hSw.cell co4 id; have eco5 := hSw.cell co5 id; have eco6 := hSw.cell co6 id; have eco7 := hSw.cell co7 id; have eco8 := hSw.cell co8 id; have eco9 := hSw.cell co9 id; go_simp <;> with_reducible rfl)
          try simp only [Act.put, List.setIfInBounds_toArray, List.set_cons_zero, List.set_cons_succ]
          refine wpAnyH_take (i := 4) (oi := { dst := some 68, op := Go.Op.move (Go.Operand.tmp 4), type := 70, pos := "more.go:55", after := #[{ on := 2, ground := Go.Ground.guard }], guard := some (2, false) }) (v := ?v15) rfl (by kernel_rfl) (by kernel_rfl) (by kernel_rfl) (fun _ _ _ h => h) (Or.inl ⟨by rfl, ?hy15⟩) (by assumption) ?rest15
          case hy15 => (intro w hSw; (try dsimp only at hSw); have ecyb0 := hSw.cell cyb0 id; have ecyb1 := hSw.cell cyb1 id; have ecyb2 := hSw.cell cyb2 id; have ecyb3 := hSw.cell cyb3 id; have ecyb4 := hSw.cell cyb4 id; have ecyb5 := hSw.cell cyb5 id; have ecyb6 := hSw.cell cyb6 id; have ecyb7 := hSw.cell cyb7 id; have ecyb8 := hSw.cell cyb8 id; have ecyb9 := hSw.cell cyb9 id; have eco0 := hSw.cell co0 id; have eco1 := hSw.cell co1 id; have eco2 := hSw.cell co2 id; have eco3 := hSw.cell co3 id; have eco4 := hSw.cell co4 id; have eco5 := hSw.cell co5 id; have eco6 := hSw.cell co6 id; have eco7 := hSw.cell co7 id; have eco8 := hSw.cell co8 id; have eco9 := hSw.cell co9 id; go_simp <;> with_reducible rfl)
          try simp only [Act.put, List.setIfInBounds_toArray, List.set_cons_zero, List.set_cons_succ]
          refine wpAnyH_take (i := 5) (oi := { dst := some 69, op := Go.Op.move (Go.Operand.tmp 10), type := 3, pos := "more.go:55", after := #[{ on := 2, ground := Go.Ground.guard }], guard := some (2, false) }) (v := ?v16) rfl (by kernel_rfl) (by kernel_rfl) (by kernel_rfl) (fun _ _ _ h => h) (Or.inl ⟨by rfl, ?hy16⟩) (by assumption) ?rest16
          case hy16 => (intro w hSw; (try dsimp only at hSw); have ecyb0 := hSw.cell cyb0 id; have ecyb1 := hSw.cell cyb1 id; have ecyb2 := hSw.cell cyb2 id; have ecyb3 := hSw.cell cyb3 id; have ecyb4 := hSw.cell cyb4 id; have ecyb5 := hSw.cell cyb5 id; have ecyb6 := hSw.cell cyb6 id; have ecyb7 := hSw.cell cyb7 id; have ecyb8 := hSw.cell cyb8 id; have ecyb9 := hSw.cell cyb9 id; have eco0 := hSw.cell co0 id; have eco1 := hSw.cell co1 id; have eco2 := hSw.cell co2 id; have eco3 := hSw.cell co3 id; have eco4 := hSw.cell co4 id; have eco5 := hSw.cell co5 id; have eco6 := hSw.cell co6 id; have eco7 := hSw.cell co7 id; have eco8 := hSw.cell co8 id; have eco9 := hSw.cell co9 id; go_simp <;> with_reducible rfl)
          try simp only [Act.put, List.setIfInBounds_toArray, List.set_cons_zero, List.set_cons_succ]
          refine wpAnyH_take (i := 6) (oi := { dst := some 70, op := Go.Op.indexAddr 70 (Go.Operand.tmp 68) (Go.Operand.tmp 69), type := 0, pos := "more.go:55", after := #[{ on := 4, ground := Go.Ground.data }, { on := 5, ground := Go.Ground.data }, { on := 2, ground := Go.Ground.guard }], guard := some (2, false) }) (v := ?v17) rfl (by kernel_rfl) (by kernel_rfl) (by kernel_rfl) (fun _ _ _ h => h) (Or.inl ⟨by rfl, ?hy17⟩) (by assumption) ?rest17
          case hy17 => (intro w hSw; (try dsimp only at hSw); have ecyb0 := hSw.cell cyb0 id; have ecyb1 := hSw.cell cyb1 id; have ecyb2 := hSw.cell cyb2 id; have ecyb3 := hSw.cell cyb3 id; have ecyb4 := hSw.cell cyb4 id; have ecyb5 := hSw.cell cyb5 id; have ecyb6 := hSw.cell cyb6 id; have ecyb7 := hSw.cell cyb7 id; have ecyb8 := hSw.cell cyb8 id; have ecyb9 := hSw.cell cyb9 id; have eco0 := hSw.cell co0 id; have eco1 := hSw.cell co1 id; have eco2 := hSw.cell co2 id; have eco3 := hSw.cell co3 id; have eco4 := hSw.cell co4 id; have eco5 := hSw.cell co5 id; have eco6 := hSw.cell co6 id; have eco7 := hSw.cell co7 id; have eco8 := hSw.cell co8 id; have eco9 := hSw.cell co9 id; go_simp <;> with_reducible rfl)
          try simp only [Act.put, List.setIfInBounds_toArray, List.set_cons_zero, List.set_cons_succ]
          refine wpAnyH_take (i := 7) (oi := { dst := some 71, op := Go.Op.load 51 (Go.Operand.tmp 70), type := 51, pos := "more.go:55", after := #[{ on := 6, ground := Go.Ground.data }, { on := 2, ground := Go.Ground.guard }], guard := some (2, false) }) (v := ?v18) rfl (by kernel_rfl) (by kernel_rfl) (by kernel_rfl) (fun _ _ _ h => h) (Or.inl ⟨by rfl, ?hy18⟩) (by assumption) ?rest18
          case hy18 => (intro w hSw; (try dsimp only at hSw); have ecyb0 := hSw.cell cyb0 id; have ecyb1 := hSw.cell cyb1 id; have ecyb2 := hSw.cell cyb2 id; have ecyb3 := hSw.cell cyb3 id; have ecyb4 := hSw.cell cyb4 id; have ecyb5 := hSw.cell cyb5 id; have ecyb6 := hSw.cell cyb6 id; have ecyb7 := hSw.cell cyb7 id; have ecyb8 := hSw.cell cyb8 id; have ecyb9 := hSw.cell cyb9 id; have eco0 := hSw.cell co0 id; have eco1 := hSw.cell co1 id; have eco2 := hSw.cell co2 id; have eco3 := hSw.cell co3 id; have eco4 := hSw.cell co4 id; have eco5 := hSw.cell co5 id; have eco6 := hSw.cell co6 id; have eco7 := hSw.cell co7 id; have eco8 := hSw.cell co8 id; have eco9 := hSw.cell co9 id; go_simp <;> with_reducible rfl)
          try simp only [Act.put, List.setIfInBounds_toArray, List.set_cons_zero, List.set_cons_succ]
          refine wpAnyH_ready (rs := [8]) (by kernel_rfl) (by simp) ?_
          refine AllReadyH.cons (o := { dst := some 72, op := Go.Op.call { callee := Go.Callee.value (Go.Operand.func 32), args := #[Go.Operand.tmp 67, Go.Operand.tmp 71], argTypes := #[51, 51] }, type := 4, pos := "more.go:55", after := #[{ on := 3, ground := Go.Ground.data }, { on := 7, ground := Go.Ground.data }, { on := 2, ground := Go.Ground.chain }, { on := 2, ground := Go.Ground.guard }], guard := some (2, false) }) rfl (fun K hK => ?_) AllReadyH.nil
          go_simp
          refine (same_any _ _ (⟨xtos, xid, xdf, xmf, xoff, xttl, xpr, xsrc, xdst, xb⟩ : Pk) (⟨xtos, xid, xdf, xmf, xoff, xttl, xpr, xsrc, xdst, xb⟩ : Pk) A5 Aq xb.length cq _ OKQ.out OKQ.out (RB.keep HB5.out hS0 (fun _ _ _ => id)) (RB.keep HQK.out hS0 (fun _ _ _ => id))).mono ?_
          rintro e w7 ⟨rfl, hx⟩
          rw [Pk.eqB_self]
          have hS1 := hS0.trans hx
          clear hx
          refine hK.out _ _ hS1 (fun _ => ?_)
          refine wpAnyH_take (i := 9) (oi := { dst := some 73, op := Go.Op.unOp Go.UnOp.not 4 (Go.Operand.tmp 72), type := 4, pos := "more.go:55", after := #[{ on := 8, ground := Go.Ground.data }, { on := 2, ground := Go.Ground.guard }], guard := some (2, false) }) (v := ?v19) rfl (by kernel_rfl) (by kernel_rfl) (by kernel_rfl) (fun _ _ _ h => h) (Or.inl ⟨by rfl, ?hy19⟩) (by assumption) ?rest19
          case hy19 => (intro w hSw; (try dsimp only at hSw); have ecyb0 := hSw.cell cyb0 id; have ecyb1 := hSw.cell cyb1 id; have ecyb2 := hSw.cell cyb2 id; have ecyb3 := hSw.cell cyb3 id; have ecyb4 := hSw.cell cyb4 id; have ecyb5 := hSw.cell cyb5 id; have ecyb6 := hSw.cell cyb6 id; have ecyb7 := hSw.cell cyb7 id; have ecyb8 := hSw.cell cyb8 id; have ecyb9 := hSw.cell cyb9 id; have eco0 := hSw.cell co0 id; have eco1 := hSw.cell co1 id; have eco2 := hSw.cell co2 id; have eco3 := hSw.cell co3 id; have eco4 := hSw.cell co4 id; have eco5 := hSw.cell co5 id; have eco6 := hSw.cell co6 id; have eco7 := hSw.cell co7 id; have eco8 := hSw.cell co8 id; have eco9 := hSw.cell co9 id; go_simp <;> with_reducible rfl)
          try simp only [Act.put, List.setIfInBounds_toArray, List.set_cons_zero, List.set_cons_succ]
          refine wpAnyH_take (i := 10) (oi := { dst := some 74, op := Go.Op.pick (Go.Operand.tmp 66) (Go.Operand.const (Go.Value.bool true)) (Go.Operand.tmp 73), type := 4, pos := "more.go:55", after := #[{ on := 2, ground := Go.Ground.data }, { on := 9, ground := Go.Ground.data }], guard := none }) (v := ?v20) rfl (by kernel_rfl) (by kernel_rfl) (by kernel_rfl) (fun _ _ _ h => h) (Or.inl ⟨by rfl, ?hy20⟩) (by assumption) ?rest20
          case hy20 => (intro w hSw; (try dsimp only at hSw); have ecyb0 := hSw.cell cyb0 id; have ecyb1 := hSw.cell cyb1 id; have ecyb2 := hSw.cell cyb2 id; have ecyb3 := hSw.cell cyb3 id; have ecyb4 := hSw.cell cyb4 id; have ecyb5 := hSw.cell cyb5 id; have ecyb6 := hSw.cell cyb6 id; have ecyb7 := hSw.cell cyb7 id; have ecyb8 := hSw.cell cyb8 id; have ecyb9 := hSw.cell cyb9 id; have eco0 := hSw.cell co0 id; have eco1 := hSw.cell co1 id; have eco2 := hSw.cell co2 id; have eco3 := hSw.cell co3 id; have eco4 := hSw.cell co4 id; have eco5 := hSw.cell co5 id; have eco6 := hSw.cell co6 id; have eco7 := hSw.cell co7 id; have eco8 := hSw.cell co8 id; have eco9 := hSw.cell co9 id; go_simp <;> with_reducible rfl)
          try simp only [Act.put, List.setIfInBounds_toArray, List.set_cons_zero, List.set_cons_succ]
          refine wpAnyH_done (by kernel_rfl) ?_ _
          have hx := hS1
          clear hS0 hS1 cyb0 cyb1 cyb2 cyb3 cyb4 cyb5 cyb6 cyb7 cyb8 cyb9 co0 co1 co2 co3 co4 co5 co6 co7 co8 co9
          have HX_w7 := Lib.hid hx
          clear hx
          have cyb9 := row_cell (k := 9) (v := .slice A5 xb.length xb.length) ((HX_w7.out.block yb (row_lt B_yb.out) id).trans B_yb.out) rfl
          obtain ⟨n, hn⟩ : ∃ n, n = 20 + xb.length := ⟨_, rfl⟩
          have hni : (20 : Int) + (xb.length : Int) = (n : Int) := by omega
          have hml2 := HML.out
          try simp only at hml2
          have hnm : n ≤ m.length := by omega
          clear hml2
          have hnm' : (n : Int) ≤ (m.length : Int) := by omega
          have hcm : m.length ≤ c3 := by obtain ⟨_, _, _, e, h, _⟩ := hrm.out; injection e with _ _ e3; rw [e3]; exact h
          have hdrop := hrm.out.drop n hnm
          have hdl : (m.drop n).length = m.length - n := List.length_drop
          have HDL := Lib.hid hdl
          have hde : m.drop n = pbs (os.drop (k + 1)) := by rw [hn]; exact HDR.out
          have HDE := Lib.hid hde
          have HRD := Lib.hid hdrop
          clear hdrop hdl hde hn
          by_cases hcn : c3 = n
          · have hmn : m.drop n = [] := List.drop_eq_nil_of_le (by omega)
            have HMN := Lib.hid hmn
            have HLN : Hid (m.length - n = 0) := Lib.hid (by omega)
            clear hmn
            go_wp2_with fail
            go_roundw
            case rel =>
              refine ⟨k + 1, o2, 0, [], by omega, by go_num, ?_, by simp, Lib.hid (HMN.out.symm.trans HDE.out), Lib.hid ⟨by simp, _, _, rfl, by simp, fun i h => absurd h (by simp)⟩, Lib.hid (((hxl.out.trans HX_w5.out).trans HX_w6.out).trans HX_w7.out)⟩
              simp [HLN.out]
            case measure => simp [intOf]; omega
          · go_wp2_with fail
            go_roundw
            case rel =>
              refine ⟨k + 1, o2 + n, c3 - n, m.drop n, by omega, by go_num, by rw [HDL.out], by rw [HDL.out]; omega, HDE, ?_, Lib.hid (((hxl.out.trans HX_w5.out).trans HX_w6.out).trans HX_w7.out)⟩
              exact Lib.hid (HRD.out.keep ((HX_w5.out.trans HX_w6.out).trans HX_w7.out) (fun _ _ _ => id))
            case measure => simp [intOf]; omega
        ·
          obtain rfl : m = [] := hm.out.trans (pbs_end os k (by omega))
          have hp0 : perr ([] : List UInt8) = some ([lay5, lay1], 2) := if_pos (by decide)
          go_wp2_with fail
          refine (ipparse_no _ (some ⟨g, o2, none⟩) 0 c3 [] wr hrm.out (fun h => by cases h) (by simp) _ _ hp0).mono ?_
          rintro e w5 ⟨t5, y5, rfl, he, hx⟩
          clear hp0
          have HX_w5 := Lib.hid hx
          clear hx
          have HE5 := Lib.hid he
          clear he
          have hv : pkv zpk (.slice none 0 0) = .agg #[.int .u8 0, .int .u16 0, .bool false, .bool false, .int .i64 0, .int .u8 0, .int .u8 0, .int .u32 0, .int .u32 0, .slice none 0 0] := rfl
          rw [hv]
          clear hv
          go_upto_region 21 with fail
          have hx : Ex (fun _ => False) w5 (w5.alloc (.cells #[.int .u8 0, .int .u16 0, .bool false, .bool false, .int .i64 0, .int .u8 0, .int .u8 0, .int .u32 0, .int .u32 0, .slice none 0 0] 51)) := (Ex.refl _ w5).alloc _
          have hb : (w5.alloc (.cells #[.int .u8 0, .int .u16 0, .bool false, .bool false, .int .i64 0, .int .u8 0, .int .u8 0, .int .u32 0, .int .u32 0, .slice none 0 0] 51)).heap[w5.heap.size]? = some (.cells #[.int .u8 0, .int .u16 0, .bool false, .bool false, .int .i64 0, .int .u8 0, .int .u8 0, .int .u32 0, .int .u32 0, .slice none 0 0] 51) := heap_alloc_new w5 _
          obtain ⟨zb, hzb⟩ : ∃ zb, zb = w5.heap.size := ⟨_, rfl⟩
          have hb_zb : w5.heap.size ≤ zb := by omega
          rw [← hzb] at hb
          try simp only [← hzb]
          generalize w5.alloc (.cells #[.int .u8 0, .int .u16 0, .bool false, .bool false, .int .i64 0, .int .u8 0, .int .u8 0, .int .u32 0, .int .u32 0, .slice none 0 0] 51) = w6 at hx hb ⊢
          clear hzb
          have HX_w6 := Lib.hid hx
          clear hx
          have B_zb := Lib.hid hb
          clear hb
          go_wp2_with fail
          refine (code_any _ [lay5, lay1] 2 _ w6 (EC.keep HX_w6.out (fun _ _ => id) HE5.out) (HG.out.keep ((((HX_w1.out.trans hxr.out).trans hxl.out).trans HX_w5.out).trans HX_w6.out) id)).mono ?_
          rintro e w7 ⟨rfl, hx⟩
          have HX_w7 := Lib.hid hx
          clear hx
          go_wp2_with fail
          go_ret
          exact ⟨rfl, (((((HX_w1.out.trans hxr.out).trans hxl.out).trans HX_w5.out).trans HX_w6.out).trans HX_w7.out)⟩
end Go.Proofs.YtfcfpkhcpijkfaaDoor
