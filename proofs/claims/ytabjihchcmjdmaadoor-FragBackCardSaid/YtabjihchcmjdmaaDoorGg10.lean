/-
  Take, second half. By an AI agent.
-/
import Derived.Test.YtabjihchcmjdmaaDoorGd10
import Derived.Test.YtabjihchcmjdmaaDoorGe10
import Derived.Test.YtabjihchcmjdmaaDoorGf10
/-
  slices.ContainsFunc with Take's closure: does a part fight with one that waits? By an AI agent.
-/
namespace Go.Proofs.YtabjihchcmjdmaaDoor
open Go.RowKit Go.Shelf

set_option maxRecDepth 100000 in
theorem tfight_any (P Q : Nat → Prop) (p q : Pk) (A B : Option Addr) (c d pb : Nat) (w : World) (hpb : w.heap[pb]? = some (.cells (ocl (p, A, c)).toArray 27)) (hp : p.sm) (hq : q.sm) (hrp : RB w P (.slice A p.b.length c) p.b) (hrq : RB w Q (.slice B q.b.length d) q.b) :
    Calls Tryd.prog 30 #[pkv q (.slice B q.b.length d), .pointer (some ⟨pb, 0, none⟩)] w fun e w' => e = .returned (.bool (fightsB p q)) ∧ Ex (fun _ => False) w w' := by
  have hf : ∀ W, Ex (fun _ => False) w W → Calls Tryd.prog 31 #[pkv p (.slice A p.b.length c), pkv q (.slice B q.b.length d)] W fun e w' => e = .returned (.bool (fightsB p q)) ∧ Ex (fun _ => False) W w' :=
    fun W hx => fights_any P Q p q A B c d W hp hq (hrp.keep hx (fun _ _ _ => id)) (hrq.keep hx (fun _ _ _ => id))
  obtain ⟨ptos, pid, pdf, pmf, poff, pttl, ppr, psrc, pdst, pby⟩ := p
  obtain ⟨qtos, qid, qdf, qmf, qoff, qttl, qpr, qsrc, qdst, qby⟩ := q
  generalize fightsB _ _ = r at hf ⊢
  have HF := Lib.hid hf
  have B_pb := Lib.hid (show w.heap[pb]? = some (.cells #[.int .u8 ptos, .int .u16 pid, .bool pdf, .bool pmf, .int .i64 poff, .int .u8 pttl, .int .u8 ppr, .int .u32 psrc, .int .u32 pdst, .slice A pby.length c] 27) from hpb)
  clear hf hpb hp hq hrp hrq
  show Calls Tryd.prog 30 #[.agg #[.int .u8 qtos, .int .u16 qid, .bool qdf, .bool qmf, .int .i64 qoff, .int .u8 qttl, .int .u8 qpr, .int .u32 qsrc, .int .u32 qdst, .slice B qby.length d], .pointer (some ⟨pb, 0, none⟩)] w _
  have hx1 : Ex (fun _ => False) w (w.alloc (.cells #[.int .u8 qtos, .int .u16 qid, .bool qdf, .bool qmf, .int .i64 qoff, .int .u8 qttl, .int .u8 qpr, .int .u32 qsrc, .int .u32 qdst, .slice B qby.length d] 27)) := (Ex.refl _ w).alloc _
  have hb1 := (hx1.block pb (row_lt B_pb.out) id).trans B_pb.out
  have c0 := row_cell (k := 0) (v := .int .u8 ptos) hb1 rfl
  have c1 := row_cell (k := 1) (v := .int .u16 pid) hb1 rfl
  have c2 := row_cell (k := 2) (v := .bool pdf) hb1 rfl
  have c3 := row_cell (k := 3) (v := .bool pmf) hb1 rfl
  have c4 := row_cell (k := 4) (v := .int .i64 poff) hb1 rfl
  have c5 := row_cell (k := 5) (v := .int .u8 pttl) hb1 rfl
  have c6 := row_cell (k := 6) (v := .int .u8 ppr) hb1 rfl
  have c7 := row_cell (k := 7) (v := .int .u32 psrc) hb1 rfl
  have c8 := row_cell (k := 8) (v := .int .u32 pdst) hb1 rfl
  have c9 := row_cell (k := 9) (v := .slice A pby.length c) hb1 rfl
  have HX1 := Lib.hid hx1
  clear hx1 hb1
  go_enter Tryd.func30, Tryd.ntmps30
  go_wp2_with fail
  refine (HF.out _ HX1.out).mono ?_
  rintro e w2 ⟨rfl, hx⟩
  have HX2 := Lib.hid hx
  clear hx c0 c1 c2 c3 c4 c5 c6 c7 c8 c9
  go_wp2_with fail
  go_ret
  exact ⟨rfl, HX1.out.trans HX2.out⟩
theorem any_attach {α : Type} {P : α → Prop} (f : α → Bool) : ∀ (l : List α) (h : ∀ x ∈ l, P x), (l.attach.map (fun x => (⟨x.1, h x.1 x.2⟩ : { x : α // P x }))).any (fun y => f y.1) = l.any f := by
  intro l h
  rw [List.any_map]
  show l.attach.any (fun x => f x.1) = _
  rw [Bool.eq_iff_iff, List.any_eq_true, List.any_eq_true]
  constructor
  · rintro ⟨x, _, hx⟩
    exact ⟨x.1, x.2, hx⟩
  · rintro ⟨x, hx, h'⟩
    exact ⟨⟨x, hx⟩, List.mem_attach _ _, h'⟩
theorem con_any (p : Pk) (A : Option Addr) (c pb g cap n : Nat) (os : List Po) (hn : os.length = n) (h0 : 0 < n) (h9 : n ≤ 1000000) (w : World) (hpb : w.heap[pb]? = some (.cells (ocl (p, A, c)).toArray 27)) (hp : p.sm) (hrp : RB w (fun _ => True) (.slice A p.b.length c) p.b)
    (hos : ∀ o ∈ os, o.1.sm ∧ RB w (fun _ => True) (.slice o.2.1 o.1.b.length o.2.2) o.1.b) (hrow : PRow w g os) :
    Calls Tryd.prog 29 #[.slice (some ⟨g, 0, none⟩) n cap, .func (.func 30) #[] #[.pointer (some ⟨pb, 0, none⟩)]] w fun e w' =>
      e = .returned (.bool (os.any fun o => fightsB p o.1)) ∧ Ex (fun _ => False) w w' := by
  subst hn
  let Pr : Po → Prop := fun o => o.1.sm ∧ RB w (fun _ => True) (.slice o.2.1 o.1.b.length o.2.2) o.1.b
  let T := { o : Po // Pr o }
  have hz : Pr (⟨0, 0, false, false, 0, 0, 0, 0, 0, []⟩, none, 0) := ⟨⟨⟨by decide, by decide⟩, by decide⟩, RB.nil _ _⟩
  letI : Inhabited T := ⟨⟨_, hz⟩⟩
  let zs : List T := os.attach.map (fun x => (⟨x.1, hos x.1 x.2⟩ : T))
  have hzl : zs.length = os.length := by simp [zs]
  have hpred : PredBelow Tryd.prog 30 #[.pointer (some ⟨pb, 0, none⟩)] (fun o : T => .agg (ocl o.1).toArray) (fun o => fightsB p o.1.1) w := by
    intro W x hb
    have hx : Ex (fun _ => False) w W := (Ex.ofBelow hb).mono (fun k hk h => by omega)
    refine (tfight_any (fun _ => True) (fun _ => True) p x.1.1 A x.1.2.1 c x.1.2.2 pb W ((hx.block pb (row_lt hpb) id).trans hpb) hp x.2.1 (hrp.keep hx (fun _ _ _ => id)) (x.2.2.keep hx (fun _ _ _ => id))).mono ?_
    rintro e w' ⟨rfl, hx2⟩
    exact ⟨rfl, hb.trans (hx2.below _ hb.size (fun _ _ h => h))⟩
  have hg := hrow.lt h0
  refine (AnyQ.slices_ContainsFunc layCon 10 pk_agg pk_sizeOf (fun o : T => ocl o.1) (fun _ => rfl) (fun o => fightsB p o.1.1) 30 #[.pointer (some ⟨pb, 0, none⟩)] (enters_of Tryd.func30 (by kernel_rfl) rfl) g 0 os.length cap zs w hpred (by rw [hzl]; exact Nat.le_refl _) (by omega) hg ?_).mono ?_
  · intro j hj i v hv
    have hjo : j < os.length := by rw [← hzl]; exact hj
    have hxz : (zs[j]!).1 = os[j] := by rw [getElem!_pos zs j hj]; simp [zs]
    rw [hxz] at hv
    have := hrow j hjo i v hv
    rwa [Nat.zero_add]
  · rintro e w' ⟨rfl, hb⟩
    refine ⟨?_, (Ex.ofBelow hb).mono (fun k hk h => by omega)⟩
    rw [← hzl, List.take_length]
    rw [any_attach (fun o : Po => fightsB p o.1) os hos]
end Go.Proofs.YtabjihchcmjdmaaDoor
/-
  The contract of (*frag.Reass).Take: a part that fights with one that waits. By an AI agent.
-/
namespace Go.Proofs.YtabjihchcmjdmaaDoor
open Go.RowKit

theorem lk_mid {G1 G2 : List Hp} {h0 : Hp} {k : List UInt8} (hk : h0.k = k) (hap : (G1 ++ h0 :: G2).Pairwise (fun a b => a.k ≠ b.k ∧ a.hb ≠ b.hb ∧ a.g ≠ b.g)) : lk ((G1 ++ h0 :: G2).map fun h => (h.k, h.hb)) k = some h0.hb := by
  unfold lk
  rw [List.map_append, List.find?_append, List.map_cons]
  rw [List.pairwise_append] at hap
  have h1 : List.find? (fun x => x.1 == k) (G1.map fun h => (h.k, h.hb)) = none := by
    rw [List.find?_eq_none]
    intro x hx
    obtain ⟨a, ha, rfl⟩ := List.mem_map.1 hx
    have := (hap.2.2 a ha h0 (List.mem_cons_self)).1
    simp
    intro e
    exact this (e.trans hk.symm)
  rw [h1, List.find?_cons_of_pos (by simp [hk])]
  rfl
theorem filter_mid {G1 G2 : List Hp} {h0 : Hp} {k : List UInt8} (hk : h0.k = k) (hap : (G1 ++ h0 :: G2).Pairwise (fun a b => a.k ≠ b.k ∧ a.hb ≠ b.hb ∧ a.g ≠ b.g)) : ((G1 ++ h0 :: G2).map fun h => (h.k, h.hb)).filter (fun x => x.1 != k) = (G1 ++ G2).map fun h => (h.k, h.hb) := by
  rw [List.pairwise_append, List.pairwise_cons] at hap
  have key : ∀ G : List Hp, (∀ a ∈ G, a.k ≠ k) → (G.map fun h => (h.k, h.hb)).filter (fun x => x.1 != k) = G.map fun h => (h.k, h.hb) := by
    intro G hG
    rw [List.filter_eq_self]
    intro x hx
    obtain ⟨a, ha, rfl⟩ := List.mem_map.1 hx
    simp [hG a ha]
  rw [List.map_append, List.map_cons, List.filter_append, List.filter_cons_of_neg (by simp [hk]), key G1 (fun a ha e => (hap.2.2 a ha h0 (List.mem_cons_self)).1 (e.trans hk.symm)), key G2 (fun a ha e => (hap.2.1.1 a ha).1 (hk.trans e.symm)), List.map_append]
theorem drop_mid {G1 G2 : List Hp} {h0 : Hp} {R : Hp → Hp → Prop} (hap : (G1 ++ h0 :: G2).Pairwise R) : (G1 ++ G2).Pairwise R := by
  rw [List.pairwise_append] at hap ⊢
  exact ⟨hap.1, (List.pairwise_cons.1 hap.2.1).2, fun a ha b hb => hap.2.2 a ha b (List.mem_cons_of_mem _ hb)⟩
theorem keys_apart {G : List Hp} (hap : G.Pairwise (fun a b => a.k ≠ b.k ∧ a.hb ≠ b.hb ∧ a.g ≠ b.g)) : (G.map fun h => (h.k, h.hb)).Pairwise (fun x y => x.1 ≠ y.1) := by
  rw [List.pairwise_map]
  exact hap.imp (fun h => h.1)
theorem delete_wp {P : Program} {o : Oper} {a : Act} {w : World} {K : Act → World → Prop} {Q : Exit → Act → World → Prop} (m x : Operand) (t k : TypeId) (ho : o.op = .call { callee := .builtin .delete, args := #[m, x], argTypes := #[t, k] })
    (vm vx : Value) (w' : World) (hm : a.eval m = vm) (hx : a.eval x = vx) (hr : (Builtin.delete_ #[t, k] o.type #[vm, vx]).run P w = .ok (.tuple #[]) w') (hK : K (a.put o.dst (.tuple #[])) w') : o.wp P a w K Q := by
  unfold Oper.wp execOp
  simp only [ho, resolve, invoke, builtin, Sem.run_bind, Sem.run_pure, Result.andThen_ok, List.map_toArray, List.map_cons, List.map_nil, hm, hx, hr]
  exact hK
theorem right_sm {p : Pk} (h : p.right = 0) : p.sm := by
  obtain ⟨r0, r1, r2, r3, r4⟩ := Pk.right_zero h
  exact ⟨⟨by omega, by omega⟩, by omega⟩
set_option maxRecDepth 100000 in
set_option maxHeartbeats 8000000 in
theorem take_fight (p : Pk) (A : Option Addr) (c : Nat) (now : Int) (B rb bm : Nat) (tm : Int) (G : List Hp) (w : World) (hrs : RS w B rb bm tm G) (ok : p.ok) (hr : RB w (fun _ => True) (.slice A p.b.length c) p.b) (hA : A = none → c = 0) (hl : p.b.length ≤ 100000) (G1 G2 : List Hp) (h0 : Hp) (h : p.right = 0) (h1 : ¬ (p.off = 0 ∧ p.mf = false)) (hG : G = G1 ++ h0 :: G2) (hk : h0.k = kb p) (hf : h0.os.any (fun o => fightsB p o.1) = true) (hn0 : h0.os.length ≤ 1000) :
    Calls Tryd.prog 19 #[.pointer (some ⟨rb, 0, none⟩), pkv p (.slice A p.b.length c), .int .u64 now] w fun e w' => ∃ t y, e = .returned (.tuple #[.agg #[.int .u8 0, .int .u16 0, .bool false, .bool false, .int .i64 0, .int .u8 0, .int .u8 0, .int .u32 0, .int .u32 0, .slice none 0 0], .bool false, .iface t y]) ∧ EC w' (fun j => w.heap.size ≤ j) [lay10] (.iface t y) 3 ∧ RS w' B rb bm tm (G1 ++ G2) ∧ Ex (fun k => k = bm) w w' := by
  have HRS := Lib.hid hrs
  have HOK := Lib.hid ok
  have HR := Lib.hid hr
  have HA := Lib.hid hA
  have HL := Lib.hid hl
  clear hrs ok hr hA hl
  have HRT := Lib.hid (fun w => right_yes p A c w (by have := HL.out; omega) h)
  have HRT0 := Lib.hid h
  have HNP := Lib.hid h1
  subst hG
  have HNO := Lib.hid (lk_mid hk HRS.out.apart)
  have HK0 := Lib.hid hk
  have hh0 := HRS.out.hps h0 (List.mem_append_right _ List.mem_cons_self)
  have hsm := right_sm h
  have HF := Lib.hid hf
  have HN0 := Lib.hid hn0
  have HSM := Lib.hid hsm
  have HH0 := Lib.hid hh0
  clear h h1 hk hf hh0 hsm hn0
  obtain ⟨xtos, xid, xdf, xmf, xoff, xttl, xpr, xsrc, xdst, xb⟩ := p
  simp only at HR HL HRT

  show Calls Tryd.prog 19 #[.pointer (some ⟨rb, 0, none⟩), .agg #[.int .u8 xtos, .int .u16 xid, .bool xdf, .bool xmf, .int .i64 xoff, .int .u8 xttl, .int .u8 xpr, .int .u32 xsrc, .int .u32 xdst, .slice A xb.length c], .int .u64 now] w _
  go_enter Tryd.func19, Tryd.ntmps19
  go_upto_region 1 with fail
  have hx : Ex (fun _ => False) w (w.alloc (.cells #[.int .u8 xtos, .int .u16 xid, .bool xdf, .bool xmf, .int .i64 xoff, .int .u8 xttl, .int .u8 xpr, .int .u32 xsrc, .int .u32 xdst, .slice A xb.length c] 27)) := (Ex.refl _ w).alloc _
  have hb : (w.alloc (.cells #[.int .u8 xtos, .int .u16 xid, .bool xdf, .bool xmf, .int .i64 xoff, .int .u8 xttl, .int .u8 xpr, .int .u32 xsrc, .int .u32 xdst, .slice A xb.length c] 27)).heap[w.heap.size]? = some (.cells #[.int .u8 xtos, .int .u16 xid, .bool xdf, .bool xmf, .int .i64 xoff, .int .u8 xttl, .int .u8 xpr, .int .u32 xsrc, .int .u32 xdst, .slice A xb.length c] 27) := heap_alloc_new w _
  have hs1 : (w.alloc (.cells #[.int .u8 xtos, .int .u16 xid, .bool xdf, .bool xmf, .int .i64 xoff, .int .u8 xttl, .int .u8 xpr, .int .u32 xsrc, .int .u32 xdst, .slice A xb.length c] 27)).heap.size = w.heap.size + 1 := by simp
  obtain ⟨pb, hpb⟩ : ∃ pb, pb = w.heap.size := ⟨_, rfl⟩
  have hb_pb : w.heap.size ≤ pb := by omega
  rw [← hpb] at hb hs1 
  try simp only [← hpb]
  generalize w.alloc (.cells #[.int .u8 xtos, .int .u16 xid, .bool xdf, .bool xmf, .int .i64 xoff, .int .u8 xttl, .int .u8 xpr, .int .u32 xsrc, .int .u32 xdst, .slice A xb.length c] 27) = w1 at hx hb  hs1 ⊢
  try simp only [← hs1]
  clear hs1
  clear hpb
  have HX_w1 := Lib.hid hx
  clear hx
  have B_pb := Lib.hid hb
  clear hb
  have hx : Ex (fun _ => False) w1 (w1.alloc (.cells #[.int .u8 0, .int .u16 0, .bool false, .bool false, .int .i64 0, .int .u8 0, .int .u8 0, .int .u32 0, .int .u32 0, .slice none 0 0] 27)) := (Ex.refl _ w1).alloc _
  have hb : (w1.alloc (.cells #[.int .u8 0, .int .u16 0, .bool false, .bool false, .int .i64 0, .int .u8 0, .int .u8 0, .int .u32 0, .int .u32 0, .slice none 0 0] 27)).heap[w1.heap.size]? = some (.cells #[.int .u8 0, .int .u16 0, .bool false, .bool false, .int .i64 0, .int .u8 0, .int .u8 0, .int .u32 0, .int .u32 0, .slice none 0 0] 27) := heap_alloc_new w1 _
  obtain ⟨qb, hqb⟩ : ∃ qb, qb = w1.heap.size := ⟨_, rfl⟩
  have hb_qb : w1.heap.size ≤ qb := by omega
  rw [← hqb] at hb
  try simp only [← hqb]
  generalize w1.alloc (.cells #[.int .u8 0, .int .u16 0, .bool false, .bool false, .int .i64 0, .int .u8 0, .int .u8 0, .int .u32 0, .int .u32 0, .slice none 0 0] 27) = w2 at hx hb ⊢
  clear hqb
  have HX_w2 := Lib.hid hx
  clear hx
  have B_qb := Lib.hid hb
  clear hb
  have hpbl := row_lt (show w1.heap[pb]? = _ from B_pb.out)
  have ne_qb_pb : qb ≠ pb := by omega
  have HPB1 := Lib.hid hpbl
  clear hpbl
  have HQB2 := Lib.hid (row_lt B_qb.out)
  replace B_pb := Lib.hid ((HX_w2.out.block pb (row_lt B_pb.out) id).trans B_pb.out)
  have cpb0 := row_cell (k := 0) (v := .int .u8 xtos) B_pb.out rfl
  have cpb1 := row_cell (k := 1) (v := .int .u16 xid) B_pb.out rfl
  have cpb2 := row_cell (k := 2) (v := .bool xdf) B_pb.out rfl
  have cpb3 := row_cell (k := 3) (v := .bool xmf) B_pb.out rfl
  have cpb4 := row_cell (k := 4) (v := .int .i64 xoff) B_pb.out rfl
  have cpb5 := row_cell (k := 5) (v := .int .u8 xttl) B_pb.out rfl
  have cpb6 := row_cell (k := 6) (v := .int .u8 xpr) B_pb.out rfl
  have cpb7 := row_cell (k := 7) (v := .int .u32 xsrc) B_pb.out rfl
  have cpb8 := row_cell (k := 8) (v := .int .u32 xdst) B_pb.out rfl
  have cpb9 := row_cell (k := 9) (v := .slice A xb.length c) B_pb.out rfl
  go_wp2_with fail
  refine (HRT.out w2).mono ?_
  rintro e w3 ⟨rfl, hx⟩
  clear cpb0 cpb1 cpb2 cpb3 cpb4 cpb5 cpb6 cpb7 cpb8 cpb9
  have HX_w3 := Lib.hid hx
  clear hx
  replace B_pb := Lib.hid ((HX_w3.out.block pb (row_lt B_pb.out) id).trans B_pb.out)
  have cpb3 := row_cell (k := 3) (v := .bool xmf) B_pb.out rfl
  have cpb4 := row_cell (k := 4) (v := .int .i64 xoff) B_pb.out rfl
  go_upto_region 4 with fail
  go_cut [28] (fun x wx => x = .bool false ∧ wx = w3)
  case first =>
    by_cases h0 : xoff = 0
    · have hm : xmf = true := by
        cases hq : xmf
        · exact absurd ⟨h0, hq⟩ HNP.out
        · rfl
      rw [h0] at cpb4
      rw [hm] at cpb3
      clear h0 hm
      go_wp2_with fail
      go_meet
      exact ⟨rfl, rfl⟩
    · have e0 : (xoff == 0) = false := beq_eq_false_iff_ne.2 h0
      go_wp2_with fail
      go_meet
      exact ⟨rfl, rfl⟩
  case rest =>
    obtain ⟨rfl, hwc⟩ := hcut
    have hwc2 := hwc.symm
    clear hwc
    subst hwc2
    clear cpb3 cpb4
    have cpb1 := row_cell (k := 1) (v := .int .u16 xid) B_pb.out rfl
    have cpb6 := row_cell (k := 6) (v := .int .u8 xpr) B_pb.out rfl
    have cpb7 := row_cell (k := 7) (v := .int .u32 xsrc) B_pb.out rfl
    have cpb8 := row_cell (k := 8) (v := .int .u32 xdst) B_pb.out rfl
    go_upto_region 7 with fail
    clear cpb1 cpb6 cpb7 cpb8
    have hx : Ex (fun _ => False) w3 (w3.alloc (.cells #[.int .u32 xsrc, .int .u32 xdst, .int .u8 xpr, .int .u16 xid] 78)) := (Ex.refl _ w3).alloc _
    have hb : (w3.alloc (.cells #[.int .u32 xsrc, .int .u32 xdst, .int .u8 xpr, .int .u16 xid] 78)).heap[w3.heap.size]? = some (.cells #[.int .u32 xsrc, .int .u32 xdst, .int .u8 xpr, .int .u16 xid] 78) := heap_alloc_new w3 _
    obtain ⟨kx, hkx⟩ : ∃ kx, kx = w3.heap.size := ⟨_, rfl⟩
    have hb_kx : w3.heap.size ≤ kx := by omega
    rw [← hkx] at hb
    try simp only [← hkx]
    generalize w3.alloc (.cells #[.int .u32 xsrc, .int .u32 xdst, .int .u8 xpr, .int .u16 xid] 78) = w4 at hx hb ⊢
    clear hkx
    have HX_w4 := Lib.hid hx
    clear hx
    have B_kx := Lib.hid hb
    clear hb
    have HKX4 := Lib.hid (row_lt B_kx.out)
    have hrs4 := (HRS.out.keep (((HX_w1.out.trans HX_w2.out).trans HX_w3.out).trans HX_w4.out))
    have crb1 := row_cell (k := 1) (v := .map (some bm)) hrs4.cell rfl
    have hlook : ∀ W, Ex (fun _ => False) w4 W → (Instr.lookup 74 (.map (some bm)) (.agg #[.int .u32 xsrc, .int .u32 xdst, .int .u8 xpr, .int .u16 xid]) false).run Tryd.prog W = .ok (.pointer (some ⟨h0.hb, 0, none⟩)) W := by
      intro W hx
      have h := (hrs4.map.keep hx id).look (⟨xtos, xid, xdf, xmf, xoff, xttl, xpr, xsrc, xdst, xb⟩ : Pk) HOK.out
      rw [show lk _ _ = _ from HNO.out] at h
      exact h
    have HLOOK := Lib.hid hlook
    have HRS4 := Lib.hid hrs4
    clear hlook hrs4
    have ckx0 := row_cell (k := 0) (v := .int .u32 xsrc) B_kx.out rfl
    have ckx1 := row_cell (k := 1) (v := .int .u32 xdst) B_kx.out rfl
    have ckx2 := row_cell (k := 2) (v := .int .u8 xpr) B_kx.out rfl
    have ckx3 := row_cell (k := 3) (v := .int .u16 xid) B_kx.out rfl
    have hS0 : Ex (fun _ => False) w4 w4.drew := (Ex.refl _ w4).drew
    refine wp_region_held_drew (S := fun W => Ex (fun _ => False) w4 W) (by kernel_rfl) hS0 (fun _ => ?_)
    refine wpAnyH_take (i := 0) (oi := { dst := some 40, op := Go.Op.move (Go.Operand.tmp 0), type := 45, pos := "frag.go:125", after := #[], guard := none }) (v := ?v1) rfl (by kernel_rfl) (by kernel_rfl) (by kernel_rfl) (fun _ _ _ h => h) (Or.inl ⟨by rfl, ?hy1⟩) (by assumption) ?rest1
    case hy1 => (intro w hSw; (try dsimp only at hSw); have eckx0 := hSw.cell ckx0 id; have eckx1 := hSw.cell ckx1 id; have eckx2 := hSw.cell ckx2 id; have eckx3 := hSw.cell ckx3 id; have ecrb1 := hSw.cell crb1 id; have el := HLOOK.out w hSw; go_simp <;> with_reducible rfl)
    try simp only [Act.put, List.setIfInBounds_toArray, List.set_cons_zero, List.set_cons_succ]
    refine wpAnyH_take (i := 1) (oi := { dst := some 41, op := Go.Op.nilCheck (Go.Operand.tmp 40), type := 0, pos := "frag.go:125", after := #[{ on := 0, ground := Go.Ground.data }], guard := none }) (v := ?v2) rfl (by kernel_rfl) (by kernel_rfl) (by kernel_rfl) (fun _ _ _ h => h) (Or.inl ⟨by rfl, ?hy2⟩) (by assumption) ?rest2
    case hy2 => (intro w hSw; (try dsimp only at hSw); have eckx0 := hSw.cell ckx0 id; have eckx1 := hSw.cell ckx1 id; have eckx2 := hSw.cell ckx2 id; have eckx3 := hSw.cell ckx3 id; have ecrb1 := hSw.cell crb1 id; have el := HLOOK.out w hSw; go_simp <;> with_reducible rfl)
    try simp only [Act.put, List.setIfInBounds_toArray, List.set_cons_zero, List.set_cons_succ]
    refine wpAnyH_take (i := 2) (oi := { dst := some 42, op := Go.Op.fieldAddr 76 (Go.Operand.tmp 41) 1, type := 0, pos := "frag.go:125", after := #[{ on := 1, ground := Go.Ground.data }], guard := none }) (v := ?v3) rfl (by kernel_rfl) (by kernel_rfl) (by kernel_rfl) (fun _ _ _ h => h) (Or.inl ⟨by rfl, ?hy3⟩) (by assumption) ?rest3
    case hy3 => (intro w hSw; (try dsimp only at hSw); have eckx0 := hSw.cell ckx0 id; have eckx1 := hSw.cell ckx1 id; have eckx2 := hSw.cell ckx2 id; have eckx3 := hSw.cell ckx3 id; have ecrb1 := hSw.cell crb1 id; have el := HLOOK.out w hSw; go_simp <;> with_reducible rfl)
    try simp only [Act.put, List.setIfInBounds_toArray, List.set_cons_zero, List.set_cons_succ]
    refine wpAnyH_take (i := 3) (oi := { dst := some 43, op := Go.Op.load 74 (Go.Operand.tmp 42), type := 74, pos := "frag.go:125", after := #[{ on := 2, ground := Go.Ground.data }], guard := none }) (v := ?v4) rfl (by kernel_rfl) (by kernel_rfl) (by kernel_rfl) (fun _ _ _ h => h) (Or.inl ⟨by rfl, ?hy4⟩) (by assumption) ?rest4
    case hy4 => (intro w hSw; (try dsimp only at hSw); have eckx0 := hSw.cell ckx0 id; have eckx1 := hSw.cell ckx1 id; have eckx2 := hSw.cell ckx2 id; have eckx3 := hSw.cell ckx3 id; have ecrb1 := hSw.cell crb1 id; have el := HLOOK.out w hSw; go_simp <;> with_reducible rfl)
    try simp only [Act.put, List.setIfInBounds_toArray, List.set_cons_zero, List.set_cons_succ]
    refine wpAnyH_take (i := 4) (oi := { dst := some 44, op := Go.Op.load 78 (Go.Operand.tmp 10), type := 78, pos := "frag.go:125", after := #[], guard := none }) (v := ?v5) rfl (by kernel_rfl) (by kernel_rfl) (by kernel_rfl) (fun _ _ _ h => h) (Or.inl ⟨by rfl, ?hy5⟩) (by assumption) ?rest5
    case hy5 => (intro w hSw; (try dsimp only at hSw); have eckx0 := hSw.cell ckx0 id; have eckx1 := hSw.cell ckx1 id; have eckx2 := hSw.cell ckx2 id; have eckx3 := hSw.cell ckx3 id; have ecrb1 := hSw.cell crb1 id; have el := HLOOK.out w hSw; go_simp <;> with_reducible rfl)
    try simp only [Act.put, List.setIfInBounds_toArray, List.set_cons_zero, List.set_cons_succ]
    refine wpAnyH_take (i := 5) (oi := { dst := some 45, op := Go.Op.lookup 74 (Go.Operand.tmp 43) (Go.Operand.tmp 44) false, type := 79, pos := "frag.go:125", after := #[{ on := 3, ground := Go.Ground.data }, { on := 4, ground := Go.Ground.data }], guard := none }) (v := ?v6) rfl (by kernel_rfl) (by kernel_rfl) (by kernel_rfl) (fun _ _ _ h => h) (Or.inl ⟨by rfl, ?hy6⟩) (by assumption) ?rest6
    case hy6 => (intro w hSw; (try dsimp only at hSw); have eckx0 := hSw.cell ckx0 id; have eckx1 := hSw.cell ckx1 id; have eckx2 := hSw.cell ckx2 id; have eckx3 := hSw.cell ckx3 id; have ecrb1 := hSw.cell crb1 id; have el := HLOOK.out w hSw; go_simp <;> with_reducible rfl)
    try simp only [Act.put, List.setIfInBounds_toArray, List.set_cons_zero, List.set_cons_succ]
    refine wpAnyH_take (i := 6) (oi := { dst := some 11, op := Go.Op.assign (Go.Operand.tmp 45), type := 79, pos := "frag.go:125", after := #[{ on := 5, ground := Go.Ground.data }, { on := 0, ground := Go.Ground.phase }, { on := 1, ground := Go.Ground.phase }, { on := 2, ground := Go.Ground.phase }, { on := 3, ground := Go.Ground.phase }, { on := 4, ground := Go.Ground.phase }, { on := 5, ground := Go.Ground.phase }], guard := none }) (v := ?v7) rfl (by kernel_rfl) (by kernel_rfl) (by kernel_rfl) (fun _ _ _ h => h) (Or.inl ⟨by rfl, ?hy7⟩) (by assumption) ?rest7
    case hy7 => (intro w hSw; (try dsimp only at hSw); have eckx0 := hSw.cell ckx0 id; have eckx1 := hSw.cell ckx1 id; have eckx2 := hSw.cell ckx2 id; have eckx3 := hSw.cell ckx3 id; have ecrb1 := hSw.cell crb1 id; have el := HLOOK.out w hSw; go_simp <;> with_reducible rfl)
    try simp only [Act.put, List.setIfInBounds_toArray, List.set_cons_zero, List.set_cons_succ]
    refine wpAnyH_done (by kernel_rfl) ?_ _
    generalize w4.drew = w5 at hS0 ⊢
    have hx := hS0
    clear hS0 crb1 HLOOK ckx0 ckx1 ckx2 ckx3
    have HX_w5 := Lib.hid hx
    clear hx
    have hrs5 := HRS4.out.keep HX_w5.out
    have HRS5 := Lib.hid hrs5
    have crb1 := row_cell (k := 1) (v := .map (some bm)) hrs5.cell rfl
    have hlen := fun ty => hrs5.map.len ty
    simp only [List.length_map] at hlen
    clear hrs5
    clear hlen crb1
    have hh5 := HH0.out.keep ((((HX_w1.out.trans HX_w2.out).trans HX_w3.out).trans HX_w4.out).trans HX_w5.out)
    have B_hz := Lib.hid hh5.1
    have HH5 := Lib.hid hh5
    have chz1 := row_cell (k := 1) (v := .slice (some ⟨h0.g, 0, none⟩) h0.os.length h0.cap) B_hz.out rfl
    have hrow5 : PRow w5 h0.g h0.os := by
      intro i hi k u hu
      obtain ⟨g', c', e1, _, h4⟩ := hh5.2.1.get i hi
      injection e1 with e1 _ _
      injection e1 with e1
      injection e1 with e1
      rw [e1]
      exact h4 k u hu
    have hcon := con_any (⟨xtos, xid, xdf, xmf, xoff, xttl, xpr, xsrc, xdst, xb⟩ : Pk) A c pb h0.g h0.cap h0.os.length h0.os rfl hh5.2.2.2.1 (by have := HN0.out; omega) w5 (((HX_w4.out.trans HX_w5.out).block pb (row_lt B_pb.out) id).trans B_pb.out) HSM.out (RB.keep HR.out ((((HX_w1.out.trans HX_w2.out).trans HX_w3.out).trans HX_w4.out).trans HX_w5.out) (fun _ _ _ => id)) (fun o ho => ⟨right_sm (hh5.2.2.1 o ho).2.2, RB.any (hh5.2.2.1 o ho).1.rb⟩) hrow5
    rw [HF.out] at hcon
    have HCON := Lib.hid hcon
    have hmf : ∀ (fn : Fn) (first cap : Array Value) (w : World), (Instr.makeFunc fn first cap).run Tryd.prog w = .ok (.func fn first cap) w := fun _ _ _ _ => rfl
    clear hcon hrow5 hh5
    go_wp2_with fail
    refine HCON.out.mono ?_
    rintro e w6 ⟨rfl, hx⟩
    clear chz1
    have HX_w6 := Lib.hid hx
    clear hx
    have hrs6 := (HRS.out.keep (((((HX_w1.out.trans HX_w2.out).trans HX_w3.out).trans HX_w4.out).trans HX_w5.out).trans HX_w6.out))
    have crb1 := row_cell (k := 1) (v := .map (some bm)) hrs6.cell rfl
    have hdel : ∀ ty W, Ex (fun _ => False) w6 W → ∃ w', (Builtin.delete_ #[74, 78] ty #[.map (some bm), .agg #[.int .u32 xsrc, .int .u32 xdst, .int .u8 xpr, .int .u16 xid]]).run Tryd.prog W = .ok (.tuple #[]) w' ∧ MP w' bm ((G1 ++ G2).map fun h => (h.k, h.hb)) ∧ Ex (fun k => k = bm) W w' := by
      intro ty W hx'
      obtain ⟨w', h1, h2, h3⟩ := (hrs6.map.keep hx' id).drop (keys_apart hrs6.apart) (⟨xtos, xid, xdf, xmf, xoff, xttl, xpr, xsrc, xdst, xb⟩ : Pk) HOK.out ty
      rw [filter_mid HK0.out hrs6.apart] at h2
      exact ⟨w', h1, h2, h3⟩
    have HDEL := Lib.hid hdel
    have HRS6 := Lib.hid hrs6
    clear hdel hrs6
    go_upto_region 14 with fail
    replace B_kx := Lib.hid (((HX_w5.out.trans HX_w6.out).block kx (row_lt B_kx.out) id).trans B_kx.out)
    have ckx0 := row_cell (k := 0) (v := .int .u32 xsrc) B_kx.out rfl
    have ckx1 := row_cell (k := 1) (v := .int .u32 xdst) B_kx.out rfl
    have ckx2 := row_cell (k := 2) (v := .int .u8 xpr) B_kx.out rfl
    have ckx3 := row_cell (k := 3) (v := .int .u16 xid) B_kx.out rfl
    have hS0 : Ex (fun k => k = bm) w6 w6.drew := (Ex.refl _ w6).drew
    have HX_wd := Lib.hid ((Ex.refl (fun _ => False) w6).drew)
    have hnb : bm ≠ kx := by have h1 := HRS6.out.map.isMap; intro e; subst e; obtain ⟨es, c9, h2⟩ := h1; have h3 := B_kx.out; rw [h2] at h3; cases h3
    have hnr : bm ≠ rb := by have h1 := HRS6.out.map.isMap; intro e; subst e; obtain ⟨es, c9, h2⟩ := h1; have h3 := HRS6.out.cell; rw [h2] at h3; cases h3
    refine wp_region_held_drew (S := fun W => Ex (fun k => k = bm) w6 W) (by kernel_rfl) hS0 (fun _ => ?_)
    generalize w6.drew = wd at hS0 HX_wd ⊢
    refine wpAnyH_take (i := 0) (oi := { dst := some 79, op := Go.Op.move (Go.Operand.tmp 0), type := 45, pos := "frag.go:133", after := #[], guard := none }) (v := ?v8) rfl (by kernel_rfl) (by kernel_rfl) (by kernel_rfl) (fun _ _ _ h => h) (Or.inl ⟨by rfl, ?hy8⟩) (by assumption) ?rest8
    case hy8 => (intro w hSw; (try dsimp only at hSw); have eckx0 := hSw.cell ckx0 hnb.symm; have eckx1 := hSw.cell ckx1 hnb.symm; have eckx2 := hSw.cell ckx2 hnb.symm; have eckx3 := hSw.cell ckx3 hnb.symm; have er := hSw.cell crb1 hnr.symm; go_simp <;> with_reducible rfl)
    try simp only [Act.put, List.setIfInBounds_toArray, List.set_cons_zero, List.set_cons_succ]
    refine wpAnyH_take (i := 1) (oi := { dst := some 80, op := Go.Op.nilCheck (Go.Operand.tmp 79), type := 0, pos := "frag.go:133", after := #[{ on := 0, ground := Go.Ground.data }], guard := none }) (v := ?v9) rfl (by kernel_rfl) (by kernel_rfl) (by kernel_rfl) (fun _ _ _ h => h) (Or.inl ⟨by rfl, ?hy9⟩) (by assumption) ?rest9
    case hy9 => (intro w hSw; (try dsimp only at hSw); have eckx0 := hSw.cell ckx0 hnb.symm; have eckx1 := hSw.cell ckx1 hnb.symm; have eckx2 := hSw.cell ckx2 hnb.symm; have eckx3 := hSw.cell ckx3 hnb.symm; have er := hSw.cell crb1 hnr.symm; go_simp <;> with_reducible rfl)
    try simp only [Act.put, List.setIfInBounds_toArray, List.set_cons_zero, List.set_cons_succ]
    refine wpAnyH_take (i := 2) (oi := { dst := some 81, op := Go.Op.fieldAddr 76 (Go.Operand.tmp 80) 1, type := 0, pos := "frag.go:133", after := #[{ on := 1, ground := Go.Ground.data }], guard := none }) (v := ?v10) rfl (by kernel_rfl) (by kernel_rfl) (by kernel_rfl) (fun _ _ _ h => h) (Or.inl ⟨by rfl, ?hy10⟩) (by assumption) ?rest10
    case hy10 => (intro w hSw; (try dsimp only at hSw); have eckx0 := hSw.cell ckx0 hnb.symm; have eckx1 := hSw.cell ckx1 hnb.symm; have eckx2 := hSw.cell ckx2 hnb.symm; have eckx3 := hSw.cell ckx3 hnb.symm; have er := hSw.cell crb1 hnr.symm; go_simp <;> with_reducible rfl)
    try simp only [Act.put, List.setIfInBounds_toArray, List.set_cons_zero, List.set_cons_succ]
    refine wpAnyH_take (i := 3) (oi := { dst := some 82, op := Go.Op.load 74 (Go.Operand.tmp 81), type := 74, pos := "frag.go:133", after := #[{ on := 2, ground := Go.Ground.data }], guard := none }) (v := ?v11) rfl (by kernel_rfl) (by kernel_rfl) (by kernel_rfl) (fun _ _ _ h => h) (Or.inl ⟨by rfl, ?hy11⟩) (by assumption) ?rest11
    case hy11 => (intro w hSw; (try dsimp only at hSw); have eckx0 := hSw.cell ckx0 hnb.symm; have eckx1 := hSw.cell ckx1 hnb.symm; have eckx2 := hSw.cell ckx2 hnb.symm; have eckx3 := hSw.cell ckx3 hnb.symm; have er := hSw.cell crb1 hnr.symm; go_simp <;> with_reducible rfl)
    try simp only [Act.put, List.setIfInBounds_toArray, List.set_cons_zero, List.set_cons_succ]
    refine wpAnyH_take (i := 4) (oi := { dst := some 83, op := Go.Op.load 78 (Go.Operand.tmp 10), type := 78, pos := "frag.go:133", after := #[], guard := none }) (v := ?v12) rfl (by kernel_rfl) (by kernel_rfl) (by kernel_rfl) (fun _ _ _ h => h) (Or.inl ⟨by rfl, ?hy12⟩) (by assumption) ?rest12
    case hy12 => (intro w hSw; (try dsimp only at hSw); have eckx0 := hSw.cell ckx0 hnb.symm; have eckx1 := hSw.cell ckx1 hnb.symm; have eckx2 := hSw.cell ckx2 hnb.symm; have eckx3 := hSw.cell ckx3 hnb.symm; have er := hSw.cell crb1 hnr.symm; go_simp <;> with_reducible rfl)
    try simp only [Act.put, List.setIfInBounds_toArray, List.set_cons_zero, List.set_cons_succ]
    refine wpAnyH_ready (rs := [5]) (by kernel_rfl) (by simp) ?_
    refine AllReadyH.cons (o := { dst := none, op := Go.Op.call { callee := Go.Callee.builtin Go.Builtin.delete, args := #[Go.Operand.tmp 82, Go.Operand.tmp 83], argTypes := #[74, 78] }, type := 0, pos := "frag.go:133", after := #[{ on := 3, ground := Go.Ground.data }, { on := 4, ground := Go.Ground.data }], guard := none }) rfl (fun K hK => ?_) AllReadyH.nil
    obtain ⟨w7, hrun, hmp7, hx7⟩ := HDEL.out 0 wd HX_wd.out
    rw [if_pos (by simp [Region.wanted])]
    refine delete_wp (.tmp 82) (.tmp 83) 74 78 rfl _ _ _ rfl rfl hrun ?_
    have hS1 : Ex (fun k => k = bm) w6 w7 := hS0.trans hx7
    refine hK.out _ _ hS1 (fun _ => ?_)
    refine wpAnyH_done (by kernel_rfl) ?_ _
    have HMP7 := Lib.hid hmp7
    have HS1 := Lib.hid hS1
    have hqb7 : w7.heap[qb]? = some (.cells #[.int .u8 0, .int .u16 0, .bool false, .bool false, .int .i64 0, .int .u8 0, .int .u8 0, .int .u32 0, .int .u32 0, .slice none 0 0] 27) := (HS1.out.block qb (row_lt (((((HX_w3.out.trans HX_w4.out).trans HX_w5.out).trans HX_w6.out).block qb (row_lt B_qb.out) id).trans B_qb.out)) (fun e => by have h1 := HRS6.out.map.isMap; obtain ⟨es, c9, h2⟩ := h1; rw [← e, (((((HX_w3.out.trans HX_w4.out).trans HX_w5.out).trans HX_w6.out).block qb (row_lt B_qb.out) id).trans B_qb.out)] at h2; cases h2)).trans (((((HX_w3.out.trans HX_w4.out).trans HX_w5.out).trans HX_w6.out).block qb (row_lt B_qb.out) id).trans B_qb.out)
    have hxw7 : Ex (fun k => k = bm) w w7 := ((((((HX_w1.out.trans HX_w2.out).trans HX_w3.out).trans HX_w4.out).trans HX_w5.out).trans HX_w6.out).mono (fun _ _ h => h.elim)).trans HS1.out
    have HXW7 := Lib.hid hxw7
    have HQ6 := Lib.hid (show qb < w7.heap.size by have h1 := HQB2.out; have h2 := (((HX_w3.out.trans HX_w4.out).trans HX_w5.out).trans HX_w6.out).size; have h3 := HS1.out.size; omega)
    replace B_qb := Lib.hid hqb7
    clear hS0 hS1 hmp7 hx7 hrun hnb hnr crb1 hqb7 hxw7 ckx0 ckx1 ckx2 ckx3
    go_wp2_with fail
    refine (wrong10_no 3 w7).mono ?_
    rintro e w8 ⟨v, rfl, he, hx⟩
    have HE := Lib.hid he
    clear he
    have HX_w8 := Lib.hid hx
    clear hx
    obtain ⟨t9, y9, rfl⟩ := HE.out.shape
    replace B_qb := Lib.hid ((HX_w8.out.block qb (row_lt B_qb.out) id).trans B_qb.out)
    have cqb0 := row_cell (k := 0) (v := .int .u8 0) B_qb.out rfl
    have cqb1 := row_cell (k := 1) (v := .int .u16 0) B_qb.out rfl
    have cqb2 := row_cell (k := 2) (v := .bool false) B_qb.out rfl
    have cqb3 := row_cell (k := 3) (v := .bool false) B_qb.out rfl
    have cqb4 := row_cell (k := 4) (v := .int .i64 0) B_qb.out rfl
    have cqb5 := row_cell (k := 5) (v := .int .u8 0) B_qb.out rfl
    have cqb6 := row_cell (k := 6) (v := .int .u8 0) B_qb.out rfl
    have cqb7 := row_cell (k := 7) (v := .int .u32 0) B_qb.out rfl
    have cqb8 := row_cell (k := 8) (v := .int .u32 0) B_qb.out rfl
    have cqb9 := row_cell (k := 9) (v := .slice none 0 0) B_qb.out rfl
    have fqb0 := row_frozen B_qb.out 0
    have fqb1 := row_frozen B_qb.out 1
    have fqb2 := row_frozen B_qb.out 2
    have fqb3 := row_frozen B_qb.out 3
    have fqb4 := row_frozen B_qb.out 4
    have fqb5 := row_frozen B_qb.out 5
    have fqb6 := row_frozen B_qb.out 6
    have fqb7 := row_frozen B_qb.out 7
    have fqb8 := row_frozen B_qb.out 8
    have fqb9 := row_frozen B_qb.out 9
    go_wp2_with fail
    (try simp only [Exit.inBlock, Exit.then])
    have r0 : (w8.setCell ⟨qb, 0, none⟩ (.int .u8 0)).heap[qb]? = some (.cells #[.int .u8 0, .int .u16 0, .bool false, .bool false, .int .i64 0, .int .u8 0, .int .u8 0, .int .u32 0, .int .u32 0, .slice none 0 0] 27) := row_set B_qb.out 0 (.int .u8 0)
    have r1 : ((w8.setCell ⟨qb, 0, none⟩ (.int .u8 0)).setCell ⟨qb, 1, none⟩ (.int .u16 0)).heap[qb]? = some (.cells #[.int .u8 0, .int .u16 0, .bool false, .bool false, .int .i64 0, .int .u8 0, .int .u8 0, .int .u32 0, .int .u32 0, .slice none 0 0] 27) := row_set r0 1 (.int .u16 0)
    clear r0
    have r2 : (((w8.setCell ⟨qb, 0, none⟩ (.int .u8 0)).setCell ⟨qb, 1, none⟩ (.int .u16 0)).setCell ⟨qb, 2, none⟩ (.bool false)).heap[qb]? = some (.cells #[.int .u8 0, .int .u16 0, .bool false, .bool false, .int .i64 0, .int .u8 0, .int .u8 0, .int .u32 0, .int .u32 0, .slice none 0 0] 27) := row_set r1 2 (.bool false)
    clear r1
    have r3 : ((((w8.setCell ⟨qb, 0, none⟩ (.int .u8 0)).setCell ⟨qb, 1, none⟩ (.int .u16 0)).setCell ⟨qb, 2, none⟩ (.bool false)).setCell ⟨qb, 3, none⟩ (.bool false)).heap[qb]? = some (.cells #[.int .u8 0, .int .u16 0, .bool false, .bool false, .int .i64 0, .int .u8 0, .int .u8 0, .int .u32 0, .int .u32 0, .slice none 0 0] 27) := row_set r2 3 (.bool false)
    clear r2
    have r4 : (((((w8.setCell ⟨qb, 0, none⟩ (.int .u8 0)).setCell ⟨qb, 1, none⟩ (.int .u16 0)).setCell ⟨qb, 2, none⟩ (.bool false)).setCell ⟨qb, 3, none⟩ (.bool false)).setCell ⟨qb, 4, none⟩ (.int .i64 0)).heap[qb]? = some (.cells #[.int .u8 0, .int .u16 0, .bool false, .bool false, .int .i64 0, .int .u8 0, .int .u8 0, .int .u32 0, .int .u32 0, .slice none 0 0] 27) := row_set r3 4 (.int .i64 0)
    clear r3
    have r5 : ((((((w8.setCell ⟨qb, 0, none⟩ (.int .u8 0)).setCell ⟨qb, 1, none⟩ (.int .u16 0)).setCell ⟨qb, 2, none⟩ (.bool false)).setCell ⟨qb, 3, none⟩ (.bool false)).setCell ⟨qb, 4, none⟩ (.int .i64 0)).setCell ⟨qb, 5, none⟩ (.int .u8 0)).heap[qb]? = some (.cells #[.int .u8 0, .int .u16 0, .bool false, .bool false, .int .i64 0, .int .u8 0, .int .u8 0, .int .u32 0, .int .u32 0, .slice none 0 0] 27) := row_set r4 5 (.int .u8 0)
    clear r4
    have r6 : (((((((w8.setCell ⟨qb, 0, none⟩ (.int .u8 0)).setCell ⟨qb, 1, none⟩ (.int .u16 0)).setCell ⟨qb, 2, none⟩ (.bool false)).setCell ⟨qb, 3, none⟩ (.bool false)).setCell ⟨qb, 4, none⟩ (.int .i64 0)).setCell ⟨qb, 5, none⟩ (.int .u8 0)).setCell ⟨qb, 6, none⟩ (.int .u8 0)).heap[qb]? = some (.cells #[.int .u8 0, .int .u16 0, .bool false, .bool false, .int .i64 0, .int .u8 0, .int .u8 0, .int .u32 0, .int .u32 0, .slice none 0 0] 27) := row_set r5 6 (.int .u8 0)
    clear r5
    have r7 : ((((((((w8.setCell ⟨qb, 0, none⟩ (.int .u8 0)).setCell ⟨qb, 1, none⟩ (.int .u16 0)).setCell ⟨qb, 2, none⟩ (.bool false)).setCell ⟨qb, 3, none⟩ (.bool false)).setCell ⟨qb, 4, none⟩ (.int .i64 0)).setCell ⟨qb, 5, none⟩ (.int .u8 0)).setCell ⟨qb, 6, none⟩ (.int .u8 0)).setCell ⟨qb, 7, none⟩ (.int .u32 0)).heap[qb]? = some (.cells #[.int .u8 0, .int .u16 0, .bool false, .bool false, .int .i64 0, .int .u8 0, .int .u8 0, .int .u32 0, .int .u32 0, .slice none 0 0] 27) := row_set r6 7 (.int .u32 0)
    clear r6
    have r8 : (((((((((w8.setCell ⟨qb, 0, none⟩ (.int .u8 0)).setCell ⟨qb, 1, none⟩ (.int .u16 0)).setCell ⟨qb, 2, none⟩ (.bool false)).setCell ⟨qb, 3, none⟩ (.bool false)).setCell ⟨qb, 4, none⟩ (.int .i64 0)).setCell ⟨qb, 5, none⟩ (.int .u8 0)).setCell ⟨qb, 6, none⟩ (.int .u8 0)).setCell ⟨qb, 7, none⟩ (.int .u32 0)).setCell ⟨qb, 8, none⟩ (.int .u32 0)).heap[qb]? = some (.cells #[.int .u8 0, .int .u16 0, .bool false, .bool false, .int .i64 0, .int .u8 0, .int .u8 0, .int .u32 0, .int .u32 0, .slice none 0 0] 27) := row_set r7 8 (.int .u32 0)
    clear r7
    have r9 : ((((((((((w8.setCell ⟨qb, 0, none⟩ (.int .u8 0)).setCell ⟨qb, 1, none⟩ (.int .u16 0)).setCell ⟨qb, 2, none⟩ (.bool false)).setCell ⟨qb, 3, none⟩ (.bool false)).setCell ⟨qb, 4, none⟩ (.int .i64 0)).setCell ⟨qb, 5, none⟩ (.int .u8 0)).setCell ⟨qb, 6, none⟩ (.int .u8 0)).setCell ⟨qb, 7, none⟩ (.int .u32 0)).setCell ⟨qb, 8, none⟩ (.int .u32 0)).setCell ⟨qb, 9, none⟩ (.slice none 0 0)).heap[qb]? = some (.cells #[.int .u8 0, .int .u16 0, .bool false, .bool false, .int .i64 0, .int .u8 0, .int .u8 0, .int .u32 0, .int .u32 0, .slice none 0 0] 27) := row_set r8 9 (.slice none 0 0)
    clear r8
    have hx : Ex (fun j => j = qb) w8 ((((((((((w8.setCell ⟨qb, 0, none⟩ (.int .u8 0)).setCell ⟨qb, 1, none⟩ (.int .u16 0)).setCell ⟨qb, 2, none⟩ (.bool false)).setCell ⟨qb, 3, none⟩ (.bool false)).setCell ⟨qb, 4, none⟩ (.int .i64 0)).setCell ⟨qb, 5, none⟩ (.int .u8 0)).setCell ⟨qb, 6, none⟩ (.int .u8 0)).setCell ⟨qb, 7, none⟩ (.int .u32 0)).setCell ⟨qb, 8, none⟩ (.int .u32 0)).setCell ⟨qb, 9, none⟩ (.slice none 0 0)) := (((((((((((Ex.refl (fun j => j = qb) w8).setCell (p := ⟨qb, 0, none⟩) (.inl rfl) (.int .u8 0)).setCell (p := ⟨qb, 1, none⟩) (.inl rfl) (.int .u16 0)).setCell (p := ⟨qb, 2, none⟩) (.inl rfl) (.bool false)).setCell (p := ⟨qb, 3, none⟩) (.inl rfl) (.bool false)).setCell (p := ⟨qb, 4, none⟩) (.inl rfl) (.int .i64 0)).setCell (p := ⟨qb, 5, none⟩) (.inl rfl) (.int .u8 0)).setCell (p := ⟨qb, 6, none⟩) (.inl rfl) (.int .u8 0)).setCell (p := ⟨qb, 7, none⟩) (.inl rfl) (.int .u32 0)).setCell (p := ⟨qb, 8, none⟩) (.inl rfl) (.int .u32 0)).setCell (p := ⟨qb, 9, none⟩) (.inl rfl) (.slice none 0 0))
    clear cqb0 cqb1 cqb2 cqb3 cqb4 cqb5 cqb6 cqb7 cqb8 cqb9 fqb0 fqb1 fqb2 fqb3 fqb4 fqb5 fqb6 fqb7 fqb8 fqb9
    generalize ((((((((((w8.setCell ⟨qb, 0, none⟩ (.int .u8 0)).setCell ⟨qb, 1, none⟩ (.int .u16 0)).setCell ⟨qb, 2, none⟩ (.bool false)).setCell ⟨qb, 3, none⟩ (.bool false)).setCell ⟨qb, 4, none⟩ (.int .i64 0)).setCell ⟨qb, 5, none⟩ (.int .u8 0)).setCell ⟨qb, 6, none⟩ (.int .u8 0)).setCell ⟨qb, 7, none⟩ (.int .u32 0)).setCell ⟨qb, 8, none⟩ (.int .u32 0)).setCell ⟨qb, 9, none⟩ (.slice none 0 0)) = wz at r9 hx ⊢
    replace B_qb := Lib.hid r9
    clear r9
    have HX_wz := Lib.hid hx
    clear hx
    refine bodyPost_ret (v := .tuple #[.agg #[.int .u8 0, .int .u16 0, .bool false, .bool false, .int .i64 0, .int .u8 0, .int .u8 0, .int .u32 0, .int .u32 0, .slice none 0 0], .bool false, .iface t9 y9]) (take_results _ qb _ #[.int .u8 0, .int .u16 0, .bool false, .bool false, .int .i64 0, .int .u8 0, .int .u8 0, .int .u32 0, .int .u32 0, .slice none 0 0] _ _ rfl rfl rfl B_qb.out rfl) rfl ⟨t9, y9, rfl, EC.up (EC.keepB HX_wz.out HQ6.out HE.out) HXW7.out.size, ?_, ((HXW7.out.andThen HX_w8.out (fun i hi e => e.elim)).andThen HX_wz.out (fun i hi e => by have h3 := hb_qb; have h4 := HX_w1.out.size; omega))⟩
    have hexw : Ex (fun k => k = bm) w wz := ((HXW7.out.andThen HX_w8.out (fun i hi e => e.elim)).andThen HX_wz.out (fun i hi e => by have h3 := hb_qb; have h4 := HX_w1.out.size; omega))
    have hmap := HRS.out.map.isMap
    refine ⟨?_, ?_, ?_, drop_mid HRS.out.apart, HRS.out.lo⟩
    · refine (hexw.block rb (row_lt HRS.out.cell) (fun e => ?_)).trans HRS.out.cell
      obtain ⟨es, c9', h2⟩ := hmap
      rw [← e, HRS.out.cell] at h2
      cases h2
    · have hbw := HRS.out.map.lt
      have h3 := hb_qb
      have h4 := HX_w1.out.size
      exact (HMP7.out.keep HX_w8.out id).keep HX_wz.out (fun e => by omega)
    · intro h hh
      have hm : h ∈ G1 ++ h0 :: G2 := by
        rcases List.mem_append.1 hh with hh | hh
        · exact List.mem_append_left _ hh
        · exact List.mem_append_right _ (List.mem_cons_of_mem _ hh)
      refine (HRS.out.hps h hm).keepT hexw (fun k cs t hk e => ?_)
      obtain ⟨es, c9', h2⟩ := hmap
      rw [← e, hk] at h2
      cases h2
end Go.Proofs.YtabjihchcmjdmaaDoor
/-
  A Reass one heap of which has changed, or is gone. By an AI agent.
-/
namespace Go.Proofs.YtabjihchcmjdmaaDoor
open Go.RowKit

theorem ty_ne {w : World} {i j : Nat} {c c' : Array Value} {t t' : TypeId} (hi : w.heap[i]? = some (.cells c t)) (hj : w.heap[j]? = some (.cells c' t')) (h : t ≠ t') : i ≠ j := by
  intro e
  subst e
  rw [hi] at hj
  injection hj with hj
  injection hj with _ h2
  exact h h2
theorem map_ne {w : World} {i j : Nat} {c : Array Value} {t : TypeId} (hi : w.heap[i]? = some (.cells c t)) (hj : ∃ es n, w.heap[j]? = some (.map es n)) : i ≠ j := by
  intro e
  subst e
  obtain ⟨es, n, hj⟩ := hj
  rw [hi] at hj
  cases hj
theorem HpOk.row {w : World} {B : Nat} {h : Hp} (H : HpOk w B h) : ∃ cur, w.heap[h.g]? = some (.cells cur 27) := ownsRow_isCells H.2.1 (k := h.g) rfl
theorem HpOk.keepS {w w' : World} {S : Nat → Prop} {B : Nat} {a : Hp} (H : HpOk w B a) (hx : Ex S w w') (h1 : ¬ S a.hb) (h2 : ¬ S a.g) (h3 : ∀ k cur, w.heap[k]? = some (.cells cur 5) → ¬ S k) : HpOk w' B a := by
  refine ⟨(hx.block a.hb (row_lt H.1) h1).trans H.1, H.2.1.keep hx (fun k hk _ _ => ?_), fun o ho => ⟨(H.2.2.1 o ho).1.keep hx (fun k hk _ _ => ?_), (H.2.2.1 o ho).2⟩, H.2.2.2⟩
  · have e : a.g = k := by injection hk
    rw [← e]
    exact h2
  · obtain ⟨cur, hc⟩ := ownsRow_isCells (H.2.2.1 o ho).1.2 hk
    exact h3 _ _ hc
/-- the blocks of a Reass but its map's -/
theorem RS.more {w w' : World} {B rb bm : Nat} {tm : Int} {G1 G2 : List Hp} {h0 h' : Hp} (H : RS w B rb bm tm (G1 ++ h0 :: G2)) (hx : Ex (fun k => k = h0.hb ∨ k = h0.g) w w') (hh : HpOk w' B h') (hk : h'.k = h0.k) (hb : h'.hb = h0.hb) (hg : h'.g = h0.g ∨ w.heap.size ≤ h'.g) : RS w' B rb bm tm (G1 ++ h' :: G2) := by
  have m0 : h0 ∈ G1 ++ h0 :: G2 := List.mem_append_right _ List.mem_cons_self
  have H0 := H.hps h0 m0
  obtain ⟨c0, hr0⟩ := H0.row
  have keep : ∀ a ∈ G1 ++ h0 :: G2, a.hb ≠ h0.hb → a.g ≠ h0.g → HpOk w' B a := fun a ha e1 e2 => by
    have Ha := H.hps a ha
    obtain ⟨ca, hra⟩ := Ha.row
    refine Ha.keepS hx (fun e => ?_) (fun e => ?_) (fun k cur hc e => ?_)
    · rcases e with e | e
      · exact e1 e
      · exact ty_ne Ha.1 hr0 (by decide) e
    · rcases e with e | e
      · exact ty_ne hra H0.1 (by decide) e
      · exact e2 e
    · rcases e with e | e
      · exact ty_ne hc H0.1 (by decide) e
      · exact ty_ne hc hr0 (by decide) e
  have hgl : ∀ a ∈ G1 ++ h0 :: G2, a.g < w.heap.size := fun a ha => ((H.hps a ha).2.1.lt a.g rfl).2
  have hap := H.apart
  rw [List.pairwise_append, List.pairwise_cons] at hap
  obtain ⟨p1, ⟨p2, p3⟩, p4⟩ := hap
  have l1 : ∀ a ∈ G1, a ∈ G1 ++ h0 :: G2 := fun a ha => List.mem_append_left _ ha
  have l2 : ∀ a ∈ G2, a ∈ G1 ++ h0 :: G2 := fun a ha => List.mem_append_right _ (List.mem_cons_of_mem _ ha)
  refine ⟨?_, ?_, ?_, ?_, H.lo⟩
  · refine (hx.block rb (row_lt H.cell) ?_).trans H.cell
    rintro (e | e)
    · exact ty_ne H.cell H0.1 (by decide) e
    · exact ty_ne H.cell hr0 (by decide) e
  · have e : (G1 ++ h' :: G2).map (fun h => (h.k, h.hb)) = (G1 ++ h0 :: G2).map (fun h => (h.k, h.hb)) := by simp [hk, hb]
    rw [e]
    refine H.map.keep hx ?_
    rintro (e | e)
    · exact map_ne H0.1 H.map.isMap e.symm
    · exact map_ne hr0 H.map.isMap e.symm
  · intro a ha
    rcases List.mem_append.1 ha with ha | ha
    · exact keep a (l1 a ha) (p4 a ha h0 List.mem_cons_self).2.1 (p4 a ha h0 List.mem_cons_self).2.2
    · rcases List.mem_cons.1 ha with rfl | ha
      · exact hh
      · exact keep a (l2 a ha) (p2 a ha).2.1.symm (p2 a ha).2.2.symm
  · rw [List.pairwise_append, List.pairwise_cons]
    refine ⟨p1, ⟨fun b hb' => ?_, p3⟩, fun a ha b hb' => ?_⟩
    · obtain ⟨q1, q2, q3⟩ := p2 b hb'
      refine ⟨hk ▸ q1, hb ▸ q2, ?_⟩
      have := hgl b (l2 b hb')
      rcases hg with hg | hg
      · rw [hg]; exact q3
      · omega
    · rcases List.mem_cons.1 hb' with rfl | hb'
      · obtain ⟨q1, q2, q3⟩ := p4 a ha h0 List.mem_cons_self
        refine ⟨hk ▸ q1, hb ▸ q2, ?_⟩
        have := hgl a (l1 a ha)
        rcases hg with hg | hg
        · rw [hg]; exact q3
        · omega
      · exact p4 a ha b (List.mem_cons_of_mem _ hb')
theorem RS.less {w w' : World} {B rb bm : Nat} {tm : Int} {G1 G2 : List Hp} {h0 : Hp} (H : RS w B rb bm tm (G1 ++ h0 :: G2)) (hx : Ex (fun k => k = bm ∨ k = h0.hb ∨ k = h0.g) w w') (hm : MP w' bm ((G1 ++ G2).map fun h => (h.k, h.hb))) : RS w' B rb bm tm (G1 ++ G2) := by
  have m0 : h0 ∈ G1 ++ h0 :: G2 := List.mem_append_right _ List.mem_cons_self
  have H0 := H.hps h0 m0
  obtain ⟨c0, hr0⟩ := H0.row
  have hmap := H.map.isMap
  have keep : ∀ a ∈ G1 ++ h0 :: G2, a.hb ≠ h0.hb → a.g ≠ h0.g → HpOk w' B a := fun a ha e1 e2 => by
    have Ha := H.hps a ha
    obtain ⟨ca, hra⟩ := Ha.row
    refine Ha.keepS hx (fun e => ?_) (fun e => ?_) (fun k cur hc e => ?_)
    · rcases e with e | e | e
      · exact map_ne Ha.1 hmap e
      · exact e1 e
      · exact ty_ne Ha.1 hr0 (by decide) e
    · rcases e with e | e | e
      · exact map_ne hra hmap e
      · exact ty_ne hra H0.1 (by decide) e
      · exact e2 e
    · rcases e with e | e | e
      · exact map_ne hc hmap e
      · exact ty_ne hc H0.1 (by decide) e
      · exact ty_ne hc hr0 (by decide) e
  have hap := H.apart
  rw [List.pairwise_append, List.pairwise_cons] at hap
  obtain ⟨p1, ⟨p2, p3⟩, p4⟩ := hap
  refine ⟨?_, hm, ?_, drop_mid H.apart, H.lo⟩
  · refine (hx.block rb (row_lt H.cell) ?_).trans H.cell
    rintro (e | e | e)
    · exact map_ne H.cell hmap e
    · exact ty_ne H.cell H0.1 (by decide) e
    · exact ty_ne H.cell hr0 (by decide) e
  · intro a ha
    rcases List.mem_append.1 ha with ha | ha
    · exact keep a (List.mem_append_left _ ha) (p4 a ha h0 List.mem_cons_self).2.1 (p4 a ha h0 List.mem_cons_self).2.2
    · exact keep a (List.mem_append_right _ (List.mem_cons_of_mem _ ha)) (p2 a ha).2.1.symm (p2 a ha).2.2.symm
end Go.Proofs.YtabjihchcmjdmaaDoor
/-
  The contract of (*frag.Reass).Take: one part more. By an AI agent.
-/
namespace Go.Proofs.YtabjihchcmjdmaaDoor
open Go.RowKit

/-- what Take of one part more ends in: it waits, or all is there -/
def MorePost (p : Pk) (w : World) (B rb bm : Nat) (tm : Int) (G1 G2 : List Hp) (h0 : Hp) (e : Ending) (w' : World) : Prop :=
  Ex (fun k => k = bm ∨ k = h0.hb ∨ k = h0.g) w w' ∧ ∃ A1 c1,
    (WH (h0.os ++ [(p, A1, c1)]) none ∧ e = .returned (.tuple #[.agg #[.int .u8 0, .int .u16 0, .bool false, .bool false, .int .i64 0, .int .u8 0, .int .u8 0, .int .u32 0, .int .u32 0, .slice none 0 0], .bool false, .nilIface]) ∧ ∃ h', RS w' B rb bm tm (G1 ++ h' :: G2) ∧ h'.k = h0.k ∧ h'.bg = h0.bg ∧ h'.os = h0.os ++ [(p, A1, c1)]) ∨
    (∃ q A' c', WH (h0.os ++ [(p, A1, c1)]) (some q) ∧ e = .returned (.tuple #[pkv q (.slice A' q.b.length c'), .bool true, .nilIface]) ∧ OB w' w.heap.size (.slice A' q.b.length c') q.b ∧ RS w' B rb bm tm (G1 ++ G2))
set_option maxRecDepth 100000 in
set_option maxHeartbeats 8000000 in
theorem take_more (p : Pk) (A : Option Addr) (c : Nat) (now : Int) (B rb bm : Nat) (tm : Int) (G : List Hp) (w : World) (hrs : RS w B rb bm tm G) (ok : p.ok) (hr : RB w (fun _ => True) (.slice A p.b.length c) p.b) (hA : A = none → c = 0) (hl : p.b.length ≤ 100000) (G1 G2 : List Hp) (h0 : Hp) (h : p.right = 0) (h1 : ¬ (p.off = 0 ∧ p.mf = false)) (hG : G = G1 ++ h0 :: G2) (hk : h0.k = kb p) (hf : h0.os.any (fun o => fightsB p o.1) = false) (hn0 : h0.os.length < 200) :
    Calls Tryd.prog 19 #[.pointer (some ⟨rb, 0, none⟩), pkv p (.slice A p.b.length c), .int .u64 now] w fun e w' => MorePost p w B rb bm tm G1 G2 h0 e w' := by
  have HRS := Lib.hid hrs
  have HOK := Lib.hid ok
  have HR := Lib.hid hr
  have HA := Lib.hid hA
  have HL := Lib.hid hl
  clear hrs ok hr hA hl
  have HRT := Lib.hid (fun w => right_yes p A c w (by have := HL.out; omega) h)
  have HRT0 := Lib.hid h
  have HNP := Lib.hid h1
  subst hG
  have HNO := Lib.hid (lk_mid hk HRS.out.apart)
  have HK0 := Lib.hid hk
  have hh0 := HRS.out.hps h0 (List.mem_append_right _ List.mem_cons_self)
  have hsm := right_sm h
  have HF := Lib.hid hf
  have HN0 := Lib.hid hn0
  have HSM := Lib.hid hsm
  have HH0 := Lib.hid hh0
  clear h h1 hk hf hh0 hsm hn0
  obtain ⟨k0, bg, hz, os, g0, cap0⟩ := h0
  simp only at HNO HK0 HF HN0
  obtain ⟨xtos, xid, xdf, xmf, xoff, xttl, xpr, xsrc, xdst, xb⟩ := p
  simp only at HR HL HRT

  show Calls Tryd.prog 19 #[.pointer (some ⟨rb, 0, none⟩), .agg #[.int .u8 xtos, .int .u16 xid, .bool xdf, .bool xmf, .int .i64 xoff, .int .u8 xttl, .int .u8 xpr, .int .u32 xsrc, .int .u32 xdst, .slice A xb.length c], .int .u64 now] w _
  go_enter Tryd.func19, Tryd.ntmps19
  go_upto_region 1 with fail
  have hx : Ex (fun _ => False) w (w.alloc (.cells #[.int .u8 xtos, .int .u16 xid, .bool xdf, .bool xmf, .int .i64 xoff, .int .u8 xttl, .int .u8 xpr, .int .u32 xsrc, .int .u32 xdst, .slice A xb.length c] 27)) := (Ex.refl _ w).alloc _
  have hb : (w.alloc (.cells #[.int .u8 xtos, .int .u16 xid, .bool xdf, .bool xmf, .int .i64 xoff, .int .u8 xttl, .int .u8 xpr, .int .u32 xsrc, .int .u32 xdst, .slice A xb.length c] 27)).heap[w.heap.size]? = some (.cells #[.int .u8 xtos, .int .u16 xid, .bool xdf, .bool xmf, .int .i64 xoff, .int .u8 xttl, .int .u8 xpr, .int .u32 xsrc, .int .u32 xdst, .slice A xb.length c] 27) := heap_alloc_new w _
  have hs1 : (w.alloc (.cells #[.int .u8 xtos, .int .u16 xid, .bool xdf, .bool xmf, .int .i64 xoff, .int .u8 xttl, .int .u8 xpr, .int .u32 xsrc, .int .u32 xdst, .slice A xb.length c] 27)).heap.size = w.heap.size + 1 := by simp
  obtain ⟨pb, hpb⟩ : ∃ pb, pb = w.heap.size := ⟨_, rfl⟩
  have hb_pb : w.heap.size ≤ pb := by omega
  rw [← hpb] at hb hs1 
  try simp only [← hpb]
  generalize w.alloc (.cells #[.int .u8 xtos, .int .u16 xid, .bool xdf, .bool xmf, .int .i64 xoff, .int .u8 xttl, .int .u8 xpr, .int .u32 xsrc, .int .u32 xdst, .slice A xb.length c] 27) = w1 at hx hb  hs1 ⊢
  try simp only [← hs1]
  clear hs1
  clear hpb
  have HX_w1 := Lib.hid hx
  clear hx
  have B_pb := Lib.hid hb
  clear hb
  have hx : Ex (fun _ => False) w1 (w1.alloc (.cells #[.int .u8 0, .int .u16 0, .bool false, .bool false, .int .i64 0, .int .u8 0, .int .u8 0, .int .u32 0, .int .u32 0, .slice none 0 0] 27)) := (Ex.refl _ w1).alloc _
  have hb : (w1.alloc (.cells #[.int .u8 0, .int .u16 0, .bool false, .bool false, .int .i64 0, .int .u8 0, .int .u8 0, .int .u32 0, .int .u32 0, .slice none 0 0] 27)).heap[w1.heap.size]? = some (.cells #[.int .u8 0, .int .u16 0, .bool false, .bool false, .int .i64 0, .int .u8 0, .int .u8 0, .int .u32 0, .int .u32 0, .slice none 0 0] 27) := heap_alloc_new w1 _
  obtain ⟨qb, hqb⟩ : ∃ qb, qb = w1.heap.size := ⟨_, rfl⟩
  have hb_qb : w1.heap.size ≤ qb := by omega
  rw [← hqb] at hb
  try simp only [← hqb]
  generalize w1.alloc (.cells #[.int .u8 0, .int .u16 0, .bool false, .bool false, .int .i64 0, .int .u8 0, .int .u8 0, .int .u32 0, .int .u32 0, .slice none 0 0] 27) = w2 at hx hb ⊢
  clear hqb
  have HX_w2 := Lib.hid hx
  clear hx
  have B_qb := Lib.hid hb
  clear hb
  have hpbl := row_lt (show w1.heap[pb]? = _ from B_pb.out)
  have ne_qb_pb : qb ≠ pb := by omega
  have HPB1 := Lib.hid hpbl
  clear hpbl
  have HQB2 := Lib.hid (row_lt B_qb.out)
  replace B_pb := Lib.hid ((HX_w2.out.block pb (row_lt B_pb.out) id).trans B_pb.out)
  have cpb0 := row_cell (k := 0) (v := .int .u8 xtos) B_pb.out rfl
  have cpb1 := row_cell (k := 1) (v := .int .u16 xid) B_pb.out rfl
  have cpb2 := row_cell (k := 2) (v := .bool xdf) B_pb.out rfl
  have cpb3 := row_cell (k := 3) (v := .bool xmf) B_pb.out rfl
  have cpb4 := row_cell (k := 4) (v := .int .i64 xoff) B_pb.out rfl
  have cpb5 := row_cell (k := 5) (v := .int .u8 xttl) B_pb.out rfl
  have cpb6 := row_cell (k := 6) (v := .int .u8 xpr) B_pb.out rfl
  have cpb7 := row_cell (k := 7) (v := .int .u32 xsrc) B_pb.out rfl
  have cpb8 := row_cell (k := 8) (v := .int .u32 xdst) B_pb.out rfl
  have cpb9 := row_cell (k := 9) (v := .slice A xb.length c) B_pb.out rfl
  go_wp2_with fail
  refine (HRT.out w2).mono ?_
  rintro e w3 ⟨rfl, hx⟩
  clear cpb0 cpb1 cpb2 cpb3 cpb4 cpb5 cpb6 cpb7 cpb8 cpb9
  have HX_w3 := Lib.hid hx
  clear hx
  replace B_pb := Lib.hid ((HX_w3.out.block pb (row_lt B_pb.out) id).trans B_pb.out)
  have cpb3 := row_cell (k := 3) (v := .bool xmf) B_pb.out rfl
  have cpb4 := row_cell (k := 4) (v := .int .i64 xoff) B_pb.out rfl
  go_upto_region 4 with fail
  go_cut [28] (fun x wx => x = .bool false ∧ wx = w3)
  case first =>
    by_cases h0 : xoff = 0
    · have hm : xmf = true := by
        cases hq : xmf
        · exact absurd ⟨h0, hq⟩ HNP.out
        · rfl
      rw [h0] at cpb4
      rw [hm] at cpb3
      clear h0 hm
      go_wp2_with fail
      go_meet
      exact ⟨rfl, rfl⟩
    · have e0 : (xoff == 0) = false := beq_eq_false_iff_ne.2 h0
      go_wp2_with fail
      go_meet
      exact ⟨rfl, rfl⟩
  case rest =>
    obtain ⟨rfl, hwc⟩ := hcut
    have hwc2 := hwc.symm
    clear hwc
    subst hwc2
    clear cpb3 cpb4
    have cpb1 := row_cell (k := 1) (v := .int .u16 xid) B_pb.out rfl
    have cpb6 := row_cell (k := 6) (v := .int .u8 xpr) B_pb.out rfl
    have cpb7 := row_cell (k := 7) (v := .int .u32 xsrc) B_pb.out rfl
    have cpb8 := row_cell (k := 8) (v := .int .u32 xdst) B_pb.out rfl
    go_upto_region 7 with fail
    clear cpb1 cpb6 cpb7 cpb8
    have hx : Ex (fun _ => False) w3 (w3.alloc (.cells #[.int .u32 xsrc, .int .u32 xdst, .int .u8 xpr, .int .u16 xid] 78)) := (Ex.refl _ w3).alloc _
    have hb : (w3.alloc (.cells #[.int .u32 xsrc, .int .u32 xdst, .int .u8 xpr, .int .u16 xid] 78)).heap[w3.heap.size]? = some (.cells #[.int .u32 xsrc, .int .u32 xdst, .int .u8 xpr, .int .u16 xid] 78) := heap_alloc_new w3 _
    obtain ⟨kx, hkx⟩ : ∃ kx, kx = w3.heap.size := ⟨_, rfl⟩
    have hb_kx : w3.heap.size ≤ kx := by omega
    rw [← hkx] at hb
    try simp only [← hkx]
    generalize w3.alloc (.cells #[.int .u32 xsrc, .int .u32 xdst, .int .u8 xpr, .int .u16 xid] 78) = w4 at hx hb ⊢
    clear hkx
    have HX_w4 := Lib.hid hx
    clear hx
    have B_kx := Lib.hid hb
    clear hb
    have HKX4 := Lib.hid (row_lt B_kx.out)
    have hrs4 := (HRS.out.keep (((HX_w1.out.trans HX_w2.out).trans HX_w3.out).trans HX_w4.out))
    have crb1 := row_cell (k := 1) (v := .map (some bm)) hrs4.cell rfl
    have hlook : ∀ W, Ex (fun _ => False) w4 W → (Instr.lookup 74 (.map (some bm)) (.agg #[.int .u32 xsrc, .int .u32 xdst, .int .u8 xpr, .int .u16 xid]) false).run Tryd.prog W = .ok (.pointer (some ⟨hz, 0, none⟩)) W := by
      intro W hx
      have h := (hrs4.map.keep hx id).look (⟨xtos, xid, xdf, xmf, xoff, xttl, xpr, xsrc, xdst, xb⟩ : Pk) HOK.out
      rw [show lk _ _ = _ from HNO.out] at h
      exact h
    have HLOOK := Lib.hid hlook
    have HRS4 := Lib.hid hrs4
    clear hlook hrs4
    have ckx0 := row_cell (k := 0) (v := .int .u32 xsrc) B_kx.out rfl
    have ckx1 := row_cell (k := 1) (v := .int .u32 xdst) B_kx.out rfl
    have ckx2 := row_cell (k := 2) (v := .int .u8 xpr) B_kx.out rfl
    have ckx3 := row_cell (k := 3) (v := .int .u16 xid) B_kx.out rfl
    have hS0 : Ex (fun _ => False) w4 w4.drew := (Ex.refl _ w4).drew
    refine wp_region_held_drew (S := fun W => Ex (fun _ => False) w4 W) (by kernel_rfl) hS0 (fun _ => ?_)
    refine wpAnyH_take (i := 0) (oi := { dst := some 40, op := Go.Op.move (Go.Operand.tmp 0), type := 45, pos := "frag.go:125", after := #[], guard := none }) (v := ?v1) rfl (by kernel_rfl) (by kernel_rfl) (by kernel_rfl) (fun _ _ _ h => h) (Or.inl ⟨by rfl, ?hy1⟩) (by assumption) ?rest1
    case hy1 => (intro w hSw; (try dsimp only at hSw); have eckx0 := hSw.cell ckx0 id; have eckx1 := hSw.cell ckx1 id; have eckx2 := hSw.cell ckx2 id; have eckx3 := hSw.cell ckx3 id; have ecrb1 := hSw.cell crb1 id; have el := HLOOK.out w hSw; go_simp <;> with_reducible rfl)
    try simp only [Act.put, List.setIfInBounds_toArray, List.set_cons_zero, List.set_cons_succ]
    refine wpAnyH_take (i := 1) (oi := { dst := some 41, op := Go.Op.nilCheck (Go.Operand.tmp 40), type := 0, pos := "frag.go:125", after := #[{ on := 0, ground := Go.Ground.data }], guard := none }) (v := ?v2) rfl (by kernel_rfl) (by kernel_rfl) (by kernel_rfl) (fun _ _ _ h => h) (Or.inl ⟨by rfl, ?hy2⟩) (by assumption) ?rest2
    case hy2 => (intro w hSw; (try dsimp only at hSw); have eckx0 := hSw.cell ckx0 id; have eckx1 := hSw.cell ckx1 id; have eckx2 := hSw.cell ckx2 id; have eckx3 := hSw.cell ckx3 id; have ecrb1 := hSw.cell crb1 id; have el := HLOOK.out w hSw; go_simp <;> with_reducible rfl)
    try simp only [Act.put, List.setIfInBounds_toArray, List.set_cons_zero, List.set_cons_succ]
    refine wpAnyH_take (i := 2) (oi := { dst := some 42, op := Go.Op.fieldAddr 76 (Go.Operand.tmp 41) 1, type := 0, pos := "frag.go:125", after := #[{ on := 1, ground := Go.Ground.data }], guard := none }) (v := ?v3) rfl (by kernel_rfl) (by kernel_rfl) (by kernel_rfl) (fun _ _ _ h => h) (Or.inl ⟨by rfl, ?hy3⟩) (by assumption) ?rest3
    case hy3 => (intro w hSw; (try dsimp only at hSw); have eckx0 := hSw.cell ckx0 id; have eckx1 := hSw.cell ckx1 id; have eckx2 := hSw.cell ckx2 id; have eckx3 := hSw.cell ckx3 id; have ecrb1 := hSw.cell crb1 id; have el := HLOOK.out w hSw; go_simp <;> with_reducible rfl)
    try simp only [Act.put, List.setIfInBounds_toArray, List.set_cons_zero, List.set_cons_succ]
    refine wpAnyH_take (i := 3) (oi := { dst := some 43, op := Go.Op.load 74 (Go.Operand.tmp 42), type := 74, pos := "frag.go:125", after := #[{ on := 2, ground := Go.Ground.data }], guard := none }) (v := ?v4) rfl (by kernel_rfl) (by kernel_rfl) (by kernel_rfl) (fun _ _ _ h => h) (Or.inl ⟨by rfl, ?hy4⟩) (by assumption) ?rest4
    case hy4 => (intro w hSw; (try dsimp only at hSw); have eckx0 := hSw.cell ckx0 id; have eckx1 := hSw.cell ckx1 id; have eckx2 := hSw.cell ckx2 id; have eckx3 := hSw.cell ckx3 id; have ecrb1 := hSw.cell crb1 id; have el := HLOOK.out w hSw; go_simp <;> with_reducible rfl)
    try simp only [Act.put, List.setIfInBounds_toArray, List.set_cons_zero, List.set_cons_succ]
    refine wpAnyH_take (i := 4) (oi := { dst := some 44, op := Go.Op.load 78 (Go.Operand.tmp 10), type := 78, pos := "frag.go:125", after := #[], guard := none }) (v := ?v5) rfl (by kernel_rfl) (by kernel_rfl) (by kernel_rfl) (fun _ _ _ h => h) (Or.inl ⟨by rfl, ?hy5⟩) (by assumption) ?rest5
    case hy5 => (intro w hSw; (try dsimp only at hSw); have eckx0 := hSw.cell ckx0 id; have eckx1 := hSw.cell ckx1 id; have eckx2 := hSw.cell ckx2 id; have eckx3 := hSw.cell ckx3 id; have ecrb1 := hSw.cell crb1 id; have el := HLOOK.out w hSw; go_simp <;> with_reducible rfl)
    try simp only [Act.put, List.setIfInBounds_toArray, List.set_cons_zero, List.set_cons_succ]
    refine wpAnyH_take (i := 5) (oi := { dst := some 45, op := Go.Op.lookup 74 (Go.Operand.tmp 43) (Go.Operand.tmp 44) false, type := 79, pos := "frag.go:125", after := #[{ on := 3, ground := Go.Ground.data }, { on := 4, ground := Go.Ground.data }], guard := none }) (v := ?v6) rfl (by kernel_rfl) (by kernel_rfl) (by kernel_rfl) (fun _ _ _ h => h) (Or.inl ⟨by rfl, ?hy6⟩) (by assumption) ?rest6
    case hy6 => (intro w hSw; (try dsimp only at hSw); have eckx0 := hSw.cell ckx0 id; have eckx1 := hSw.cell ckx1 id; have eckx2 := hSw.cell ckx2 id; have eckx3 := hSw.cell ckx3 id; have ecrb1 := hSw.cell crb1 id; have el := HLOOK.out w hSw; go_simp <;> with_reducible rfl)
    try simp only [Act.put, List.setIfInBounds_toArray, List.set_cons_zero, List.set_cons_succ]
    refine wpAnyH_take (i := 6) (oi := { dst := some 11, op := Go.Op.assign (Go.Operand.tmp 45), type := 79, pos := "frag.go:125", after := #[{ on := 5, ground := Go.Ground.data }, { on := 0, ground := Go.Ground.phase }, { on := 1, ground := Go.Ground.phase }, { on := 2, ground := Go.Ground.phase }, { on := 3, ground := Go.Ground.phase }, { on := 4, ground := Go.Ground.phase }, { on := 5, ground := Go.Ground.phase }], guard := none }) (v := ?v7) rfl (by kernel_rfl) (by kernel_rfl) (by kernel_rfl) (fun _ _ _ h => h) (Or.inl ⟨by rfl, ?hy7⟩) (by assumption) ?rest7
    case hy7 => (intro w hSw; (try dsimp only at hSw); have eckx0 := hSw.cell ckx0 id; have eckx1 := hSw.cell ckx1 id; have eckx2 := hSw.cell ckx2 id; have eckx3 := hSw.cell ckx3 id; have ecrb1 := hSw.cell crb1 id; have el := HLOOK.out w hSw; go_simp <;> with_reducible rfl)
    try simp only [Act.put, List.setIfInBounds_toArray, List.set_cons_zero, List.set_cons_succ]
    refine wpAnyH_done (by kernel_rfl) ?_ _
    generalize w4.drew = w5 at hS0 ⊢
    have hx := hS0
    clear hS0 crb1 HLOOK ckx0 ckx1 ckx2 ckx3
    have HX_w5 := Lib.hid hx
    clear hx
    have hrs5 := HRS4.out.keep HX_w5.out
    have HRS5 := Lib.hid hrs5
    have crb1 := row_cell (k := 1) (v := .map (some bm)) hrs5.cell rfl
    have hlen := fun ty => hrs5.map.len ty
    simp only [List.length_map] at hlen
    clear hrs5
    clear hlen crb1
    have hh5 := HH0.out.keep ((((HX_w1.out.trans HX_w2.out).trans HX_w3.out).trans HX_w4.out).trans HX_w5.out)
    have B_hz := Lib.hid hh5.1
    have HH5 := Lib.hid hh5
    have chz1 := row_cell (k := 1) (v := .slice (some ⟨g0, 0, none⟩) os.length cap0) B_hz.out rfl
    have hrow5 : PRow w5 g0 os := by
      intro i hi k u hu
      obtain ⟨g', c', e1, _, h4⟩ := hh5.2.1.get i hi
      injection e1 with e1 _ _
      injection e1 with e1
      injection e1 with e1
      change g0 = g' at e1
      rw [e1]
      exact h4 k u hu
    have hcon := con_any (⟨xtos, xid, xdf, xmf, xoff, xttl, xpr, xsrc, xdst, xb⟩ : Pk) A c pb g0 cap0 os.length os rfl hh5.2.2.2.1 (by have := HN0.out; omega) w5 (((HX_w4.out.trans HX_w5.out).block pb (row_lt B_pb.out) id).trans B_pb.out) HSM.out (RB.keep HR.out ((((HX_w1.out.trans HX_w2.out).trans HX_w3.out).trans HX_w4.out).trans HX_w5.out) (fun _ _ _ => id)) (fun o ho => ⟨right_sm (hh5.2.2.1 o ho).2.2, RB.any (hh5.2.2.1 o ho).1.rb⟩) hrow5
    rw [HF.out] at hcon
    have HCON := Lib.hid hcon
    have hmf : ∀ (fn : Fn) (first cap : Array Value) (w : World), (Instr.makeFunc fn first cap).run Tryd.prog w = .ok (.func fn first cap) w := fun _ _ _ _ => rfl
    clear hcon hrow5 hh5
    go_wp2_with fail
    refine HCON.out.mono ?_
    rintro e w6 ⟨rfl, hx⟩
    clear chz1
    have HX_w6 := Lib.hid hx
    clear hx
    have HR8 := Lib.hid (RB.keep HR.out (((((HX_w1.out.trans HX_w2.out).trans HX_w3.out).trans HX_w4.out).trans HX_w5.out).trans HX_w6.out) (fun _ _ _ => id))
    have hh6 := HH5.out.keep HX_w6.out
    have HH6 := Lib.hid hh6
    have hgb := hh6.2.1.lt g0 rfl
    have HG8 := Lib.hid hgb.2
    have HB8 := Lib.hid HRS.out.base
    have HB8 := Lib.hid (show B ≤ w6.heap.size by have h1 := HB8.out; have h2 := (((((HX_w1.out.trans HX_w2.out).trans HX_w3.out).trans HX_w4.out).trans HX_w5.out).trans HX_w6.out).size; omega)
    replace B_hz := Lib.hid hh6.1
    have HZ8 := Lib.hid (row_lt B_hz.out)
    have HOP8 := Lib.hid (show OP w6 B (.slice (some ⟨g0, 0, none⟩) os.length cap0) os from hh6.2.1)
    have HZB := Lib.hid (show hz ≠ g0 by
      intro e
      obtain ⟨cur, hc⟩ := ownsRow_isCells hh6.2.1 (k := g0) rfl
      have h2 := hh6.1
      simp only at h2
      rw [e, hc] at h2
      injection h2 with h2
      injection h2 with _ h3
      exact absurd h3 (by decide))
    have ne_hz_g0 := HZB.out
    have hwlo : w.heap.size ≤ pb := hb_pb
    have hhw : hz < w.heap.size := row_lt HH0.out.1
    have hgw : g0 < w.heap.size := (HH0.out.2.1.lt g0 rfl).2
    have HPBH := Lib.hid (show ¬ (pb = hz ∨ pb = g0) by omega)
    have HQBH := Lib.hid (show ¬ (qb = hz ∨ qb = g0) by have h4 := HX_w1.out.size; have h3 := hb_qb; omega)
    clear hh6 hgb hwlo hhw hgw
    replace B_pb := Lib.hid ((((HX_w4.out.trans HX_w5.out).trans HX_w6.out).block pb (row_lt B_pb.out) id).trans B_pb.out)
    replace B_qb := Lib.hid (((((HX_w3.out.trans HX_w4.out).trans HX_w5.out).trans HX_w6.out).block qb (row_lt B_qb.out) id).trans B_qb.out)
    replace B_kx := Lib.hid (((HX_w5.out.trans HX_w6.out).block kx (row_lt B_kx.out) id).trans B_kx.out)
    go_upto_region 16 with fail
    clear hmf
    generalize w6 = w8 at *
    obtain ⟨i1, hj, hy0, hy1, hy2⟩ := info_parts Tryd.info27
    have cpb0 := row_cell (k := 0) (v := .int .u8 xtos) B_pb.out rfl
    have cpb1 := row_cell (k := 1) (v := .int .u16 xid) B_pb.out rfl
    have cpb2 := row_cell (k := 2) (v := .bool xdf) B_pb.out rfl
    have cpb3 := row_cell (k := 3) (v := .bool xmf) B_pb.out rfl
    have cpb4 := row_cell (k := 4) (v := .int .i64 xoff) B_pb.out rfl
    have cpb5 := row_cell (k := 5) (v := .int .u8 xttl) B_pb.out rfl
    have cpb6 := row_cell (k := 6) (v := .int .u8 xpr) B_pb.out rfl
    have cpb7 := row_cell (k := 7) (v := .int .u32 xsrc) B_pb.out rfl
    have cpb8 := row_cell (k := 8) (v := .int .u32 xdst) B_pb.out rfl
    have cpb9 := row_cell (k := 9) (v := .slice A xb.length c) B_pb.out rfl
    go_cut [11] (fun x wx => x = .pointer (some ⟨hz, 0, none⟩) ∧ Hid (∃ A7 c7 A1 c1, wx.heap[hz]? = some (.cells #[.int .u64 bg, .slice A7 (os.length + 1) c7] 81) ∧ OP wx B (.slice A7 (os.length + 1) c7) (os ++ [((⟨xtos, xid, xdf, xmf, xoff, xttl, xpr, xsrc, xdst, xb⟩ : Pk), A1, c1)]) ∧ OB wx w8.heap.size (.slice A1 xb.length c1) xb ∧ Ex (fun k => k = hz ∨ k = g0) w8 wx ∧ (∀ k, (Value.slice A7 (os.length + 1) c7).ownBlock = some k → k = g0 ∨ w8.heap.size ≤ k)))
    case first =>
      have hS0 : Ex (fun k => k = hz ∨ k = g0) w8 w8.drew := (Ex.refl _ w8).drew
      refine wp_region_held_drew (S := fun W => Ex (fun k => k = hz ∨ k = g0) w8 W) (by kernel_rfl) hS0 (fun _ => ?_)
      have HX_w9 := Lib.hid ((Ex.refl (fun _ => False) w8).drew)
      generalize w8.drew = w9 at hS0 HX_w9 ⊢
      refine wpAnyH_take (i := 0) (oi := { dst := some 87, op := Go.Op.move (Go.Operand.tmp 11), type := 79, pos := "frag.go:136", after := #[], guard := none }) (v := ?v8) rfl (by kernel_rfl) (by kernel_rfl) (by kernel_rfl) (fun _ _ _ h => h) (Or.inl ⟨by rfl, ?hy8⟩) (by assumption) ?rest8
      case hy8 => (intro w hSw; (try dsimp only at hSw); have ecpb0 := hSw.cell cpb0 HPBH.out; have ecpb1 := hSw.cell cpb1 HPBH.out; have ecpb2 := hSw.cell cpb2 HPBH.out; have ecpb3 := hSw.cell cpb3 HPBH.out; have ecpb4 := hSw.cell cpb4 HPBH.out; have ecpb5 := hSw.cell cpb5 HPBH.out; have ecpb6 := hSw.cell cpb6 HPBH.out; have ecpb7 := hSw.cell cpb7 HPBH.out; have ecpb8 := hSw.cell cpb8 HPBH.out; have ecpb9 := hSw.cell cpb9 HPBH.out; go_simp <;> with_reducible rfl)
      try simp only [Act.put, List.setIfInBounds_toArray, List.set_cons_zero, List.set_cons_succ]
      refine wpAnyH_take (i := 1) (oi := { dst := some 88, op := Go.Op.move (Go.Operand.tmp 11), type := 79, pos := "frag.go:136", after := #[], guard := none }) (v := ?v9) rfl (by kernel_rfl) (by kernel_rfl) (by kernel_rfl) (fun _ _ _ h => h) (Or.inl ⟨by rfl, ?hy9⟩) (by assumption) ?rest9
      case hy9 => (intro w hSw; (try dsimp only at hSw); have ecpb0 := hSw.cell cpb0 HPBH.out; have ecpb1 := hSw.cell cpb1 HPBH.out; have ecpb2 := hSw.cell cpb2 HPBH.out; have ecpb3 := hSw.cell cpb3 HPBH.out; have ecpb4 := hSw.cell cpb4 HPBH.out; have ecpb5 := hSw.cell cpb5 HPBH.out; have ecpb6 := hSw.cell cpb6 HPBH.out; have ecpb7 := hSw.cell cpb7 HPBH.out; have ecpb8 := hSw.cell cpb8 HPBH.out; have ecpb9 := hSw.cell cpb9 HPBH.out; go_simp <;> with_reducible rfl)
      try simp only [Act.put, List.setIfInBounds_toArray, List.set_cons_zero, List.set_cons_succ]
      refine wpAnyH_take (i := 2) (oi := { dst := some 89, op := Go.Op.nilCheck (Go.Operand.tmp 88), type := 0, pos := "frag.go:136", after := #[{ on := 1, ground := Go.Ground.data }], guard := none }) (v := ?v10) rfl (by kernel_rfl) (by kernel_rfl) (by kernel_rfl) (fun _ _ _ h => h) (Or.inl ⟨by rfl, ?hy10⟩) (by assumption) ?rest10
      case hy10 => (intro w hSw; (try dsimp only at hSw); have ecpb0 := hSw.cell cpb0 HPBH.out; have ecpb1 := hSw.cell cpb1 HPBH.out; have ecpb2 := hSw.cell cpb2 HPBH.out; have ecpb3 := hSw.cell cpb3 HPBH.out; have ecpb4 := hSw.cell cpb4 HPBH.out; have ecpb5 := hSw.cell cpb5 HPBH.out; have ecpb6 := hSw.cell cpb6 HPBH.out; have ecpb7 := hSw.cell cpb7 HPBH.out; have ecpb8 := hSw.cell cpb8 HPBH.out; have ecpb9 := hSw.cell cpb9 HPBH.out; go_simp <;> with_reducible rfl)
      try simp only [Act.put, List.setIfInBounds_toArray, List.set_cons_zero, List.set_cons_succ]
      refine wpAnyH_take (i := 3) (oi := { dst := some 90, op := Go.Op.fieldAddr 81 (Go.Operand.tmp 89) 1, type := 0, pos := "frag.go:136", after := #[{ on := 2, ground := Go.Ground.data }], guard := none }) (v := ?v11) rfl (by kernel_rfl) (by kernel_rfl) (by kernel_rfl) (fun _ _ _ h => h) (Or.inl ⟨by rfl, ?hy11⟩) (by assumption) ?rest11
      case hy11 => (intro w hSw; (try dsimp only at hSw); have ecpb0 := hSw.cell cpb0 HPBH.out; have ecpb1 := hSw.cell cpb1 HPBH.out; have ecpb2 := hSw.cell cpb2 HPBH.out; have ecpb3 := hSw.cell cpb3 HPBH.out; have ecpb4 := hSw.cell cpb4 HPBH.out; have ecpb5 := hSw.cell cpb5 HPBH.out; have ecpb6 := hSw.cell cpb6 HPBH.out; have ecpb7 := hSw.cell cpb7 HPBH.out; have ecpb8 := hSw.cell cpb8 HPBH.out; have ecpb9 := hSw.cell cpb9 HPBH.out; go_simp <;> with_reducible rfl)
      try simp only [Act.put, List.setIfInBounds_toArray, List.set_cons_zero, List.set_cons_succ]
      refine wpAnyH_take (i := 5) (oi := { dst := some 92, op := Go.Op.load 27 (Go.Operand.tmp 4), type := 27, pos := "frag.go:136", after := #[], guard := none }) (v := ?v12) rfl (by kernel_rfl) (by kernel_rfl) (by kernel_rfl) (fun _ _ _ h => h) (Or.inl ⟨by rfl, ?hy12⟩) (by assumption) ?rest12
      case hy12 => (intro w hSw; (try dsimp only at hSw); have ecpb0 := hSw.cell cpb0 HPBH.out; have ecpb1 := hSw.cell cpb1 HPBH.out; have ecpb2 := hSw.cell cpb2 HPBH.out; have ecpb3 := hSw.cell cpb3 HPBH.out; have ecpb4 := hSw.cell cpb4 HPBH.out; have ecpb5 := hSw.cell cpb5 HPBH.out; have ecpb6 := hSw.cell cpb6 HPBH.out; have ecpb7 := hSw.cell cpb7 HPBH.out; have ecpb8 := hSw.cell cpb8 HPBH.out; have ecpb9 := hSw.cell cpb9 HPBH.out; go_simp <;> with_reducible rfl)
      try simp only [Act.put, List.setIfInBounds_toArray, List.set_cons_zero, List.set_cons_succ]
      refine wpAnyH_ready (rs := [4, 6]) (by kernel_rfl) (by simp) ?_
      refine AllReadyH.cons (o := { dst := some 91, op := Go.Op.load 33 (Go.Operand.tmp 90), type := 33, pos := "frag.go:136", after := #[{ on := 3, ground := Go.Ground.data }], guard := none }) rfl (fun K hK => ?_) ?_
      ·
        have chz1 := row_cell (k := 1) (v := .slice (some ⟨g0, 0, none⟩) os.length cap0) ((HX_w9.out.block hz (row_lt B_hz.out) id).trans B_hz.out) rfl
        go_simp
        clear chz1
        have hS_w9 : Ex (fun k => k = hz ∨ k = g0) w8 w9 := ((Ex.refl (fun k => k = hz ∨ k = g0) w8).trans (HX_w9.out.mono (fun _ _ h => h.elim)))
        refine hK.out _ _ hS_w9 (fun _ => ?_)
        refine wpAnyH_ready (rs := [6]) (by kernel_rfl) (by simp) ?_
        refine AllReadyH.cons (o := { dst := some 93, op := Go.Op.call { callee := Go.Callee.value (Go.Operand.func 25), args := #[Go.Operand.tmp 92], argTypes := #[27] }, type := 27, pos := "frag.go:136", after := #[{ on := 5, ground := Go.Ground.data }], guard := none }) rfl (fun K hK => ?_) AllReadyH.nil
        go_simp
        refine (own_any (fun _ => True) (⟨xtos, xid, xdf, xmf, xoff, xttl, xpr, xsrc, xdst, xb⟩ : Pk) A c _ (RB.keep HR8.out HX_w9.out (fun _ _ _ => id)) HA.out (by have := HL.out; show xb.length ≤ _; omega)).mono ?_
        rintro e wo ⟨A1, c1, rfl, ho, hx⟩
        have hv : pkv (⟨xtos, xid, xdf, xmf, xoff, xttl, xpr, xsrc, xdst, xb⟩ : Pk) (.slice A1 (⟨xtos, xid, xdf, xmf, xoff, xttl, xpr, xsrc, xdst, xb⟩ : Pk).b.length c1) = .agg #[.int .u8 xtos, .int .u16 xid, .bool xdf, .bool xmf, .int .i64 xoff, .int .u8 xttl, .int .u8 xpr, .int .u32 xsrc, .int .u32 xdst, .slice A1 xb.length c1] := rfl
        rw [hv]
        have HO := Lib.hid (show OB wo w9.heap.size (.slice A1 xb.length c1) xb from ho)
        have HOL := Lib.hid (show w8.heap.size ≤ w9.heap.size from HX_w9.out.size)
        clear hv ho
        have HX_wo := Lib.hid hx
        clear hx
        have hS_wo : Ex (fun k => k = hz ∨ k = g0) w8 wo := (((Ex.refl (fun k => k = hz ∨ k = g0) w8).trans (HX_w9.out.mono (fun _ _ h => h.elim))).trans (HX_wo.out.mono (fun _ _ h => h.elim)))
        refine hK.out _ _ hS_wo (fun _ => ?_)
        refine wpAnyH_ready (rs := [7]) (by kernel_rfl) (by simp) ?_
        refine AllReadyH.cons (o := { dst := some 94, op := Go.Op.buildSlice 33 1 #[(0, Go.Operand.tmp 93)], type := 33, pos := "frag.go:136", after := #[{ on := 6, ground := Go.Ground.data }], guard := none }) rfl (fun K hK => ?_) AllReadyH.nil
        go_simp
        have hx : Ex (fun _ => False) wo (wo.alloc (.cells #[.int .u8 xtos, .int .u16 xid, .bool xdf, .bool xmf, .int .i64 xoff, .int .u8 xttl, .int .u8 xpr, .int .u32 xsrc, .int .u32 xdst, .slice A1 xb.length c1] 27)) := (Ex.refl _ wo).alloc _
        have hb : (wo.alloc (.cells #[.int .u8 xtos, .int .u16 xid, .bool xdf, .bool xmf, .int .i64 xoff, .int .u8 xttl, .int .u8 xpr, .int .u32 xsrc, .int .u32 xdst, .slice A1 xb.length c1] 27)).heap[wo.heap.size]? = some (.cells #[.int .u8 xtos, .int .u16 xid, .bool xdf, .bool xmf, .int .i64 xoff, .int .u8 xttl, .int .u8 xpr, .int .u32 xsrc, .int .u32 xdst, .slice A1 xb.length c1] 27) := heap_alloc_new wo _
        obtain ⟨rw, hrw⟩ : ∃ rw, rw = wo.heap.size := ⟨_, rfl⟩
        have hb_rw : wo.heap.size ≤ rw := by omega
        rw [← hrw] at hb
        try simp only [← hrw]
        generalize wo.alloc (.cells #[.int .u8 xtos, .int .u16 xid, .bool xdf, .bool xmf, .int .i64 xoff, .int .u8 xttl, .int .u8 xpr, .int .u32 xsrc, .int .u32 xdst, .slice A1 xb.length c1] 27) = wq at hx hb ⊢
        clear hrw
        have HX_wq := Lib.hid hx
        clear hx
        have B_rw := Lib.hid hb
        clear hb
        have hS_wq : Ex (fun k => k = hz ∨ k = g0) w8 wq := ((((Ex.refl (fun k => k = hz ∨ k = g0) w8).trans (HX_w9.out.mono (fun _ _ h => h.elim))).trans (HX_wo.out.mono (fun _ _ h => h.elim))).trans (HX_wq.out.mono (fun _ _ h => h.elim)))
        refine hK.out _ _ hS_wq (fun _ => ?_)
        refine wpAnyH_ready (rs := [8]) (by kernel_rfl) (by simp) ?_
        refine AllReadyH.cons (o := { dst := some 95, op := Go.Op.call { callee := Go.Callee.builtin Go.Builtin.append, args := #[Go.Operand.tmp 91, Go.Operand.tmp 94], argTypes := #[33, 33] }, type := 33, pos := "frag.go:136", after := #[{ on := 4, ground := Go.Ground.data }, { on := 7, ground := Go.Ground.data }, { on := 6, ground := Go.Ground.chain }], guard := none }) rfl (fun K hK => ?_) AllReadyH.nil
        obtain ⟨v7, w7a, hrun, hown, hg7, _, hown7⟩ := run_append_row (Pr := Tryd.prog) wq B 33 33 27 i1 _ 10 56 Tryd.underlying33 hj hy0 hy1 hy2 rfl (by decide) (.slice (some ⟨g0, 0, none⟩) os.length cap0) os.length (os.flatMap ocl) (HOP8.out.keep ((HX_w9.out.trans HX_wo.out).trans HX_wq.out) (fun _ _ _ _ => id)) (some ⟨rw, 0, none⟩) 1 1 (ocl ((⟨xtos, xid, xdf, xmf, xoff, xttl, xpr, xsrc, xdst, xb⟩ : Pk), A1, c1)) rfl (fun j u hu => ⟨_, rfl, by rw [Addr.add_lit]; exact row_cell B_rw.out (by simpa [ocl, pcl] using hu)⟩) (fun u hu => ocl_one _ u hu) (by have := HN0.out; simp only [maxLen]; omega) (by have := HN0.out; omega) (by have h1 := HB8.out; have h2 := ((HX_w9.out.trans HX_wo.out).trans HX_wq.out).size; omega)
        have hop7 : OP w7a B v7 (os ++ [((⟨xtos, xid, xdf, xmf, xoff, xttl, xpr, xsrc, xdst, xb⟩ : Pk), A1, c1)]) := by
          unfold OP
          rw [List.length_append, List.flatMap_append]
          simpa using hown
        obtain ⟨A7, c7, hv7⟩ := hop7.shape
        rw [List.length_append] at hv7
        subst hv7
        have HB7 := Lib.hid (show (Value.slice A7 (os.length + [((⟨xtos, xid, xdf, xmf, xoff, xttl, xpr, xsrc, xdst, xb⟩ : Pk), A1, c1)].length) c7).ownBlock = some g0 ∨ (Value.slice A7 (os.length + [((⟨xtos, xid, xdf, xmf, xoff, xttl, xpr, xsrc, xdst, xb⟩ : Pk), A1, c1)].length) c7).ownBlock = some wq.heap.size from hown7)
        rw [if_pos (by simp [Region.wanted])]
        refine append_wp (.tmp 91) (.tmp 94) 33 rfl _ _ _ _ rfl rfl hrun ?_
        have hx : Ex (fun k => k = g0) wq w7a := (Ex.refl _ _).grown hg7 (fun k hk => .inl (by injection hk with hk; exact hk.symm))
        have HOP7 := Lib.hid hop7
        have HW7 := Lib.hid (show w8.heap.size ≤ wq.heap.size from ((HX_w9.out.trans HX_wo.out).trans HX_wq.out).size)
        clear hrun hown hg7 hop7 hown7
        have HX_w7a := Lib.hid hx
        clear hx
        have hS_w7a : Ex (fun k => k = hz ∨ k = g0) w8 w7a := (((((Ex.refl (fun k => k = hz ∨ k = g0) w8).trans (HX_w9.out.mono (fun _ _ h => h.elim))).trans (HX_wo.out.mono (fun _ _ h => h.elim))).trans (HX_wq.out.mono (fun _ _ h => h.elim))).trans (HX_w7a.out.mono (fun _ _ h => .inr h)))
        refine hK.out _ _ hS_w7a (fun _ => ?_)
        refine wpAnyH_take (i := 9) (oi := { dst := some 96, op := Go.Op.nilCheck (Go.Operand.tmp 87), type := 0, pos := "frag.go:136", after := #[{ on := 0, ground := Go.Ground.data }, { on := 0, ground := Go.Ground.phase }, { on := 1, ground := Go.Ground.phase }, { on := 2, ground := Go.Ground.phase }, { on := 3, ground := Go.Ground.phase }, { on := 4, ground := Go.Ground.phase }, { on := 5, ground := Go.Ground.phase }, { on := 6, ground := Go.Ground.phase }, { on := 7, ground := Go.Ground.phase }, { on := 8, ground := Go.Ground.phase }], guard := none }) (v := ?v13) rfl (by kernel_rfl) (by kernel_rfl) (by kernel_rfl) (fun _ _ _ h => h) (Or.inl ⟨by rfl, ?hy13⟩) (by assumption) ?rest13
        case hy13 => (intro w hSw; (try dsimp only at hSw); have ecpb0 := hSw.cell cpb0 HPBH.out; have ecpb1 := hSw.cell cpb1 HPBH.out; have ecpb2 := hSw.cell cpb2 HPBH.out; have ecpb3 := hSw.cell cpb3 HPBH.out; have ecpb4 := hSw.cell cpb4 HPBH.out; have ecpb5 := hSw.cell cpb5 HPBH.out; have ecpb6 := hSw.cell cpb6 HPBH.out; have ecpb7 := hSw.cell cpb7 HPBH.out; have ecpb8 := hSw.cell cpb8 HPBH.out; have ecpb9 := hSw.cell cpb9 HPBH.out; go_simp <;> with_reducible rfl)
        try simp only [Act.put, List.setIfInBounds_toArray, List.set_cons_zero, List.set_cons_succ]
        refine wpAnyH_take (i := 10) (oi := { dst := some 97, op := Go.Op.fieldAddr 81 (Go.Operand.tmp 96) 1, type := 0, pos := "frag.go:136", after := #[{ on := 9, ground := Go.Ground.data }, { on := 0, ground := Go.Ground.phase }, { on := 1, ground := Go.Ground.phase }, { on := 2, ground := Go.Ground.phase }, { on := 3, ground := Go.Ground.phase }, { on := 4, ground := Go.Ground.phase }, { on := 5, ground := Go.Ground.phase }, { on := 6, ground := Go.Ground.phase }, { on := 7, ground := Go.Ground.phase }, { on := 8, ground := Go.Ground.phase }], guard := none }) (v := ?v14) rfl (by kernel_rfl) (by kernel_rfl) (by kernel_rfl) (fun _ _ _ h => h) (Or.inl ⟨by rfl, ?hy14⟩) (by assumption) ?rest14
        case hy14 => (intro w hSw; (try dsimp only at hSw); have ecpb0 := hSw.cell cpb0 HPBH.out; have ecpb1 := hSw.cell cpb1 HPBH.out; have ecpb2 := hSw.cell cpb2 HPBH.out; have ecpb3 := hSw.cell cpb3 HPBH.out; have ecpb4 := hSw.cell cpb4 HPBH.out; have ecpb5 := hSw.cell cpb5 HPBH.out; have ecpb6 := hSw.cell cpb6 HPBH.out; have ecpb7 := hSw.cell cpb7 HPBH.out; have ecpb8 := hSw.cell cpb8 HPBH.out; have ecpb9 := hSw.cell cpb9 HPBH.out; go_simp <;> with_reducible rfl)
        try simp only [Act.put, List.setIfInBounds_toArray, List.set_cons_zero, List.set_cons_succ]
        refine wpAnyH_ready (rs := [11]) (by kernel_rfl) (by simp) ?_
        refine AllReadyH.cons (o := { dst := none, op := Go.Op.store 33 (Go.Operand.tmp 97) (Go.Operand.tmp 95), type := 0, pos := "frag.go:136", after := #[{ on := 10, ground := Go.Ground.data }, { on := 8, ground := Go.Ground.data }, { on := 8, ground := Go.Ground.chain }, { on := 0, ground := Go.Ground.phase }, { on := 1, ground := Go.Ground.phase }, { on := 2, ground := Go.Ground.phase }, { on := 3, ground := Go.Ground.phase }, { on := 4, ground := Go.Ground.phase }, { on := 5, ground := Go.Ground.phase }, { on := 6, ground := Go.Ground.phase }, { on := 7, ground := Go.Ground.phase }, { on := 8, ground := Go.Ground.phase }], guard := none }) rfl (fun K hK => ?_) AllReadyH.nil
        have chz1 := row_cell (k := 1) (v := .slice (some ⟨g0, 0, none⟩) os.length cap0) ((HX_w7a.out.block hz (row_lt ((((HX_w9.out.trans HX_wo.out).trans HX_wq.out).block hz (row_lt B_hz.out) id).trans B_hz.out)) ne_hz_g0).trans ((((HX_w9.out.trans HX_wo.out).trans HX_wq.out).block hz (row_lt B_hz.out) id).trans B_hz.out)) rfl
        have fhz1 := row_frozen ((HX_w7a.out.block hz (row_lt ((((HX_w9.out.trans HX_wo.out).trans HX_wq.out).block hz (row_lt B_hz.out) id).trans B_hz.out)) ne_hz_g0).trans ((((HX_w9.out.trans HX_wo.out).trans HX_wq.out).block hz (row_lt B_hz.out) id).trans B_hz.out)) 1
        go_simp
        replace B_hz := Lib.hid ((HX_w7a.out.block hz (row_lt ((((HX_w9.out.trans HX_wo.out).trans HX_wq.out).block hz (row_lt B_hz.out) id).trans B_hz.out)) ne_hz_g0).trans ((((HX_w9.out.trans HX_wo.out).trans HX_wq.out).block hz (row_lt B_hz.out) id).trans B_hz.out))
        have hb : (w7a.setCell ⟨hz, 1, none⟩ (.slice A7 (os.length + 1) c7)).heap[hz]? = some (.cells #[.int .u64 bg, .slice A7 (os.length + 1) c7] 81) := (row_set B_hz.out 1 (.slice A7 (os.length + 1) c7))
        have hx : Ex (fun j => j = hz) w7a (w7a.setCell ⟨hz, 1, none⟩ (.slice A7 (os.length + 1) c7)) := ((Ex.refl (fun j => j = hz) w7a).setCell (p := ⟨hz, 1, none⟩) (.inl rfl) (.slice A7 (os.length + 1) c7))
        clear chz1 fhz1
        generalize (w7a.setCell ⟨hz, 1, none⟩ (.slice A7 (os.length + 1) c7)) = wst at hx hb ⊢
        clear B_hz
        have HX_wst := Lib.hid hx
        clear hx
        have B_hz := Lib.hid hb
        clear hb
        have hS_wst : Ex (fun k => k = hz ∨ k = g0) w8 wst := ((((((Ex.refl (fun k => k = hz ∨ k = g0) w8).trans (HX_w9.out.mono (fun _ _ h => h.elim))).trans (HX_wo.out.mono (fun _ _ h => h.elim))).trans (HX_wq.out.mono (fun _ _ h => h.elim))).trans (HX_w7a.out.mono (fun _ _ h => .inr h))).trans (HX_wst.out.mono (fun _ _ h => .inl h)))
        refine hK.out _ _ hS_wst (fun _ => ?_)
        refine wpAnyH_done (by kernel_rfl) ?_ _
        go_wp2_with fail
        go_meet
        have hl7 := HOP7.out.lt
        have hol2 := HOL.out
        have hhp := HZ8.out
        have hgp := HG8.out
        have hne := HZB.out
        refine ⟨rfl, Lib.hid ⟨A7, c7, A1, c1, B_hz.out, ?_, ?_, ((((((Ex.refl (fun k => k = hz ∨ k = g0) w8).trans (HX_w9.out.mono (fun _ _ h => h.elim))).trans (HX_wo.out.mono (fun _ _ h => h.elim))).trans (HX_wq.out.mono (fun _ _ h => h.elim))).trans (HX_w7a.out.mono (fun _ _ h => .inr h))).trans (HX_wst.out.mono (fun _ _ h => .inl h))), ?_⟩⟩
        · refine HOP7.out.keep HX_wst.out (fun k hk _ _ e => ?_)
          rcases HB7.out with h | h
          · have := hk.symm.trans h
            injection this with this
            omega
          · have := hk.symm.trans h
            injection this with this
            have := HW7.out
            omega
        · exact ((OB.keepB (OB.keepB (OB.keep HO.out HX_wq.out (fun _ _ _ _ => id)) HX_w7a.out (by omega)) HX_wst.out (by omega))).mono HOL.out
        · intro k hk
          rcases HB7.out with h | h
          · have := hk.symm.trans h
            injection this with this
            exact .inl this
          · have := hk.symm.trans h
            injection this with this
            have := HW7.out
            exact .inr (by omega)
      refine AllReadyH.cons (o := { dst := some 93, op := Go.Op.call { callee := Go.Callee.value (Go.Operand.func 25), args := #[Go.Operand.tmp 92], argTypes := #[27] }, type := 27, pos := "frag.go:136", after := #[{ on := 5, ground := Go.Ground.data }], guard := none }) rfl (fun K hK => ?_) AllReadyH.nil
      go_simp
      refine (own_any (fun _ => True) (⟨xtos, xid, xdf, xmf, xoff, xttl, xpr, xsrc, xdst, xb⟩ : Pk) A c _ (RB.keep HR8.out HX_w9.out (fun _ _ _ => id)) HA.out (by have := HL.out; show xb.length ≤ _; omega)).mono ?_
      rintro e wo ⟨A1, c1, rfl, ho, hx⟩
      have hv : pkv (⟨xtos, xid, xdf, xmf, xoff, xttl, xpr, xsrc, xdst, xb⟩ : Pk) (.slice A1 (⟨xtos, xid, xdf, xmf, xoff, xttl, xpr, xsrc, xdst, xb⟩ : Pk).b.length c1) = .agg #[.int .u8 xtos, .int .u16 xid, .bool xdf, .bool xmf, .int .i64 xoff, .int .u8 xttl, .int .u8 xpr, .int .u32 xsrc, .int .u32 xdst, .slice A1 xb.length c1] := rfl
      rw [hv]
      have HO := Lib.hid (show OB wo w9.heap.size (.slice A1 xb.length c1) xb from ho)
      have HOL := Lib.hid (show w8.heap.size ≤ w9.heap.size from HX_w9.out.size)
      clear hv ho
      have HX_wo := Lib.hid hx
      clear hx
      have hS_wo : Ex (fun k => k = hz ∨ k = g0) w8 wo := (((Ex.refl (fun k => k = hz ∨ k = g0) w8).trans (HX_w9.out.mono (fun _ _ h => h.elim))).trans (HX_wo.out.mono (fun _ _ h => h.elim)))
      refine hK.out _ _ hS_wo (fun _ => ?_)
      refine wpAnyH_ready (rs := [4, 7]) (by kernel_rfl) (by simp) ?_
      refine AllReadyH.cons (o := { dst := some 91, op := Go.Op.load 33 (Go.Operand.tmp 90), type := 33, pos := "frag.go:136", after := #[{ on := 3, ground := Go.Ground.data }], guard := none }) rfl (fun K hK => ?_) ?_
      ·
        have chz1 := row_cell (k := 1) (v := .slice (some ⟨g0, 0, none⟩) os.length cap0) (((HX_w9.out.trans HX_wo.out).block hz (row_lt B_hz.out) id).trans B_hz.out) rfl
        go_simp
        clear chz1
        have hS_wo : Ex (fun k => k = hz ∨ k = g0) w8 wo := (((Ex.refl (fun k => k = hz ∨ k = g0) w8).trans (HX_w9.out.mono (fun _ _ h => h.elim))).trans (HX_wo.out.mono (fun _ _ h => h.elim)))
        refine hK.out _ _ hS_wo (fun _ => ?_)
        refine wpAnyH_ready (rs := [7]) (by kernel_rfl) (by simp) ?_
        refine AllReadyH.cons (o := { dst := some 94, op := Go.Op.buildSlice 33 1 #[(0, Go.Operand.tmp 93)], type := 33, pos := "frag.go:136", after := #[{ on := 6, ground := Go.Ground.data }], guard := none }) rfl (fun K hK => ?_) AllReadyH.nil
        go_simp
        have hx : Ex (fun _ => False) wo (wo.alloc (.cells #[.int .u8 xtos, .int .u16 xid, .bool xdf, .bool xmf, .int .i64 xoff, .int .u8 xttl, .int .u8 xpr, .int .u32 xsrc, .int .u32 xdst, .slice A1 xb.length c1] 27)) := (Ex.refl _ wo).alloc _
        have hb : (wo.alloc (.cells #[.int .u8 xtos, .int .u16 xid, .bool xdf, .bool xmf, .int .i64 xoff, .int .u8 xttl, .int .u8 xpr, .int .u32 xsrc, .int .u32 xdst, .slice A1 xb.length c1] 27)).heap[wo.heap.size]? = some (.cells #[.int .u8 xtos, .int .u16 xid, .bool xdf, .bool xmf, .int .i64 xoff, .int .u8 xttl, .int .u8 xpr, .int .u32 xsrc, .int .u32 xdst, .slice A1 xb.length c1] 27) := heap_alloc_new wo _
        obtain ⟨rw, hrw⟩ : ∃ rw, rw = wo.heap.size := ⟨_, rfl⟩
        have hb_rw : wo.heap.size ≤ rw := by omega
        rw [← hrw] at hb
        try simp only [← hrw]
        generalize wo.alloc (.cells #[.int .u8 xtos, .int .u16 xid, .bool xdf, .bool xmf, .int .i64 xoff, .int .u8 xttl, .int .u8 xpr, .int .u32 xsrc, .int .u32 xdst, .slice A1 xb.length c1] 27) = wq at hx hb ⊢
        clear hrw
        have HX_wq := Lib.hid hx
        clear hx
        have B_rw := Lib.hid hb
        clear hb
        have hS_wq : Ex (fun k => k = hz ∨ k = g0) w8 wq := ((((Ex.refl (fun k => k = hz ∨ k = g0) w8).trans (HX_w9.out.mono (fun _ _ h => h.elim))).trans (HX_wo.out.mono (fun _ _ h => h.elim))).trans (HX_wq.out.mono (fun _ _ h => h.elim)))
        refine hK.out _ _ hS_wq (fun _ => ?_)
        refine wpAnyH_ready (rs := [8]) (by kernel_rfl) (by simp) ?_
        refine AllReadyH.cons (o := { dst := some 95, op := Go.Op.call { callee := Go.Callee.builtin Go.Builtin.append, args := #[Go.Operand.tmp 91, Go.Operand.tmp 94], argTypes := #[33, 33] }, type := 33, pos := "frag.go:136", after := #[{ on := 4, ground := Go.Ground.data }, { on := 7, ground := Go.Ground.data }, { on := 6, ground := Go.Ground.chain }], guard := none }) rfl (fun K hK => ?_) AllReadyH.nil
        obtain ⟨v7, w7a, hrun, hown, hg7, _, hown7⟩ := run_append_row (Pr := Tryd.prog) wq B 33 33 27 i1 _ 10 56 Tryd.underlying33 hj hy0 hy1 hy2 rfl (by decide) (.slice (some ⟨g0, 0, none⟩) os.length cap0) os.length (os.flatMap ocl) (HOP8.out.keep ((HX_w9.out.trans HX_wo.out).trans HX_wq.out) (fun _ _ _ _ => id)) (some ⟨rw, 0, none⟩) 1 1 (ocl ((⟨xtos, xid, xdf, xmf, xoff, xttl, xpr, xsrc, xdst, xb⟩ : Pk), A1, c1)) rfl (fun j u hu => ⟨_, rfl, by rw [Addr.add_lit]; exact row_cell B_rw.out (by simpa [ocl, pcl] using hu)⟩) (fun u hu => ocl_one _ u hu) (by have := HN0.out; simp only [maxLen]; omega) (by have := HN0.out; omega) (by have h1 := HB8.out; have h2 := ((HX_w9.out.trans HX_wo.out).trans HX_wq.out).size; omega)
        have hop7 : OP w7a B v7 (os ++ [((⟨xtos, xid, xdf, xmf, xoff, xttl, xpr, xsrc, xdst, xb⟩ : Pk), A1, c1)]) := by
          unfold OP
          rw [List.length_append, List.flatMap_append]
          simpa using hown
        obtain ⟨A7, c7, hv7⟩ := hop7.shape
        rw [List.length_append] at hv7
        subst hv7
        have HB7 := Lib.hid (show (Value.slice A7 (os.length + [((⟨xtos, xid, xdf, xmf, xoff, xttl, xpr, xsrc, xdst, xb⟩ : Pk), A1, c1)].length) c7).ownBlock = some g0 ∨ (Value.slice A7 (os.length + [((⟨xtos, xid, xdf, xmf, xoff, xttl, xpr, xsrc, xdst, xb⟩ : Pk), A1, c1)].length) c7).ownBlock = some wq.heap.size from hown7)
        rw [if_pos (by simp [Region.wanted])]
        refine append_wp (.tmp 91) (.tmp 94) 33 rfl _ _ _ _ rfl rfl hrun ?_
        have hx : Ex (fun k => k = g0) wq w7a := (Ex.refl _ _).grown hg7 (fun k hk => .inl (by injection hk with hk; exact hk.symm))
        have HOP7 := Lib.hid hop7
        have HW7 := Lib.hid (show w8.heap.size ≤ wq.heap.size from ((HX_w9.out.trans HX_wo.out).trans HX_wq.out).size)
        clear hrun hown hg7 hop7 hown7
        have HX_w7a := Lib.hid hx
        clear hx
        have hS_w7a : Ex (fun k => k = hz ∨ k = g0) w8 w7a := (((((Ex.refl (fun k => k = hz ∨ k = g0) w8).trans (HX_w9.out.mono (fun _ _ h => h.elim))).trans (HX_wo.out.mono (fun _ _ h => h.elim))).trans (HX_wq.out.mono (fun _ _ h => h.elim))).trans (HX_w7a.out.mono (fun _ _ h => .inr h)))
        refine hK.out _ _ hS_w7a (fun _ => ?_)
        refine wpAnyH_take (i := 9) (oi := { dst := some 96, op := Go.Op.nilCheck (Go.Operand.tmp 87), type := 0, pos := "frag.go:136", after := #[{ on := 0, ground := Go.Ground.data }, { on := 0, ground := Go.Ground.phase }, { on := 1, ground := Go.Ground.phase }, { on := 2, ground := Go.Ground.phase }, { on := 3, ground := Go.Ground.phase }, { on := 4, ground := Go.Ground.phase }, { on := 5, ground := Go.Ground.phase }, { on := 6, ground := Go.Ground.phase }, { on := 7, ground := Go.Ground.phase }, { on := 8, ground := Go.Ground.phase }], guard := none }) (v := ?v15) rfl (by kernel_rfl) (by kernel_rfl) (by kernel_rfl) (fun _ _ _ h => h) (Or.inl ⟨by rfl, ?hy15⟩) (by assumption) ?rest15
        case hy15 => (intro w hSw; (try dsimp only at hSw); have ecpb0 := hSw.cell cpb0 HPBH.out; have ecpb1 := hSw.cell cpb1 HPBH.out; have ecpb2 := hSw.cell cpb2 HPBH.out; have ecpb3 := hSw.cell cpb3 HPBH.out; have ecpb4 := hSw.cell cpb4 HPBH.out; have ecpb5 := hSw.cell cpb5 HPBH.out; have ecpb6 := hSw.cell cpb6 HPBH.out; have ecpb7 := hSw.cell cpb7 HPBH.out; have ecpb8 := hSw.cell cpb8 HPBH.out; have ecpb9 := hSw.cell cpb9 HPBH.out; go_simp <;> with_reducible rfl)
        try simp only [Act.put, List.setIfInBounds_toArray, List.set_cons_zero, List.set_cons_succ]
        refine wpAnyH_take (i := 10) (oi := { dst := some 97, op := Go.Op.fieldAddr 81 (Go.Operand.tmp 96) 1, type := 0, pos := "frag.go:136", after := #[{ on := 9, ground := Go.Ground.data }, { on := 0, ground := Go.Ground.phase }, { on := 1, ground := Go.Ground.phase }, { on := 2, ground := Go.Ground.phase }, { on := 3, ground := Go.Ground.phase }, { on := 4, ground := Go.Ground.phase }, { on := 5, ground := Go.Ground.phase }, { on := 6, ground := Go.Ground.phase }, { on := 7, ground := Go.Ground.phase }, { on := 8, ground := Go.Ground.phase }], guard := none }) (v := ?v16) rfl (by kernel_rfl) (by kernel_rfl) (by kernel_rfl) (fun _ _ _ h => h) (Or.inl ⟨by rfl, ?hy16⟩) (by assumption) ?rest16
        case hy16 => (intro w hSw; (try dsimp only at hSw); have ecpb0 := hSw.cell cpb0 HPBH.out; have ecpb1 := hSw.cell cpb1 HPBH.out; have ecpb2 := hSw.cell cpb2 HPBH.out; have ecpb3 := hSw.cell cpb3 HPBH.out; have ecpb4 := hSw.cell cpb4 HPBH.out; have ecpb5 := hSw.cell cpb5 HPBH.out; have ecpb6 := hSw.cell cpb6 HPBH.out; have ecpb7 := hSw.cell cpb7 HPBH.out; have ecpb8 := hSw.cell cpb8 HPBH.out; have ecpb9 := hSw.cell cpb9 HPBH.out; go_simp <;> with_reducible rfl)
        try simp only [Act.put, List.setIfInBounds_toArray, List.set_cons_zero, List.set_cons_succ]
        refine wpAnyH_ready (rs := [11]) (by kernel_rfl) (by simp) ?_
        refine AllReadyH.cons (o := { dst := none, op := Go.Op.store 33 (Go.Operand.tmp 97) (Go.Operand.tmp 95), type := 0, pos := "frag.go:136", after := #[{ on := 10, ground := Go.Ground.data }, { on := 8, ground := Go.Ground.data }, { on := 8, ground := Go.Ground.chain }, { on := 0, ground := Go.Ground.phase }, { on := 1, ground := Go.Ground.phase }, { on := 2, ground := Go.Ground.phase }, { on := 3, ground := Go.Ground.phase }, { on := 4, ground := Go.Ground.phase }, { on := 5, ground := Go.Ground.phase }, { on := 6, ground := Go.Ground.phase }, { on := 7, ground := Go.Ground.phase }, { on := 8, ground := Go.Ground.phase }], guard := none }) rfl (fun K hK => ?_) AllReadyH.nil
        have chz1 := row_cell (k := 1) (v := .slice (some ⟨g0, 0, none⟩) os.length cap0) ((HX_w7a.out.block hz (row_lt ((((HX_w9.out.trans HX_wo.out).trans HX_wq.out).block hz (row_lt B_hz.out) id).trans B_hz.out)) ne_hz_g0).trans ((((HX_w9.out.trans HX_wo.out).trans HX_wq.out).block hz (row_lt B_hz.out) id).trans B_hz.out)) rfl
        have fhz1 := row_frozen ((HX_w7a.out.block hz (row_lt ((((HX_w9.out.trans HX_wo.out).trans HX_wq.out).block hz (row_lt B_hz.out) id).trans B_hz.out)) ne_hz_g0).trans ((((HX_w9.out.trans HX_wo.out).trans HX_wq.out).block hz (row_lt B_hz.out) id).trans B_hz.out)) 1
        go_simp
        replace B_hz := Lib.hid ((HX_w7a.out.block hz (row_lt ((((HX_w9.out.trans HX_wo.out).trans HX_wq.out).block hz (row_lt B_hz.out) id).trans B_hz.out)) ne_hz_g0).trans ((((HX_w9.out.trans HX_wo.out).trans HX_wq.out).block hz (row_lt B_hz.out) id).trans B_hz.out))
        have hb : (w7a.setCell ⟨hz, 1, none⟩ (.slice A7 (os.length + 1) c7)).heap[hz]? = some (.cells #[.int .u64 bg, .slice A7 (os.length + 1) c7] 81) := (row_set B_hz.out 1 (.slice A7 (os.length + 1) c7))
        have hx : Ex (fun j => j = hz) w7a (w7a.setCell ⟨hz, 1, none⟩ (.slice A7 (os.length + 1) c7)) := ((Ex.refl (fun j => j = hz) w7a).setCell (p := ⟨hz, 1, none⟩) (.inl rfl) (.slice A7 (os.length + 1) c7))
        clear chz1 fhz1
        generalize (w7a.setCell ⟨hz, 1, none⟩ (.slice A7 (os.length + 1) c7)) = wst at hx hb ⊢
        clear B_hz
        have HX_wst := Lib.hid hx
        clear hx
        have B_hz := Lib.hid hb
        clear hb
        have hS_wst : Ex (fun k => k = hz ∨ k = g0) w8 wst := ((((((Ex.refl (fun k => k = hz ∨ k = g0) w8).trans (HX_w9.out.mono (fun _ _ h => h.elim))).trans (HX_wo.out.mono (fun _ _ h => h.elim))).trans (HX_wq.out.mono (fun _ _ h => h.elim))).trans (HX_w7a.out.mono (fun _ _ h => .inr h))).trans (HX_wst.out.mono (fun _ _ h => .inl h)))
        refine hK.out _ _ hS_wst (fun _ => ?_)
        refine wpAnyH_done (by kernel_rfl) ?_ _
        go_wp2_with fail
        go_meet
        have hl7 := HOP7.out.lt
        have hol2 := HOL.out
        have hhp := HZ8.out
        have hgp := HG8.out
        have hne := HZB.out
        refine ⟨rfl, Lib.hid ⟨A7, c7, A1, c1, B_hz.out, ?_, ?_, ((((((Ex.refl (fun k => k = hz ∨ k = g0) w8).trans (HX_w9.out.mono (fun _ _ h => h.elim))).trans (HX_wo.out.mono (fun _ _ h => h.elim))).trans (HX_wq.out.mono (fun _ _ h => h.elim))).trans (HX_w7a.out.mono (fun _ _ h => .inr h))).trans (HX_wst.out.mono (fun _ _ h => .inl h))), ?_⟩⟩
        · refine HOP7.out.keep HX_wst.out (fun k hk _ _ e => ?_)
          rcases HB7.out with h | h
          · have := hk.symm.trans h
            injection this with this
            omega
          · have := hk.symm.trans h
            injection this with this
            have := HW7.out
            omega
        · exact ((OB.keepB (OB.keepB (OB.keep HO.out HX_wq.out (fun _ _ _ _ => id)) HX_w7a.out (by omega)) HX_wst.out (by omega))).mono HOL.out
        · intro k hk
          rcases HB7.out with h | h
          · have := hk.symm.trans h
            injection this with this
            exact .inl this
          · have := hk.symm.trans h
            injection this with this
            have := HW7.out
            exact .inr (by omega)
      refine AllReadyH.cons (o := { dst := some 94, op := Go.Op.buildSlice 33 1 #[(0, Go.Operand.tmp 93)], type := 33, pos := "frag.go:136", after := #[{ on := 6, ground := Go.Ground.data }], guard := none }) rfl (fun K hK => ?_) AllReadyH.nil
      go_simp
      have hx : Ex (fun _ => False) wo (wo.alloc (.cells #[.int .u8 xtos, .int .u16 xid, .bool xdf, .bool xmf, .int .i64 xoff, .int .u8 xttl, .int .u8 xpr, .int .u32 xsrc, .int .u32 xdst, .slice A1 xb.length c1] 27)) := (Ex.refl _ wo).alloc _
      have hb : (wo.alloc (.cells #[.int .u8 xtos, .int .u16 xid, .bool xdf, .bool xmf, .int .i64 xoff, .int .u8 xttl, .int .u8 xpr, .int .u32 xsrc, .int .u32 xdst, .slice A1 xb.length c1] 27)).heap[wo.heap.size]? = some (.cells #[.int .u8 xtos, .int .u16 xid, .bool xdf, .bool xmf, .int .i64 xoff, .int .u8 xttl, .int .u8 xpr, .int .u32 xsrc, .int .u32 xdst, .slice A1 xb.length c1] 27) := heap_alloc_new wo _
      obtain ⟨rw, hrw⟩ : ∃ rw, rw = wo.heap.size := ⟨_, rfl⟩
      have hb_rw : wo.heap.size ≤ rw := by omega
      rw [← hrw] at hb
      try simp only [← hrw]
      generalize wo.alloc (.cells #[.int .u8 xtos, .int .u16 xid, .bool xdf, .bool xmf, .int .i64 xoff, .int .u8 xttl, .int .u8 xpr, .int .u32 xsrc, .int .u32 xdst, .slice A1 xb.length c1] 27) = wq at hx hb ⊢
      clear hrw
      have HX_wq := Lib.hid hx
      clear hx
      have B_rw := Lib.hid hb
      clear hb
      have hS_wq : Ex (fun k => k = hz ∨ k = g0) w8 wq := ((((Ex.refl (fun k => k = hz ∨ k = g0) w8).trans (HX_w9.out.mono (fun _ _ h => h.elim))).trans (HX_wo.out.mono (fun _ _ h => h.elim))).trans (HX_wq.out.mono (fun _ _ h => h.elim)))
      refine hK.out _ _ hS_wq (fun _ => ?_)
      refine wpAnyH_ready (rs := [4]) (by kernel_rfl) (by simp) ?_
      refine AllReadyH.cons (o := { dst := some 91, op := Go.Op.load 33 (Go.Operand.tmp 90), type := 33, pos := "frag.go:136", after := #[{ on := 3, ground := Go.Ground.data }], guard := none }) rfl (fun K hK => ?_) AllReadyH.nil
      have chz1 := row_cell (k := 1) (v := .slice (some ⟨g0, 0, none⟩) os.length cap0) ((((HX_w9.out.trans HX_wo.out).trans HX_wq.out).block hz (row_lt B_hz.out) id).trans B_hz.out) rfl
      go_simp
      clear chz1
      have hS_wq : Ex (fun k => k = hz ∨ k = g0) w8 wq := ((((Ex.refl (fun k => k = hz ∨ k = g0) w8).trans (HX_w9.out.mono (fun _ _ h => h.elim))).trans (HX_wo.out.mono (fun _ _ h => h.elim))).trans (HX_wq.out.mono (fun _ _ h => h.elim)))
      refine hK.out _ _ hS_wq (fun _ => ?_)
      refine wpAnyH_ready (rs := [8]) (by kernel_rfl) (by simp) ?_
      refine AllReadyH.cons (o := { dst := some 95, op := Go.Op.call { callee := Go.Callee.builtin Go.Builtin.append, args := #[Go.Operand.tmp 91, Go.Operand.tmp 94], argTypes := #[33, 33] }, type := 33, pos := "frag.go:136", after := #[{ on := 4, ground := Go.Ground.data }, { on := 7, ground := Go.Ground.data }, { on := 6, ground := Go.Ground.chain }], guard := none }) rfl (fun K hK => ?_) AllReadyH.nil
      obtain ⟨v7, w7a, hrun, hown, hg7, _, hown7⟩ := run_append_row (Pr := Tryd.prog) wq B 33 33 27 i1 _ 10 56 Tryd.underlying33 hj hy0 hy1 hy2 rfl (by decide) (.slice (some ⟨g0, 0, none⟩) os.length cap0) os.length (os.flatMap ocl) (HOP8.out.keep ((HX_w9.out.trans HX_wo.out).trans HX_wq.out) (fun _ _ _ _ => id)) (some ⟨rw, 0, none⟩) 1 1 (ocl ((⟨xtos, xid, xdf, xmf, xoff, xttl, xpr, xsrc, xdst, xb⟩ : Pk), A1, c1)) rfl (fun j u hu => ⟨_, rfl, by rw [Addr.add_lit]; exact row_cell B_rw.out (by simpa [ocl, pcl] using hu)⟩) (fun u hu => ocl_one _ u hu) (by have := HN0.out; simp only [maxLen]; omega) (by have := HN0.out; omega) (by have h1 := HB8.out; have h2 := ((HX_w9.out.trans HX_wo.out).trans HX_wq.out).size; omega)
      have hop7 : OP w7a B v7 (os ++ [((⟨xtos, xid, xdf, xmf, xoff, xttl, xpr, xsrc, xdst, xb⟩ : Pk), A1, c1)]) := by
        unfold OP
        rw [List.length_append, List.flatMap_append]
        simpa using hown
      obtain ⟨A7, c7, hv7⟩ := hop7.shape
      rw [List.length_append] at hv7
      subst hv7
      have HB7 := Lib.hid (show (Value.slice A7 (os.length + [((⟨xtos, xid, xdf, xmf, xoff, xttl, xpr, xsrc, xdst, xb⟩ : Pk), A1, c1)].length) c7).ownBlock = some g0 ∨ (Value.slice A7 (os.length + [((⟨xtos, xid, xdf, xmf, xoff, xttl, xpr, xsrc, xdst, xb⟩ : Pk), A1, c1)].length) c7).ownBlock = some wq.heap.size from hown7)
      rw [if_pos (by simp [Region.wanted])]
      refine append_wp (.tmp 91) (.tmp 94) 33 rfl _ _ _ _ rfl rfl hrun ?_
      have hx : Ex (fun k => k = g0) wq w7a := (Ex.refl _ _).grown hg7 (fun k hk => .inl (by injection hk with hk; exact hk.symm))
      have HOP7 := Lib.hid hop7
      have HW7 := Lib.hid (show w8.heap.size ≤ wq.heap.size from ((HX_w9.out.trans HX_wo.out).trans HX_wq.out).size)
      clear hrun hown hg7 hop7 hown7
      have HX_w7a := Lib.hid hx
      clear hx
      have hS_w7a : Ex (fun k => k = hz ∨ k = g0) w8 w7a := (((((Ex.refl (fun k => k = hz ∨ k = g0) w8).trans (HX_w9.out.mono (fun _ _ h => h.elim))).trans (HX_wo.out.mono (fun _ _ h => h.elim))).trans (HX_wq.out.mono (fun _ _ h => h.elim))).trans (HX_w7a.out.mono (fun _ _ h => .inr h)))
      refine hK.out _ _ hS_w7a (fun _ => ?_)
      refine wpAnyH_take (i := 9) (oi := { dst := some 96, op := Go.Op.nilCheck (Go.Operand.tmp 87), type := 0, pos := "frag.go:136", after := #[{ on := 0, ground := Go.Ground.data }, { on := 0, ground := Go.Ground.phase }, { on := 1, ground := Go.Ground.phase }, { on := 2, ground := Go.Ground.phase }, { on := 3, ground := Go.Ground.phase }, { on := 4, ground := Go.Ground.phase }, { on := 5, ground := Go.Ground.phase }, { on := 6, ground := Go.Ground.phase }, { on := 7, ground := Go.Ground.phase }, { on := 8, ground := Go.Ground.phase }], guard := none }) (v := ?v17) rfl (by kernel_rfl) (by kernel_rfl) (by kernel_rfl) (fun _ _ _ h => h) (Or.inl ⟨by rfl, ?hy17⟩) (by assumption) ?rest17
      case hy17 => (intro w hSw; (try dsimp only at hSw); have ecpb0 := hSw.cell cpb0 HPBH.out; have ecpb1 := hSw.cell cpb1 HPBH.out; have ecpb2 := hSw.cell cpb2 HPBH.out; have ecpb3 := hSw.cell cpb3 HPBH.out; have ecpb4 := hSw.cell cpb4 HPBH.out; have ecpb5 := hSw.cell cpb5 HPBH.out; have ecpb6 := hSw.cell cpb6 HPBH.out; have ecpb7 := hSw.cell cpb7 HPBH.out; have ecpb8 := hSw.cell cpb8 HPBH.out; have ecpb9 := hSw.cell cpb9 HPBH.out; go_simp <;> with_reducible rfl)
      try simp only [Act.put, List.setIfInBounds_toArray, List.set_cons_zero, List.set_cons_succ]
      refine wpAnyH_take (i := 10) (oi := { dst := some 97, op := Go.Op.fieldAddr 81 (Go.Operand.tmp 96) 1, type := 0, pos := "frag.go:136", after := #[{ on := 9, ground := Go.Ground.data }, { on := 0, ground := Go.Ground.phase }, { on := 1, ground := Go.Ground.phase }, { on := 2, ground := Go.Ground.phase }, { on := 3, ground := Go.Ground.phase }, { on := 4, ground := Go.Ground.phase }, { on := 5, ground := Go.Ground.phase }, { on := 6, ground := Go.Ground.phase }, { on := 7, ground := Go.Ground.phase }, { on := 8, ground := Go.Ground.phase }], guard := none }) (v := ?v18) rfl (by kernel_rfl) (by kernel_rfl) (by kernel_rfl) (fun _ _ _ h => h) (Or.inl ⟨by rfl, ?hy18⟩) (by assumption) ?rest18
      case hy18 => (intro w hSw; (try dsimp only at hSw); have ecpb0 := hSw.cell cpb0 HPBH.out; have ecpb1 := hSw.cell cpb1 HPBH.out; have ecpb2 := hSw.cell cpb2 HPBH.out; have ecpb3 := hSw.cell cpb3 HPBH.out; have ecpb4 := hSw.cell cpb4 HPBH.out; have ecpb5 := hSw.cell cpb5 HPBH.out; have ecpb6 := hSw.cell cpb6 HPBH.out; have ecpb7 := hSw.cell cpb7 HPBH.out; have ecpb8 := hSw.cell cpb8 HPBH.out; have ecpb9 := hSw.cell cpb9 HPBH.out; go_simp <;> with_reducible rfl)
      try simp only [Act.put, List.setIfInBounds_toArray, List.set_cons_zero, List.set_cons_succ]
      refine wpAnyH_ready (rs := [11]) (by kernel_rfl) (by simp) ?_
      refine AllReadyH.cons (o := { dst := none, op := Go.Op.store 33 (Go.Operand.tmp 97) (Go.Operand.tmp 95), type := 0, pos := "frag.go:136", after := #[{ on := 10, ground := Go.Ground.data }, { on := 8, ground := Go.Ground.data }, { on := 8, ground := Go.Ground.chain }, { on := 0, ground := Go.Ground.phase }, { on := 1, ground := Go.Ground.phase }, { on := 2, ground := Go.Ground.phase }, { on := 3, ground := Go.Ground.phase }, { on := 4, ground := Go.Ground.phase }, { on := 5, ground := Go.Ground.phase }, { on := 6, ground := Go.Ground.phase }, { on := 7, ground := Go.Ground.phase }, { on := 8, ground := Go.Ground.phase }], guard := none }) rfl (fun K hK => ?_) AllReadyH.nil
      have chz1 := row_cell (k := 1) (v := .slice (some ⟨g0, 0, none⟩) os.length cap0) ((HX_w7a.out.block hz (row_lt ((((HX_w9.out.trans HX_wo.out).trans HX_wq.out).block hz (row_lt B_hz.out) id).trans B_hz.out)) ne_hz_g0).trans ((((HX_w9.out.trans HX_wo.out).trans HX_wq.out).block hz (row_lt B_hz.out) id).trans B_hz.out)) rfl
      have fhz1 := row_frozen ((HX_w7a.out.block hz (row_lt ((((HX_w9.out.trans HX_wo.out).trans HX_wq.out).block hz (row_lt B_hz.out) id).trans B_hz.out)) ne_hz_g0).trans ((((HX_w9.out.trans HX_wo.out).trans HX_wq.out).block hz (row_lt B_hz.out) id).trans B_hz.out)) 1
      go_simp
      replace B_hz := Lib.hid ((HX_w7a.out.block hz (row_lt ((((HX_w9.out.trans HX_wo.out).trans HX_wq.out).block hz (row_lt B_hz.out) id).trans B_hz.out)) ne_hz_g0).trans ((((HX_w9.out.trans HX_wo.out).trans HX_wq.out).block hz (row_lt B_hz.out) id).trans B_hz.out))
      have hb : (w7a.setCell ⟨hz, 1, none⟩ (.slice A7 (os.length + 1) c7)).heap[hz]? = some (.cells #[.int .u64 bg, .slice A7 (os.length + 1) c7] 81) := (row_set B_hz.out 1 (.slice A7 (os.length + 1) c7))
      have hx : Ex (fun j => j = hz) w7a (w7a.setCell ⟨hz, 1, none⟩ (.slice A7 (os.length + 1) c7)) := ((Ex.refl (fun j => j = hz) w7a).setCell (p := ⟨hz, 1, none⟩) (.inl rfl) (.slice A7 (os.length + 1) c7))
      clear chz1 fhz1
      generalize (w7a.setCell ⟨hz, 1, none⟩ (.slice A7 (os.length + 1) c7)) = wst at hx hb ⊢
      clear B_hz
      have HX_wst := Lib.hid hx
      clear hx
      have B_hz := Lib.hid hb
      clear hb
      have hS_wst : Ex (fun k => k = hz ∨ k = g0) w8 wst := ((((((Ex.refl (fun k => k = hz ∨ k = g0) w8).trans (HX_w9.out.mono (fun _ _ h => h.elim))).trans (HX_wo.out.mono (fun _ _ h => h.elim))).trans (HX_wq.out.mono (fun _ _ h => h.elim))).trans (HX_w7a.out.mono (fun _ _ h => .inr h))).trans (HX_wst.out.mono (fun _ _ h => .inl h)))
      refine hK.out _ _ hS_wst (fun _ => ?_)
      refine wpAnyH_done (by kernel_rfl) ?_ _
      go_wp2_with fail
      go_meet
      have hl7 := HOP7.out.lt
      have hol2 := HOL.out
      have hhp := HZ8.out
      have hgp := HG8.out
      have hne := HZB.out
      refine ⟨rfl, Lib.hid ⟨A7, c7, A1, c1, B_hz.out, ?_, ?_, ((((((Ex.refl (fun k => k = hz ∨ k = g0) w8).trans (HX_w9.out.mono (fun _ _ h => h.elim))).trans (HX_wo.out.mono (fun _ _ h => h.elim))).trans (HX_wq.out.mono (fun _ _ h => h.elim))).trans (HX_w7a.out.mono (fun _ _ h => .inr h))).trans (HX_wst.out.mono (fun _ _ h => .inl h))), ?_⟩⟩
      · refine HOP7.out.keep HX_wst.out (fun k hk _ _ e => ?_)
        rcases HB7.out with h | h
        · have := hk.symm.trans h
          injection this with this
          omega
        · have := hk.symm.trans h
          injection this with this
          have := HW7.out
          omega
      · exact ((OB.keepB (OB.keepB (OB.keep HO.out HX_wq.out (fun _ _ _ _ => id)) HX_w7a.out (by omega)) HX_wst.out (by omega))).mono HOL.out
      · intro k hk
        rcases HB7.out with h | h
        · have := hk.symm.trans h
          injection this with this
          exact .inl this
        · have := hk.symm.trans h
          injection this with this
          have := HW7.out
          exact .inr (by omega)
    case rest =>
      obtain ⟨rfl, hcut⟩ := hcut
      obtain ⟨A7, c7, A1, c1, hh, hop, hob, hxc, hbl7⟩ := hcut.out
      obtain ⟨g, c7', hv7, _, _⟩ := hop.get 0 (by simp)
      have hA7 : A7 = some ⟨g, 0, none⟩ := by injection hv7
      subst hA7
      have hln : (os ++ [((⟨xtos, xid, xdf, xmf, xoff, xttl, xpr, xsrc, xdst, xb⟩ : Pk), A1, c1)]).length = os.length + 1 := by simp
      have hrow : PRow wc g (os ++ [((⟨xtos, xid, xdf, xmf, xoff, xttl, xpr, xsrc, xdst, xb⟩ : Pk), A1, c1)]) := by
        intro i hi k u hu
        obtain ⟨g', c', e1, _, h4⟩ := hop.get i hi
        injection e1 with e1 _ _
        injection e1 with e1
        injection e1 with e1
        change g = g' at e1
        rw [e1]
        exact h4 k u hu
      have hkob : ∀ o ∈ os, OB wc B (ov o) o.1.b := fun o ho => ((HH6.out.2.2.1 o ho).1).keep hxc (fun k hk _ _ e => by
        obtain ⟨cur, hc⟩ := ownsRow_isCells (HH6.out.2.2.1 o ho).1.2 hk
        obtain ⟨cg, hg⟩ := HH6.out.row
        rcases e with e | e
        · exact ty_ne hc HH6.out.1 (by decide) e
        · exact ty_ne hc hg (by decide) e)
      have hrt : ∀ o ∈ os ++ [((⟨xtos, xid, xdf, xmf, xoff, xttl, xpr, xsrc, xdst, xb⟩ : Pk), A1, c1)], o.1.right = 0 := by
        intro o ho
        rcases List.mem_append.1 ho with ho | ho
        · exact (HH6.out.2.2.1 o ho).2.2
        · rw [List.mem_singleton] at ho
          subst ho
          exact HRT0.out
      have hpts : Pts wc (os ++ [((⟨xtos, xid, xdf, xmf, xoff, xttl, xpr, xsrc, xdst, xb⟩ : Pk), A1, c1)]) := by
        refine ⟨fun o ho => ?_, fun o ho => ?_, fun o ho => ?_⟩
        · obtain ⟨r0, r1, r2, r3, r4⟩ := Pk.right_zero (hrt o ho)
          exact ⟨r0, r3⟩
        · obtain ⟨r0, r1, r2, r3, r4⟩ := Pk.right_zero (hrt o ho)
          omega
        · rcases List.mem_append.1 ho with ho | ho
          · exact RB.any (hkob o ho).rb
          · rw [List.mem_singleton] at ho
            subst ho
            exact RB.any hob.rb
      have hg9 : g = g0 ∨ w8.heap.size ≤ g := hbl7 g rfl
      have hgc : g < wc.heap.size := (hop.lt g rfl).2
      have hhp : HpOk wc B ⟨k0, bg, hz, os ++ [((⟨xtos, xid, xdf, xmf, xoff, xttl, xpr, xsrc, xdst, xb⟩ : Pk), A1, c1)], g, c7⟩ := by
        refine ⟨by rw [show (⟨k0, bg, hz, os ++ [((⟨xtos, xid, xdf, xmf, xoff, xttl, xpr, xsrc, xdst, xb⟩ : Pk), A1, c1)], g, c7⟩ : Hp).os.length = os.length + 1 from hln]; exact hh, by rw [show (⟨k0, bg, hz, os ++ [((⟨xtos, xid, xdf, xmf, xoff, xttl, xpr, xsrc, xdst, xb⟩ : Pk), A1, c1)], g, c7⟩ : Hp).os.length = os.length + 1 from hln]; exact hop, fun o ho => ?_, by rw [show (⟨k0, bg, hz, os ++ [((⟨xtos, xid, xdf, xmf, xoff, xttl, xpr, xsrc, xdst, xb⟩ : Pk), A1, c1)], g, c7⟩ : Hp).os.length = os.length + 1 from hln]; omega, HH0.out.2.2.2.2⟩
        rcases List.mem_append.1 ho with ho | ho
        · exact ⟨hkob o ho, (HH6.out.2.2.1 o ho).2⟩
        · rw [List.mem_singleton] at ho
          subst ho
          exact ⟨hob.mono HB8.out, HOK.out, HRT0.out⟩
      have hwh := whole_any hz g c7 (os.length + 1) bg (os ++ [((⟨xtos, xid, xdf, xmf, xoff, xttl, xpr, xsrc, xdst, xb⟩ : Pk), A1, c1)]) hln (by omega) (by have := HN0.out; omega) wc hh hrow hpts
      have HWH := Lib.hid hwh
      have HHP := Lib.hid hhp
      have HXC := Lib.hid hxc
      have HG9 := Lib.hid hg9
      have HGC := Lib.hid hgc
      have HXW8 := Lib.hid (((((HX_w1.out.trans HX_w2.out).trans HX_w3.out).trans HX_w4.out).trans HX_w5.out).trans HX_w6.out)
      have HQB8 := Lib.hid (row_lt B_qb.out)
      clear hwh hh hop hob hxc hrow hpts hkob hrt hcut hv7 hhp hln hbl7 hg9 hgc cpb0 cpb1 cpb2 cpb3 cpb4 cpb5 cpb6 cpb7 cpb8 cpb9 hj hy0 hy1 hy2
      go_wp2_with fail
      refine HWH.out.mono ?_
      rintro e we ⟨q, A9, n9, c9, ok9, rfl, hx, hcase⟩
      have HXE := Lib.hid hx
      have HCASE := Lib.hid hcase
      clear hcase hx
      obtain ⟨ztos, zid, zdf, zmf, zoff, zttl, zpr, zsrc, zdst, zb⟩ := q
      have hv : pkv (⟨ztos, zid, zdf, zmf, zoff, zttl, zpr, zsrc, zdst, zb⟩ : Pk) (.slice A9 n9 c9) = .agg #[.int .u8 ztos, .int .u16 zid, .bool zdf, .bool zmf, .int .i64 zoff, .int .u8 zttl, .int .u8 zpr, .int .u32 zsrc, .int .u32 zdst, .slice A9 n9 c9] := rfl
      rw [hv]
      clear hv
      have hqbe : we.heap[qb]? = some (.cells #[.int .u8 0, .int .u16 0, .bool false, .bool false, .int .i64 0, .int .u8 0, .int .u8 0, .int .u32 0, .int .u32 0, .slice none 0 0] 27) := (HXE.out.block qb (row_lt ((HXC.out.block qb (row_lt B_qb.out) HQBH.out).trans B_qb.out)) id).trans ((HXC.out.block qb (row_lt B_qb.out) HQBH.out).trans B_qb.out)
      replace B_qb := Lib.hid hqbe
      have hkne : ¬ (kx = hz ∨ kx = g0) := by
        obtain ⟨cg, hg⟩ := HH6.out.row
        rintro (e | e)
        · exact ty_ne B_kx.out HH6.out.1 (by decide) e
        · exact ty_ne B_kx.out hg (by decide) e
      have hkxe : we.heap[kx]? = some (.cells #[.int .u32 xsrc, .int .u32 xdst, .int .u8 xpr, .int .u16 xid] 78) := (HXE.out.block kx (row_lt ((HXC.out.block kx (row_lt B_kx.out) hkne).trans B_kx.out)) id).trans ((HXC.out.block kx (row_lt B_kx.out) hkne).trans B_kx.out)
      replace B_kx := Lib.hid hkxe
      have hxwe : Ex (fun k => k = hz ∨ k = g0) w we := ((HXW8.out.mono (fun _ _ h => h.elim)).trans HXC.out).trans (HXE.out.mono (fun _ _ h => h.elim))
      have HXWE := Lib.hid hxwe
      have HHPE := Lib.hid (HHP.out.keep HXE.out)
      clear hqbe hkne hkxe hxwe B_pb
      go_upto_region 18 with fail
      have hx : Ex (fun _ => False) we (we.alloc (.cells #[.int .u8 ztos, .int .u16 zid, .bool zdf, .bool zmf, .int .i64 zoff, .int .u8 zttl, .int .u8 zpr, .int .u32 zsrc, .int .u32 zdst, .slice A9 n9 c9] 27)) := (Ex.refl _ we).alloc _
      have hb : (we.alloc (.cells #[.int .u8 ztos, .int .u16 zid, .bool zdf, .bool zmf, .int .i64 zoff, .int .u8 zttl, .int .u8 zpr, .int .u32 zsrc, .int .u32 zdst, .slice A9 n9 c9] 27)).heap[we.heap.size]? = some (.cells #[.int .u8 ztos, .int .u16 zid, .bool zdf, .bool zmf, .int .i64 zoff, .int .u8 zttl, .int .u8 zpr, .int .u32 zsrc, .int .u32 zdst, .slice A9 n9 c9] 27) := heap_alloc_new we _
      obtain ⟨tb, htb⟩ : ∃ tb, tb = we.heap.size := ⟨_, rfl⟩
      have hb_tb : we.heap.size ≤ tb := by omega
      rw [← htb] at hb
      try simp only [← htb]
      generalize we.alloc (.cells #[.int .u8 ztos, .int .u16 zid, .bool zdf, .bool zmf, .int .i64 zoff, .int .u8 zttl, .int .u8 zpr, .int .u32 zsrc, .int .u32 zdst, .slice A9 n9 c9] 27) = wf at hx hb ⊢
      clear htb
      have HX_wf := Lib.hid hx
      clear hx
      have B_tb := Lib.hid hb
      clear hb
      rcases HCASE.out with ⟨hno, hok⟩ | ⟨hyes, hok, hn9, hob9⟩
      · subst hok
        replace B_qb := Lib.hid ((HX_wf.out.block qb (row_lt B_qb.out) id).trans B_qb.out)
        have BQF := B_qb
        have cqb0 := row_cell (k := 0) (v := .int .u8 0) B_qb.out rfl
        have cqb1 := row_cell (k := 1) (v := .int .u16 0) B_qb.out rfl
        have cqb2 := row_cell (k := 2) (v := .bool false) B_qb.out rfl
        have cqb3 := row_cell (k := 3) (v := .bool false) B_qb.out rfl
        have cqb4 := row_cell (k := 4) (v := .int .i64 0) B_qb.out rfl
        have cqb5 := row_cell (k := 5) (v := .int .u8 0) B_qb.out rfl
        have cqb6 := row_cell (k := 6) (v := .int .u8 0) B_qb.out rfl
        have cqb7 := row_cell (k := 7) (v := .int .u32 0) B_qb.out rfl
        have cqb8 := row_cell (k := 8) (v := .int .u32 0) B_qb.out rfl
        have cqb9 := row_cell (k := 9) (v := .slice none 0 0) B_qb.out rfl
        have fqb0 := row_frozen B_qb.out 0
        have fqb1 := row_frozen B_qb.out 1
        have fqb2 := row_frozen B_qb.out 2
        have fqb3 := row_frozen B_qb.out 3
        have fqb4 := row_frozen B_qb.out 4
        have fqb5 := row_frozen B_qb.out 5
        have fqb6 := row_frozen B_qb.out 6
        have fqb7 := row_frozen B_qb.out 7
        have fqb8 := row_frozen B_qb.out 8
        have fqb9 := row_frozen B_qb.out 9
        go_wp2_with fail
        (try simp only [Exit.inBlock, Exit.then])
        have r0 : (wf.setCell ⟨qb, 0, none⟩ (.int .u8 0)).heap[qb]? = some (.cells #[.int .u8 0, .int .u16 0, .bool false, .bool false, .int .i64 0, .int .u8 0, .int .u8 0, .int .u32 0, .int .u32 0, .slice none 0 0] 27) := row_set B_qb.out 0 (.int .u8 0)
        have r1 : ((wf.setCell ⟨qb, 0, none⟩ (.int .u8 0)).setCell ⟨qb, 1, none⟩ (.int .u16 0)).heap[qb]? = some (.cells #[.int .u8 0, .int .u16 0, .bool false, .bool false, .int .i64 0, .int .u8 0, .int .u8 0, .int .u32 0, .int .u32 0, .slice none 0 0] 27) := row_set r0 1 (.int .u16 0)
        clear r0
        have r2 : (((wf.setCell ⟨qb, 0, none⟩ (.int .u8 0)).setCell ⟨qb, 1, none⟩ (.int .u16 0)).setCell ⟨qb, 2, none⟩ (.bool false)).heap[qb]? = some (.cells #[.int .u8 0, .int .u16 0, .bool false, .bool false, .int .i64 0, .int .u8 0, .int .u8 0, .int .u32 0, .int .u32 0, .slice none 0 0] 27) := row_set r1 2 (.bool false)
        clear r1
        have r3 : ((((wf.setCell ⟨qb, 0, none⟩ (.int .u8 0)).setCell ⟨qb, 1, none⟩ (.int .u16 0)).setCell ⟨qb, 2, none⟩ (.bool false)).setCell ⟨qb, 3, none⟩ (.bool false)).heap[qb]? = some (.cells #[.int .u8 0, .int .u16 0, .bool false, .bool false, .int .i64 0, .int .u8 0, .int .u8 0, .int .u32 0, .int .u32 0, .slice none 0 0] 27) := row_set r2 3 (.bool false)
        clear r2
        have r4 : (((((wf.setCell ⟨qb, 0, none⟩ (.int .u8 0)).setCell ⟨qb, 1, none⟩ (.int .u16 0)).setCell ⟨qb, 2, none⟩ (.bool false)).setCell ⟨qb, 3, none⟩ (.bool false)).setCell ⟨qb, 4, none⟩ (.int .i64 0)).heap[qb]? = some (.cells #[.int .u8 0, .int .u16 0, .bool false, .bool false, .int .i64 0, .int .u8 0, .int .u8 0, .int .u32 0, .int .u32 0, .slice none 0 0] 27) := row_set r3 4 (.int .i64 0)
        clear r3
        have r5 : ((((((wf.setCell ⟨qb, 0, none⟩ (.int .u8 0)).setCell ⟨qb, 1, none⟩ (.int .u16 0)).setCell ⟨qb, 2, none⟩ (.bool false)).setCell ⟨qb, 3, none⟩ (.bool false)).setCell ⟨qb, 4, none⟩ (.int .i64 0)).setCell ⟨qb, 5, none⟩ (.int .u8 0)).heap[qb]? = some (.cells #[.int .u8 0, .int .u16 0, .bool false, .bool false, .int .i64 0, .int .u8 0, .int .u8 0, .int .u32 0, .int .u32 0, .slice none 0 0] 27) := row_set r4 5 (.int .u8 0)
        clear r4
        have r6 : (((((((wf.setCell ⟨qb, 0, none⟩ (.int .u8 0)).setCell ⟨qb, 1, none⟩ (.int .u16 0)).setCell ⟨qb, 2, none⟩ (.bool false)).setCell ⟨qb, 3, none⟩ (.bool false)).setCell ⟨qb, 4, none⟩ (.int .i64 0)).setCell ⟨qb, 5, none⟩ (.int .u8 0)).setCell ⟨qb, 6, none⟩ (.int .u8 0)).heap[qb]? = some (.cells #[.int .u8 0, .int .u16 0, .bool false, .bool false, .int .i64 0, .int .u8 0, .int .u8 0, .int .u32 0, .int .u32 0, .slice none 0 0] 27) := row_set r5 6 (.int .u8 0)
        clear r5
        have r7 : ((((((((wf.setCell ⟨qb, 0, none⟩ (.int .u8 0)).setCell ⟨qb, 1, none⟩ (.int .u16 0)).setCell ⟨qb, 2, none⟩ (.bool false)).setCell ⟨qb, 3, none⟩ (.bool false)).setCell ⟨qb, 4, none⟩ (.int .i64 0)).setCell ⟨qb, 5, none⟩ (.int .u8 0)).setCell ⟨qb, 6, none⟩ (.int .u8 0)).setCell ⟨qb, 7, none⟩ (.int .u32 0)).heap[qb]? = some (.cells #[.int .u8 0, .int .u16 0, .bool false, .bool false, .int .i64 0, .int .u8 0, .int .u8 0, .int .u32 0, .int .u32 0, .slice none 0 0] 27) := row_set r6 7 (.int .u32 0)
        clear r6
        have r8 : (((((((((wf.setCell ⟨qb, 0, none⟩ (.int .u8 0)).setCell ⟨qb, 1, none⟩ (.int .u16 0)).setCell ⟨qb, 2, none⟩ (.bool false)).setCell ⟨qb, 3, none⟩ (.bool false)).setCell ⟨qb, 4, none⟩ (.int .i64 0)).setCell ⟨qb, 5, none⟩ (.int .u8 0)).setCell ⟨qb, 6, none⟩ (.int .u8 0)).setCell ⟨qb, 7, none⟩ (.int .u32 0)).setCell ⟨qb, 8, none⟩ (.int .u32 0)).heap[qb]? = some (.cells #[.int .u8 0, .int .u16 0, .bool false, .bool false, .int .i64 0, .int .u8 0, .int .u8 0, .int .u32 0, .int .u32 0, .slice none 0 0] 27) := row_set r7 8 (.int .u32 0)
        clear r7
        have r9 : ((((((((((wf.setCell ⟨qb, 0, none⟩ (.int .u8 0)).setCell ⟨qb, 1, none⟩ (.int .u16 0)).setCell ⟨qb, 2, none⟩ (.bool false)).setCell ⟨qb, 3, none⟩ (.bool false)).setCell ⟨qb, 4, none⟩ (.int .i64 0)).setCell ⟨qb, 5, none⟩ (.int .u8 0)).setCell ⟨qb, 6, none⟩ (.int .u8 0)).setCell ⟨qb, 7, none⟩ (.int .u32 0)).setCell ⟨qb, 8, none⟩ (.int .u32 0)).setCell ⟨qb, 9, none⟩ (.slice none 0 0)).heap[qb]? = some (.cells #[.int .u8 0, .int .u16 0, .bool false, .bool false, .int .i64 0, .int .u8 0, .int .u8 0, .int .u32 0, .int .u32 0, .slice none 0 0] 27) := row_set r8 9 (.slice none 0 0)
        clear r8
        have hx : Ex (fun j => j = qb) wf ((((((((((wf.setCell ⟨qb, 0, none⟩ (.int .u8 0)).setCell ⟨qb, 1, none⟩ (.int .u16 0)).setCell ⟨qb, 2, none⟩ (.bool false)).setCell ⟨qb, 3, none⟩ (.bool false)).setCell ⟨qb, 4, none⟩ (.int .i64 0)).setCell ⟨qb, 5, none⟩ (.int .u8 0)).setCell ⟨qb, 6, none⟩ (.int .u8 0)).setCell ⟨qb, 7, none⟩ (.int .u32 0)).setCell ⟨qb, 8, none⟩ (.int .u32 0)).setCell ⟨qb, 9, none⟩ (.slice none 0 0)) := (((((((((((Ex.refl (fun j => j = qb) wf).setCell (p := ⟨qb, 0, none⟩) (.inl rfl) (.int .u8 0)).setCell (p := ⟨qb, 1, none⟩) (.inl rfl) (.int .u16 0)).setCell (p := ⟨qb, 2, none⟩) (.inl rfl) (.bool false)).setCell (p := ⟨qb, 3, none⟩) (.inl rfl) (.bool false)).setCell (p := ⟨qb, 4, none⟩) (.inl rfl) (.int .i64 0)).setCell (p := ⟨qb, 5, none⟩) (.inl rfl) (.int .u8 0)).setCell (p := ⟨qb, 6, none⟩) (.inl rfl) (.int .u8 0)).setCell (p := ⟨qb, 7, none⟩) (.inl rfl) (.int .u32 0)).setCell (p := ⟨qb, 8, none⟩) (.inl rfl) (.int .u32 0)).setCell (p := ⟨qb, 9, none⟩) (.inl rfl) (.slice none 0 0))
        clear cqb0 cqb1 cqb2 cqb3 cqb4 cqb5 cqb6 cqb7 cqb8 cqb9 fqb0 fqb1 fqb2 fqb3 fqb4 fqb5 fqb6 fqb7 fqb8 fqb9
        generalize ((((((((((wf.setCell ⟨qb, 0, none⟩ (.int .u8 0)).setCell ⟨qb, 1, none⟩ (.int .u16 0)).setCell ⟨qb, 2, none⟩ (.bool false)).setCell ⟨qb, 3, none⟩ (.bool false)).setCell ⟨qb, 4, none⟩ (.int .i64 0)).setCell ⟨qb, 5, none⟩ (.int .u8 0)).setCell ⟨qb, 6, none⟩ (.int .u8 0)).setCell ⟨qb, 7, none⟩ (.int .u32 0)).setCell ⟨qb, 8, none⟩ (.int .u32 0)).setCell ⟨qb, 9, none⟩ (.slice none 0 0)) = wz at r9 hx ⊢
        replace B_qb := Lib.hid r9
        clear r9
        have HX_wz := Lib.hid hx
        clear hx
        refine bodyPost_ret (v := .tuple #[.agg #[.int .u8 0, .int .u16 0, .bool false, .bool false, .int .i64 0, .int .u8 0, .int .u8 0, .int .u32 0, .int .u32 0, .slice none 0 0], .bool false, .nilIface]) (take_results _ qb _ #[.int .u8 0, .int .u16 0, .bool false, .bool false, .int .i64 0, .int .u8 0, .int .u8 0, .int .u32 0, .int .u32 0, .slice none 0 0] _ _ rfl rfl rfl B_qb.out rfl) rfl ⟨?_, A1, c1, .inl ⟨hno, rfl, ⟨k0, bg, hz, os ++ [((⟨xtos, xid, xdf, xmf, xoff, xttl, xpr, xsrc, xdst, xb⟩ : Pk), A1, c1)], g, c7⟩, RS.more HRS.out ?_ ?_ rfl rfl ?_, rfl, rfl, rfl⟩⟩
        · exact ((HXWE.out.andThen HX_wf.out (fun i hi e => e.elim)).andThen HX_wz.out (fun i hi e => by have h3 := hb_qb; have h4 := HX_w1.out.size; omega)).mono (fun k _ h => .inr h)
        · exact ((HXWE.out.andThen HX_wf.out (fun i hi e => e.elim)).andThen HX_wz.out (fun i hi e => by have h3 := hb_qb; have h4 := HX_w1.out.size; omega))
        · have hqh := HQBH.out
          have hq8 := HQB8.out
          refine (HHPE.out.keep HX_wf.out).keepS HX_wz.out (fun e => hqh (.inl e.symm)) (fun e => ?_) (fun k cur hc e => ?_)
          · change g = qb at e
            rcases HG9.out with h | h
            · exact hqh (.inr (by omega))
            · omega
          · exact ty_ne hc BQF.out (by decide) e
        · have h5 := HXW8.out.size
          rcases HG9.out with h | h
          · exact .inl h
          · exact .inr (by show w.heap.size ≤ g; omega)
      · subst hok
        obtain rfl : n9 = zb.length := hn9
        have HOB9 := Lib.hid hob9
        have HYES := Lib.hid hyes
        clear hob9 hyes
        have hne1 : ∀ k cs t, we.heap[k]? = some (.cells cs t) → k ≠ bm := fun k cs t h e => by
          obtain ⟨es, c9', h2⟩ := (HRS.out.map.keep HXWE.out (S := fun k => k = hz ∨ k = g0) (by
            obtain ⟨cg, hg⟩ := HH0.out.row
            rintro (e | e)
            · exact map_ne HH0.out.1 HRS.out.map.isMap e.symm
            · exact map_ne hg HRS.out.map.isMap e.symm)).isMap
          rw [← e, h] at h2
          cases h2
        have hmp : MP wf bm ((G1 ++ (⟨k0, bg, hz, os, g0, cap0⟩ : Hp) :: G2).map fun h => (h.k, h.hb)) := (HRS.out.map.keep HXWE.out (by
            obtain ⟨cg, hg⟩ := HH0.out.row
            rintro (e | e)
            · exact map_ne HH0.out.1 HRS.out.map.isMap e.symm
            · exact map_ne hg HRS.out.map.isMap e.symm)).keep HX_wf.out id
        have hrbe : wf.heap[rb]? = some (.cells #[.int .u64 tm, .map (some bm)] 76) := by
          have h0 : w.heap[rb]? = _ := HRS.out.cell
          have h1 := HXWE.out.block rb (row_lt h0) (by
            obtain ⟨cg, hg⟩ := HH0.out.row
            rintro (e | e)
            · exact ty_ne h0 HH0.out.1 (by decide) e
            · exact ty_ne h0 hg (by decide) e)
          exact (HX_wf.out.block rb (row_lt (h1.trans h0)) id).trans (h1.trans h0)
        have crb1 := row_cell (k := 1) (v := .map (some bm)) hrbe rfl
        have hdel : ∀ ty W, Ex (fun _ => False) wf W → ∃ w', (Builtin.delete_ #[74, 78] ty #[.map (some bm), .agg #[.int .u32 xsrc, .int .u32 xdst, .int .u8 xpr, .int .u16 xid]]).run Tryd.prog W = .ok (.tuple #[]) w' ∧ MP w' bm ((G1 ++ G2).map fun h => (h.k, h.hb)) ∧ Ex (fun k => k = bm) W w' := by
          intro ty W hx'
          obtain ⟨w', h1, h2, h3⟩ := (hmp.keep hx' id).drop (keys_apart HRS.out.apart) (⟨xtos, xid, xdf, xmf, xoff, xttl, xpr, xsrc, xdst, xb⟩ : Pk) HOK.out ty
          rw [filter_mid (show (⟨k0, bg, hz, os, g0, cap0⟩ : Hp).k = _ from HK0.out) HRS.out.apart] at h2
          exact ⟨w', h1, h2, h3⟩
        have hbtbm : ∀ k cs t, wf.heap[k]? = some (.cells cs t) → k ≠ bm := fun k cs t h e => map_ne h hmp.isMap e
        have HDEL := Lib.hid hdel
        have HTBM := Lib.hid hbtbm
        have hnr : bm ≠ rb := (hbtbm _ _ _ hrbe).symm
        have hnb : bm ≠ kx := (hbtbm _ _ _ ((HX_wf.out.block kx (row_lt B_kx.out) id).trans B_kx.out)).symm
        clear hdel hmp hne1 hbtbm hrbe
        go_upto_region 20 with fail
        replace B_kx := Lib.hid ((HX_wf.out.block kx (row_lt B_kx.out) id).trans B_kx.out)
        have ckx0 := row_cell (k := 0) (v := .int .u32 xsrc) B_kx.out rfl
        have ckx1 := row_cell (k := 1) (v := .int .u32 xdst) B_kx.out rfl
        have ckx2 := row_cell (k := 2) (v := .int .u8 xpr) B_kx.out rfl
        have ckx3 := row_cell (k := 3) (v := .int .u16 xid) B_kx.out rfl
        replace B_qb := Lib.hid ((HX_wf.out.block qb (row_lt B_qb.out) id).trans B_qb.out)
        have hS0 : Ex (fun k => k = bm) wf wf.drew := (Ex.refl _ wf).drew
        have HX_wd := Lib.hid ((Ex.refl (fun _ => False) wf).drew)
        refine wp_region_held_drew (S := fun W => Ex (fun k => k = bm) wf W) (by kernel_rfl) hS0 (fun _ => ?_)
        generalize wf.drew = wd at hS0 HX_wd ⊢
        refine wpAnyH_take (i := 0) (oi := { dst := some 106, op := Go.Op.move (Go.Operand.tmp 0), type := 45, pos := "frag.go:141", after := #[], guard := none }) (v := ?v19) rfl (by kernel_rfl) (by kernel_rfl) (by kernel_rfl) (fun _ _ _ h => h) (Or.inl ⟨by rfl, ?hy19⟩) (by assumption) ?rest19
        case hy19 => (intro w hSw; (try dsimp only at hSw); have eckx0 := hSw.cell ckx0 hnb.symm; have eckx1 := hSw.cell ckx1 hnb.symm; have eckx2 := hSw.cell ckx2 hnb.symm; have eckx3 := hSw.cell ckx3 hnb.symm; have er := hSw.cell crb1 hnr.symm; go_simp <;> with_reducible rfl)
        try simp only [Act.put, List.setIfInBounds_toArray, List.set_cons_zero, List.set_cons_succ]
        refine wpAnyH_take (i := 1) (oi := { dst := some 107, op := Go.Op.nilCheck (Go.Operand.tmp 106), type := 0, pos := "frag.go:141", after := #[{ on := 0, ground := Go.Ground.data }], guard := none }) (v := ?v20) rfl (by kernel_rfl) (by kernel_rfl) (by kernel_rfl) (fun _ _ _ h => h) (Or.inl ⟨by rfl, ?hy20⟩) (by assumption) ?rest20
        case hy20 => (intro w hSw; (try dsimp only at hSw); have eckx0 := hSw.cell ckx0 hnb.symm; have eckx1 := hSw.cell ckx1 hnb.symm; have eckx2 := hSw.cell ckx2 hnb.symm; have eckx3 := hSw.cell ckx3 hnb.symm; have er := hSw.cell crb1 hnr.symm; go_simp <;> with_reducible rfl)
        try simp only [Act.put, List.setIfInBounds_toArray, List.set_cons_zero, List.set_cons_succ]
        refine wpAnyH_take (i := 2) (oi := { dst := some 108, op := Go.Op.fieldAddr 76 (Go.Operand.tmp 107) 1, type := 0, pos := "frag.go:141", after := #[{ on := 1, ground := Go.Ground.data }], guard := none }) (v := ?v21) rfl (by kernel_rfl) (by kernel_rfl) (by kernel_rfl) (fun _ _ _ h => h) (Or.inl ⟨by rfl, ?hy21⟩) (by assumption) ?rest21
        case hy21 => (intro w hSw; (try dsimp only at hSw); have eckx0 := hSw.cell ckx0 hnb.symm; have eckx1 := hSw.cell ckx1 hnb.symm; have eckx2 := hSw.cell ckx2 hnb.symm; have eckx3 := hSw.cell ckx3 hnb.symm; have er := hSw.cell crb1 hnr.symm; go_simp <;> with_reducible rfl)
        try simp only [Act.put, List.setIfInBounds_toArray, List.set_cons_zero, List.set_cons_succ]
        refine wpAnyH_take (i := 3) (oi := { dst := some 109, op := Go.Op.load 74 (Go.Operand.tmp 108), type := 74, pos := "frag.go:141", after := #[{ on := 2, ground := Go.Ground.data }], guard := none }) (v := ?v22) rfl (by kernel_rfl) (by kernel_rfl) (by kernel_rfl) (fun _ _ _ h => h) (Or.inl ⟨by rfl, ?hy22⟩) (by assumption) ?rest22
        case hy22 => (intro w hSw; (try dsimp only at hSw); have eckx0 := hSw.cell ckx0 hnb.symm; have eckx1 := hSw.cell ckx1 hnb.symm; have eckx2 := hSw.cell ckx2 hnb.symm; have eckx3 := hSw.cell ckx3 hnb.symm; have er := hSw.cell crb1 hnr.symm; go_simp <;> with_reducible rfl)
        try simp only [Act.put, List.setIfInBounds_toArray, List.set_cons_zero, List.set_cons_succ]
        refine wpAnyH_take (i := 4) (oi := { dst := some 110, op := Go.Op.load 78 (Go.Operand.tmp 10), type := 78, pos := "frag.go:141", after := #[], guard := none }) (v := ?v23) rfl (by kernel_rfl) (by kernel_rfl) (by kernel_rfl) (fun _ _ _ h => h) (Or.inl ⟨by rfl, ?hy23⟩) (by assumption) ?rest23
        case hy23 => (intro w hSw; (try dsimp only at hSw); have eckx0 := hSw.cell ckx0 hnb.symm; have eckx1 := hSw.cell ckx1 hnb.symm; have eckx2 := hSw.cell ckx2 hnb.symm; have eckx3 := hSw.cell ckx3 hnb.symm; have er := hSw.cell crb1 hnr.symm; go_simp <;> with_reducible rfl)
        try simp only [Act.put, List.setIfInBounds_toArray, List.set_cons_zero, List.set_cons_succ]
        refine wpAnyH_ready (rs := [5]) (by kernel_rfl) (by simp) ?_
        refine AllReadyH.cons (o := { dst := none, op := Go.Op.call { callee := Go.Callee.builtin Go.Builtin.delete, args := #[Go.Operand.tmp 109, Go.Operand.tmp 110], argTypes := #[74, 78] }, type := 0, pos := "frag.go:141", after := #[{ on := 3, ground := Go.Ground.data }, { on := 4, ground := Go.Ground.data }], guard := none }) rfl (fun K hK => ?_) AllReadyH.nil
        obtain ⟨wg, hrun, hmp7, hx7⟩ := HDEL.out 0 wd HX_wd.out
        rw [if_pos (by simp [Region.wanted])]
        refine delete_wp (.tmp 109) (.tmp 110) 74 78 rfl _ _ _ rfl rfl hrun ?_
        have hS1 : Ex (fun k => k = bm) wf wg := hS0.trans hx7
        refine hK.out _ _ hS1 (fun _ => ?_)
        refine wpAnyH_done (by kernel_rfl) ?_ _
        have HMP7 := Lib.hid hmp7
        have HS1 := Lib.hid hS1
        replace B_qb := Lib.hid ((HS1.out.block qb (row_lt B_qb.out) (HTBM.out _ _ _ B_qb.out)).trans B_qb.out)
        replace B_tb := Lib.hid ((HS1.out.block tb (row_lt B_tb.out) (HTBM.out _ _ _ B_tb.out)).trans B_tb.out)
        clear hS0 hS1 hmp7 hx7 hrun hnb hnr crb1 ckx0 ckx1 ckx2 ckx3
        have ctb0 := row_cell (k := 0) (v := .int .u8 ztos) B_tb.out rfl
        have ctb1 := row_cell (k := 1) (v := .int .u16 zid) B_tb.out rfl
        have ctb2 := row_cell (k := 2) (v := .bool zdf) B_tb.out rfl
        have ctb3 := row_cell (k := 3) (v := .bool zmf) B_tb.out rfl
        have ctb4 := row_cell (k := 4) (v := .int .i64 zoff) B_tb.out rfl
        have ctb5 := row_cell (k := 5) (v := .int .u8 zttl) B_tb.out rfl
        have ctb6 := row_cell (k := 6) (v := .int .u8 zpr) B_tb.out rfl
        have ctb7 := row_cell (k := 7) (v := .int .u32 zsrc) B_tb.out rfl
        have ctb8 := row_cell (k := 8) (v := .int .u32 zdst) B_tb.out rfl
        have ctb9 := row_cell (k := 9) (v := .slice A9 zb.length c9) B_tb.out rfl
        have cqb0 := row_cell (k := 0) (v := .int .u8 0) B_qb.out rfl
        have cqb1 := row_cell (k := 1) (v := .int .u16 0) B_qb.out rfl
        have cqb2 := row_cell (k := 2) (v := .bool false) B_qb.out rfl
        have cqb3 := row_cell (k := 3) (v := .bool false) B_qb.out rfl
        have cqb4 := row_cell (k := 4) (v := .int .i64 0) B_qb.out rfl
        have cqb5 := row_cell (k := 5) (v := .int .u8 0) B_qb.out rfl
        have cqb6 := row_cell (k := 6) (v := .int .u8 0) B_qb.out rfl
        have cqb7 := row_cell (k := 7) (v := .int .u32 0) B_qb.out rfl
        have cqb8 := row_cell (k := 8) (v := .int .u32 0) B_qb.out rfl
        have cqb9 := row_cell (k := 9) (v := .slice none 0 0) B_qb.out rfl
        have fqb0 := row_frozen B_qb.out 0
        have fqb1 := row_frozen B_qb.out 1
        have fqb2 := row_frozen B_qb.out 2
        have fqb3 := row_frozen B_qb.out 3
        have fqb4 := row_frozen B_qb.out 4
        have fqb5 := row_frozen B_qb.out 5
        have fqb6 := row_frozen B_qb.out 6
        have fqb7 := row_frozen B_qb.out 7
        have fqb8 := row_frozen B_qb.out 8
        have fqb9 := row_frozen B_qb.out 9
        go_wp2_with fail
        (try simp only [Exit.inBlock, Exit.then])
        have r0 : (wg.setCell ⟨qb, 0, none⟩ (.int .u8 ztos)).heap[qb]? = some (.cells #[.int .u8 ztos, .int .u16 0, .bool false, .bool false, .int .i64 0, .int .u8 0, .int .u8 0, .int .u32 0, .int .u32 0, .slice none 0 0] 27) := row_set B_qb.out 0 (.int .u8 ztos)
        have r1 : ((wg.setCell ⟨qb, 0, none⟩ (.int .u8 ztos)).setCell ⟨qb, 1, none⟩ (.int .u16 zid)).heap[qb]? = some (.cells #[.int .u8 ztos, .int .u16 zid, .bool false, .bool false, .int .i64 0, .int .u8 0, .int .u8 0, .int .u32 0, .int .u32 0, .slice none 0 0] 27) := row_set r0 1 (.int .u16 zid)
        clear r0
        have r2 : (((wg.setCell ⟨qb, 0, none⟩ (.int .u8 ztos)).setCell ⟨qb, 1, none⟩ (.int .u16 zid)).setCell ⟨qb, 2, none⟩ (.bool zdf)).heap[qb]? = some (.cells #[.int .u8 ztos, .int .u16 zid, .bool zdf, .bool false, .int .i64 0, .int .u8 0, .int .u8 0, .int .u32 0, .int .u32 0, .slice none 0 0] 27) := row_set r1 2 (.bool zdf)
        clear r1
        have r3 : ((((wg.setCell ⟨qb, 0, none⟩ (.int .u8 ztos)).setCell ⟨qb, 1, none⟩ (.int .u16 zid)).setCell ⟨qb, 2, none⟩ (.bool zdf)).setCell ⟨qb, 3, none⟩ (.bool zmf)).heap[qb]? = some (.cells #[.int .u8 ztos, .int .u16 zid, .bool zdf, .bool zmf, .int .i64 0, .int .u8 0, .int .u8 0, .int .u32 0, .int .u32 0, .slice none 0 0] 27) := row_set r2 3 (.bool zmf)
        clear r2
        have r4 : (((((wg.setCell ⟨qb, 0, none⟩ (.int .u8 ztos)).setCell ⟨qb, 1, none⟩ (.int .u16 zid)).setCell ⟨qb, 2, none⟩ (.bool zdf)).setCell ⟨qb, 3, none⟩ (.bool zmf)).setCell ⟨qb, 4, none⟩ (.int .i64 zoff)).heap[qb]? = some (.cells #[.int .u8 ztos, .int .u16 zid, .bool zdf, .bool zmf, .int .i64 zoff, .int .u8 0, .int .u8 0, .int .u32 0, .int .u32 0, .slice none 0 0] 27) := row_set r3 4 (.int .i64 zoff)
        clear r3
        have r5 : ((((((wg.setCell ⟨qb, 0, none⟩ (.int .u8 ztos)).setCell ⟨qb, 1, none⟩ (.int .u16 zid)).setCell ⟨qb, 2, none⟩ (.bool zdf)).setCell ⟨qb, 3, none⟩ (.bool zmf)).setCell ⟨qb, 4, none⟩ (.int .i64 zoff)).setCell ⟨qb, 5, none⟩ (.int .u8 zttl)).heap[qb]? = some (.cells #[.int .u8 ztos, .int .u16 zid, .bool zdf, .bool zmf, .int .i64 zoff, .int .u8 zttl, .int .u8 0, .int .u32 0, .int .u32 0, .slice none 0 0] 27) := row_set r4 5 (.int .u8 zttl)
        clear r4
        have r6 : (((((((wg.setCell ⟨qb, 0, none⟩ (.int .u8 ztos)).setCell ⟨qb, 1, none⟩ (.int .u16 zid)).setCell ⟨qb, 2, none⟩ (.bool zdf)).setCell ⟨qb, 3, none⟩ (.bool zmf)).setCell ⟨qb, 4, none⟩ (.int .i64 zoff)).setCell ⟨qb, 5, none⟩ (.int .u8 zttl)).setCell ⟨qb, 6, none⟩ (.int .u8 zpr)).heap[qb]? = some (.cells #[.int .u8 ztos, .int .u16 zid, .bool zdf, .bool zmf, .int .i64 zoff, .int .u8 zttl, .int .u8 zpr, .int .u32 0, .int .u32 0, .slice none 0 0] 27) := row_set r5 6 (.int .u8 zpr)
        clear r5
        have r7 : ((((((((wg.setCell ⟨qb, 0, none⟩ (.int .u8 ztos)).setCell ⟨qb, 1, none⟩ (.int .u16 zid)).setCell ⟨qb, 2, none⟩ (.bool zdf)).setCell ⟨qb, 3, none⟩ (.bool zmf)).setCell ⟨qb, 4, none⟩ (.int .i64 zoff)).setCell ⟨qb, 5, none⟩ (.int .u8 zttl)).setCell ⟨qb, 6, none⟩ (.int .u8 zpr)).setCell ⟨qb, 7, none⟩ (.int .u32 zsrc)).heap[qb]? = some (.cells #[.int .u8 ztos, .int .u16 zid, .bool zdf, .bool zmf, .int .i64 zoff, .int .u8 zttl, .int .u8 zpr, .int .u32 zsrc, .int .u32 0, .slice none 0 0] 27) := row_set r6 7 (.int .u32 zsrc)
        clear r6
        have r8 : (((((((((wg.setCell ⟨qb, 0, none⟩ (.int .u8 ztos)).setCell ⟨qb, 1, none⟩ (.int .u16 zid)).setCell ⟨qb, 2, none⟩ (.bool zdf)).setCell ⟨qb, 3, none⟩ (.bool zmf)).setCell ⟨qb, 4, none⟩ (.int .i64 zoff)).setCell ⟨qb, 5, none⟩ (.int .u8 zttl)).setCell ⟨qb, 6, none⟩ (.int .u8 zpr)).setCell ⟨qb, 7, none⟩ (.int .u32 zsrc)).setCell ⟨qb, 8, none⟩ (.int .u32 zdst)).heap[qb]? = some (.cells #[.int .u8 ztos, .int .u16 zid, .bool zdf, .bool zmf, .int .i64 zoff, .int .u8 zttl, .int .u8 zpr, .int .u32 zsrc, .int .u32 zdst, .slice none 0 0] 27) := row_set r7 8 (.int .u32 zdst)
        clear r7
        have r9 : ((((((((((wg.setCell ⟨qb, 0, none⟩ (.int .u8 ztos)).setCell ⟨qb, 1, none⟩ (.int .u16 zid)).setCell ⟨qb, 2, none⟩ (.bool zdf)).setCell ⟨qb, 3, none⟩ (.bool zmf)).setCell ⟨qb, 4, none⟩ (.int .i64 zoff)).setCell ⟨qb, 5, none⟩ (.int .u8 zttl)).setCell ⟨qb, 6, none⟩ (.int .u8 zpr)).setCell ⟨qb, 7, none⟩ (.int .u32 zsrc)).setCell ⟨qb, 8, none⟩ (.int .u32 zdst)).setCell ⟨qb, 9, none⟩ (.slice A9 zb.length c9)).heap[qb]? = some (.cells #[.int .u8 ztos, .int .u16 zid, .bool zdf, .bool zmf, .int .i64 zoff, .int .u8 zttl, .int .u8 zpr, .int .u32 zsrc, .int .u32 zdst, .slice A9 zb.length c9] 27) := row_set r8 9 (.slice A9 zb.length c9)
        clear r8
        have hx : Ex (fun j => j = qb) wg ((((((((((wg.setCell ⟨qb, 0, none⟩ (.int .u8 ztos)).setCell ⟨qb, 1, none⟩ (.int .u16 zid)).setCell ⟨qb, 2, none⟩ (.bool zdf)).setCell ⟨qb, 3, none⟩ (.bool zmf)).setCell ⟨qb, 4, none⟩ (.int .i64 zoff)).setCell ⟨qb, 5, none⟩ (.int .u8 zttl)).setCell ⟨qb, 6, none⟩ (.int .u8 zpr)).setCell ⟨qb, 7, none⟩ (.int .u32 zsrc)).setCell ⟨qb, 8, none⟩ (.int .u32 zdst)).setCell ⟨qb, 9, none⟩ (.slice A9 zb.length c9)) := (((((((((((Ex.refl (fun j => j = qb) wg).setCell (p := ⟨qb, 0, none⟩) (.inl rfl) (.int .u8 ztos)).setCell (p := ⟨qb, 1, none⟩) (.inl rfl) (.int .u16 zid)).setCell (p := ⟨qb, 2, none⟩) (.inl rfl) (.bool zdf)).setCell (p := ⟨qb, 3, none⟩) (.inl rfl) (.bool zmf)).setCell (p := ⟨qb, 4, none⟩) (.inl rfl) (.int .i64 zoff)).setCell (p := ⟨qb, 5, none⟩) (.inl rfl) (.int .u8 zttl)).setCell (p := ⟨qb, 6, none⟩) (.inl rfl) (.int .u8 zpr)).setCell (p := ⟨qb, 7, none⟩) (.inl rfl) (.int .u32 zsrc)).setCell (p := ⟨qb, 8, none⟩) (.inl rfl) (.int .u32 zdst)).setCell (p := ⟨qb, 9, none⟩) (.inl rfl) (.slice A9 zb.length c9))
        clear ctb0 ctb1 ctb2 ctb3 ctb4 ctb5 ctb6 ctb7 ctb8 ctb9 cqb0 cqb1 cqb2 cqb3 cqb4 cqb5 cqb6 cqb7 cqb8 cqb9 fqb0 fqb1 fqb2 fqb3 fqb4 fqb5 fqb6 fqb7 fqb8 fqb9
        generalize ((((((((((wg.setCell ⟨qb, 0, none⟩ (.int .u8 ztos)).setCell ⟨qb, 1, none⟩ (.int .u16 zid)).setCell ⟨qb, 2, none⟩ (.bool zdf)).setCell ⟨qb, 3, none⟩ (.bool zmf)).setCell ⟨qb, 4, none⟩ (.int .i64 zoff)).setCell ⟨qb, 5, none⟩ (.int .u8 zttl)).setCell ⟨qb, 6, none⟩ (.int .u8 zpr)).setCell ⟨qb, 7, none⟩ (.int .u32 zsrc)).setCell ⟨qb, 8, none⟩ (.int .u32 zdst)).setCell ⟨qb, 9, none⟩ (.slice A9 zb.length c9)) = wz at r9 hx ⊢
        replace B_qb := Lib.hid r9
        clear r9
        have HX_wz := Lib.hid hx
        clear hx
        have hexw : Ex (fun k => k = bm ∨ k = hz ∨ k = g0) w wz := (((HXWE.out.andThen HX_wf.out (fun i hi e => e.elim)).mono (fun k _ h => .inr h)).trans (HS1.out.mono (fun k _ h => .inl h))).andThen HX_wz.out (fun i hi e => by have h3 := hb_qb; have h4 := HX_w1.out.size; omega)
        have hqc : qb < wc.heap.size := by have h5 := HXC.out.size; have h6 := HQB8.out; omega
        have hbw := HRS.out.map.lt
        have hwc : w.heap.size ≤ wc.heap.size := by have h5 := HXC.out.size; have h6 := HXW8.out.size; omega
        refine bodyPost_ret (v := .tuple #[.agg #[.int .u8 ztos, .int .u16 zid, .bool zdf, .bool zmf, .int .i64 zoff, .int .u8 zttl, .int .u8 zpr, .int .u32 zsrc, .int .u32 zdst, .slice A9 zb.length c9], .bool true, .nilIface]) (take_results _ qb _ #[.int .u8 ztos, .int .u16 zid, .bool zdf, .bool zmf, .int .i64 zoff, .int .u8 zttl, .int .u8 zpr, .int .u32 zsrc, .int .u32 zdst, .slice A9 zb.length c9] _ _ rfl rfl rfl B_qb.out rfl) rfl ⟨hexw, A1, c1, .inr ⟨(⟨ztos, zid, zdf, zmf, zoff, zttl, zpr, zsrc, zdst, zb⟩ : Pk), A9, c9, HYES.out, rfl, ?_, RS.less HRS.out hexw ?_⟩⟩
        · have h1 : OB we wc.heap.size (.slice A9 zb.length c9) zb := HOB9.out
          have h2 := h1.keep HX_wf.out (fun _ _ _ _ => id)
          have h3 := h2.keep HS1.out (fun k _ _ hk e => by omega)
          exact (h3.keep HX_wz.out (fun k _ _ hk e => by omega)).mono hwc
        · exact HMP7.out.keep HX_wz.out (fun e => by have h3 := hb_qb; have h4 := HX_w1.out.size; omega)
end Go.Proofs.YtabjihchcmjdmaaDoor
