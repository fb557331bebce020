/-
  fights. By an AI agent.
-/
import Derived.Test.YtabjihchcmjdmaaDoorGp10
import Derived.Deep.DeepCutAuto
import Derived.Deep.CutBlock
/-
  The contract of frag.fights. By an AI agent.
-/
namespace Go.Proofs.YtabjihchcmjdmaaDoor
open Go.RowKit

/-- where two parts overlap -/
def fro (p q : Pk) : Int := if p.off < q.off then q.off else p.off
def til (p q : Pk) : Int := if q.en < p.en then q.en else p.en
/-- the bytes of a part from one place to another -/
def Pk.cut (p : Pk) (a b : Int) : List UInt8 := (p.b.take (b - p.off).toNat).drop (a - p.off).toNat
/-- frag.fights -/
def fightsB (p q : Pk) : Bool := (decide (fro p q < til p q) && !decide (p.cut (fro p q) (til p q) = q.cut (fro p q) (til p q))) || (pastB p q || pastB q p)
theorem wrap_d {a b : Int} {i : Nat} (h1 : -1000000 ≤ a ∧ a ≤ 2000000000) (h2 : -1000000 ≤ b ∧ b ≤ 2000000000) (h : (a - b).toNat = i) (h3 : b ≤ a) : wrap64 (a - b) = (i : Int) ∧ IntKind.i64.wrap (a - b) = (i : Int) := by
  refine ⟨?_, ?_⟩
  · unfold wrap64; omega
  · rw [IntKind.wrap_i64]; omega
set_option maxRecDepth 100000 in
set_option maxHeartbeats 4000000 in
theorem fights_no (P Q : Nat → Prop) (p q : Pk) (A B : Option Addr) (c d : Nat) (w : World) (hp : p.sm) (hq : q.sm) (hrp : RB w P (.slice A p.b.length c) p.b) (hrq : RB w Q (.slice B q.b.length d) q.b) (h : ¬ fro p q < til p q) :
    Calls Tryd.prog 31 #[pkv p (.slice A p.b.length c), pkv q (.slice B q.b.length d)] w fun e w' => e = .returned (.bool (pastB p q || pastB q p)) ∧ Ex (fun _ => False) w w' := by
  have h1 := fun w => end_any p A c w hp.1 hp.2
  have h2 := fun w => end_any q B d w hq.1 hq.2
  have h3 := fun w => past_any p q A B c d w hp hq
  have h4 := fun w => past_any q p B A d c w hq hp
  have hfr : (if p.off < q.off then q.off else p.off) = fro p q := rfl
  have hti : (if q.en < p.en then q.en else p.en) = til p q := rfl
  generalize fro p q = fr at *
  generalize til p q = ti at *
  generalize pastB p q = r1 at *
  generalize pastB q p = r2 at *
  generalize p.en = X at *
  generalize q.en = Y at *
  obtain ⟨xtos, xid, xdf, xmf, xoff, xttl, xpr, xsrc, xdst, xb⟩ := p
  obtain ⟨ytos, yid, ydf, ymf, yoff, yttl, ypr, ysrc, ydst, yb⟩ := q
  have H1 := Lib.hid h1
  have H2 := Lib.hid h2
  have H3 := Lib.hid h3
  have H4 := Lib.hid h4
  have HFR := Lib.hid hfr
  have HTI := Lib.hid hti
  have HLT := Lib.hid h
  clear h1 h2 h3 h4 hfr hti h hp hq hrp hrq
  show Calls Tryd.prog 31 #[.agg #[.int .u8 xtos, .int .u16 xid, .bool xdf, .bool xmf, .int .i64 xoff, .int .u8 xttl, .int .u8 xpr, .int .u32 xsrc, .int .u32 xdst, .slice A xb.length c], .agg #[.int .u8 ytos, .int .u16 yid, .bool ydf, .bool ymf, .int .i64 yoff, .int .u8 yttl, .int .u8 ypr, .int .u32 ysrc, .int .u32 ydst, .slice B yb.length d]] w _
  go_enter Tryd.func31, Tryd.ntmps31
  go_upto_region 1 with fail
  have hx : Ex (fun _ => False) w (w.alloc (.cells #[.int .u8 xtos, .int .u16 xid, .bool xdf, .bool xmf, .int .i64 xoff, .int .u8 xttl, .int .u8 xpr, .int .u32 xsrc, .int .u32 xdst, .slice A xb.length c] 27)) := (Ex.refl _ w).alloc _
  have hb : (w.alloc (.cells #[.int .u8 xtos, .int .u16 xid, .bool xdf, .bool xmf, .int .i64 xoff, .int .u8 xttl, .int .u8 xpr, .int .u32 xsrc, .int .u32 xdst, .slice A xb.length c] 27)).heap[w.heap.size]? = some (.cells #[.int .u8 xtos, .int .u16 xid, .bool xdf, .bool xmf, .int .i64 xoff, .int .u8 xttl, .int .u8 xpr, .int .u32 xsrc, .int .u32 xdst, .slice A xb.length c] 27) := heap_alloc_new w _
  have hs1 : (w.alloc (.cells #[.int .u8 xtos, .int .u16 xid, .bool xdf, .bool xmf, .int .i64 xoff, .int .u8 xttl, .int .u8 xpr, .int .u32 xsrc, .int .u32 xdst, .slice A xb.length c] 27)).heap.size = w.heap.size + 1 := by simp
  obtain ⟨pb, hpb⟩ : ∃ pb, pb = w.heap.size := ⟨_, rfl⟩
  have hb_pb : w.heap.size ≤ pb := by omega
  rw [← hpb] at hb hs1 
  try simp only [← hpb]
  generalize w.alloc (.cells #[.int .u8 xtos, .int .u16 xid, .bool xdf, .bool xmf, .int .i64 xoff, .int .u8 xttl, .int .u8 xpr, .int .u32 xsrc, .int .u32 xdst, .slice A xb.length c] 27) = w1 at hx hb  hs1 ⊢
  try simp only [← hs1]
  clear hs1
  clear hpb
  have HX_w1 := Lib.hid hx
  clear hx
  have B_pb := Lib.hid hb
  clear hb
  have hx : Ex (fun _ => False) w1 (w1.alloc (.cells #[.int .u8 ytos, .int .u16 yid, .bool ydf, .bool ymf, .int .i64 yoff, .int .u8 yttl, .int .u8 ypr, .int .u32 ysrc, .int .u32 ydst, .slice B yb.length d] 27)) := (Ex.refl _ w1).alloc _
  have hb : (w1.alloc (.cells #[.int .u8 ytos, .int .u16 yid, .bool ydf, .bool ymf, .int .i64 yoff, .int .u8 yttl, .int .u8 ypr, .int .u32 ysrc, .int .u32 ydst, .slice B yb.length d] 27)).heap[w1.heap.size]? = some (.cells #[.int .u8 ytos, .int .u16 yid, .bool ydf, .bool ymf, .int .i64 yoff, .int .u8 yttl, .int .u8 ypr, .int .u32 ysrc, .int .u32 ydst, .slice B yb.length d] 27) := heap_alloc_new w1 _
  obtain ⟨qb, hqb⟩ : ∃ qb, qb = w1.heap.size := ⟨_, rfl⟩
  have hb_qb : w1.heap.size ≤ qb := by omega
  rw [← hqb] at hb
  try simp only [← hqb]
  generalize w1.alloc (.cells #[.int .u8 ytos, .int .u16 yid, .bool ydf, .bool ymf, .int .i64 yoff, .int .u8 yttl, .int .u8 ypr, .int .u32 ysrc, .int .u32 ydst, .slice B yb.length d] 27) = w2 at hx hb ⊢
  clear hqb
  have HX_w2 := Lib.hid hx
  clear hx
  have B_qb := Lib.hid hb
  clear hb
  replace B_pb := Lib.hid ((HX_w2.out.block pb (row_lt B_pb.out) id).trans B_pb.out)
  have cpb0 := row_cell (k := 0) (v := .int .u8 xtos) B_pb.out rfl
  have cpb1 := row_cell (k := 1) (v := .int .u16 xid) B_pb.out rfl
  have cpb2 := row_cell (k := 2) (v := .bool xdf) B_pb.out rfl
  have cpb3 := row_cell (k := 3) (v := .bool xmf) B_pb.out rfl
  have cpb4 := row_cell (k := 4) (v := .int .i64 xoff) B_pb.out rfl
  have cpb5 := row_cell (k := 5) (v := .int .u8 xttl) B_pb.out rfl
  have cpb6 := row_cell (k := 6) (v := .int .u8 xpr) B_pb.out rfl
  have cpb7 := row_cell (k := 7) (v := .int .u32 xsrc) B_pb.out rfl
  have cpb8 := row_cell (k := 8) (v := .int .u32 xdst) B_pb.out rfl
  have cpb9 := row_cell (k := 9) (v := .slice A xb.length c) B_pb.out rfl
  have cqb0 := row_cell (k := 0) (v := .int .u8 ytos) B_qb.out rfl
  have cqb1 := row_cell (k := 1) (v := .int .u16 yid) B_qb.out rfl
  have cqb2 := row_cell (k := 2) (v := .bool ydf) B_qb.out rfl
  have cqb3 := row_cell (k := 3) (v := .bool ymf) B_qb.out rfl
  have cqb4 := row_cell (k := 4) (v := .int .i64 yoff) B_qb.out rfl
  have cqb5 := row_cell (k := 5) (v := .int .u8 yttl) B_qb.out rfl
  have cqb6 := row_cell (k := 6) (v := .int .u8 ypr) B_qb.out rfl
  have cqb7 := row_cell (k := 7) (v := .int .u32 ysrc) B_qb.out rfl
  have cqb8 := row_cell (k := 8) (v := .int .u32 ydst) B_qb.out rfl
  have cqb9 := row_cell (k := 9) (v := .slice B yb.length d) B_qb.out rfl
  go_cut [5, 6] (fun x y wx => x = .int .i64 fr ∧ y = .int .i64 ti ∧ Hid (Ex (fun _ => False) w2 wx))
  case first =>
    have hS0 : Ex (fun _ => False) w2 w2.drew := (Ex.refl _ w2).drew
    refine wp_region_held_drew (S := fun W => Ex (fun _ => False) w2 W) (by kernel_rfl) hS0 (fun _ => ?_)
    refine wpAnyH_take (i := 0) (oi := { dst := some 7, op := Go.Op.fieldAddr 27 (Go.Operand.tmp 2) 4, type := 0, pos := "frag.go:88", after := #[], guard := none }) (v := ?v1) rfl (by kernel_rfl) (by kernel_rfl) (by kernel_rfl) (fun _ _ _ h => h) (Or.inl ⟨by rfl, ?hy1⟩) (by assumption) ?rest1
    case hy1 => (intro w hSw; (try dsimp only at hSw); have ecpb0 := hSw.cell cpb0 id; have ecpb1 := hSw.cell cpb1 id; have ecpb2 := hSw.cell cpb2 id; have ecpb3 := hSw.cell cpb3 id; have ecpb4 := hSw.cell cpb4 id; have ecpb5 := hSw.cell cpb5 id; have ecpb6 := hSw.cell cpb6 id; have ecpb7 := hSw.cell cpb7 id; have ecpb8 := hSw.cell cpb8 id; have ecpb9 := hSw.cell cpb9 id; have ecqb0 := hSw.cell cqb0 id; have ecqb1 := hSw.cell cqb1 id; have ecqb2 := hSw.cell cqb2 id; have ecqb3 := hSw.cell cqb3 id; have ecqb4 := hSw.cell cqb4 id; have ecqb5 := hSw.cell cqb5 id; have ecqb6 := hSw.cell cqb6 id; have ecqb7 := hSw.cell cqb7 id; have ecqb8 := hSw.cell cqb8 id; have ecqb9 := hSw.cell cqb9 id; have hfr := HFR.out; have hti := HTI.out; go_simp <;> with_reducible rfl)
    try simp only [Act.put, List.setIfInBounds_toArray, List.set_cons_zero, List.set_cons_succ]
    refine wpAnyH_take (i := 1) (oi := { dst := some 8, op := Go.Op.load 3 (Go.Operand.tmp 7), type := 3, pos := "frag.go:88", after := #[{ on := 0, ground := Go.Ground.data }], guard := none }) (v := ?v2) rfl (by kernel_rfl) (by kernel_rfl) (by kernel_rfl) (fun _ _ _ h => h) (Or.inl ⟨by rfl, ?hy2⟩) (by assumption) ?rest2
    case hy2 => (intro w hSw; (try dsimp only at hSw); have ecpb0 := hSw.cell cpb0 id; have ecpb1 := hSw.cell cpb1 id; have ecpb2 := hSw.cell cpb2 id; have ecpb3 := hSw.cell cpb3 id; have ecpb4 := hSw.cell cpb4 id; have ecpb5 := hSw.cell cpb5 id; have ecpb6 := hSw.cell cpb6 id; have ecpb7 := hSw.cell cpb7 id; have ecpb8 := hSw.cell cpb8 id; have ecpb9 := hSw.cell cpb9 id; have ecqb0 := hSw.cell cqb0 id; have ecqb1 := hSw.cell cqb1 id; have ecqb2 := hSw.cell cqb2 id; have ecqb3 := hSw.cell cqb3 id; have ecqb4 := hSw.cell cqb4 id; have ecqb5 := hSw.cell cqb5 id; have ecqb6 := hSw.cell cqb6 id; have ecqb7 := hSw.cell cqb7 id; have ecqb8 := hSw.cell cqb8 id; have ecqb9 := hSw.cell cqb9 id; have hfr := HFR.out; have hti := HTI.out; go_simp <;> with_reducible rfl)
    try simp only [Act.put, List.setIfInBounds_toArray, List.set_cons_zero, List.set_cons_succ]
    refine wpAnyH_take (i := 2) (oi := { dst := some 9, op := Go.Op.fieldAddr 27 (Go.Operand.tmp 3) 4, type := 0, pos := "frag.go:88", after := #[], guard := none }) (v := ?v3) rfl (by kernel_rfl) (by kernel_rfl) (by kernel_rfl) (fun _ _ _ h => h) (Or.inl ⟨by rfl, ?hy3⟩) (by assumption) ?rest3
    case hy3 => (intro w hSw; (try dsimp only at hSw); have ecpb0 := hSw.cell cpb0 id; have ecpb1 := hSw.cell cpb1 id; have ecpb2 := hSw.cell cpb2 id; have ecpb3 := hSw.cell cpb3 id; have ecpb4 := hSw.cell cpb4 id; have ecpb5 := hSw.cell cpb5 id; have ecpb6 := hSw.cell cpb6 id; have ecpb7 := hSw.cell cpb7 id; have ecpb8 := hSw.cell cpb8 id; have ecpb9 := hSw.cell cpb9 id; have ecqb0 := hSw.cell cqb0 id; have ecqb1 := hSw.cell cqb1 id; have ecqb2 := hSw.cell cqb2 id; have ecqb3 := hSw.cell cqb3 id; have ecqb4 := hSw.cell cqb4 id; have ecqb5 := hSw.cell cqb5 id; have ecqb6 := hSw.cell cqb6 id; have ecqb7 := hSw.cell cqb7 id; have ecqb8 := hSw.cell cqb8 id; have ecqb9 := hSw.cell cqb9 id; have hfr := HFR.out; have hti := HTI.out; go_simp <;> with_reducible rfl)
    try simp only [Act.put, List.setIfInBounds_toArray, List.set_cons_zero, List.set_cons_succ]
    refine wpAnyH_take (i := 3) (oi := { dst := some 10, op := Go.Op.load 3 (Go.Operand.tmp 9), type := 3, pos := "frag.go:88", after := #[{ on := 2, ground := Go.Ground.data }], guard := none }) (v := ?v4) rfl (by kernel_rfl) (by kernel_rfl) (by kernel_rfl) (fun _ _ _ h => h) (Or.inl ⟨by rfl, ?hy4⟩) (by assumption) ?rest4
    case hy4 => (intro w hSw; (try dsimp only at hSw); have ecpb0 := hSw.cell cpb0 id; have ecpb1 := hSw.cell cpb1 id; have ecpb2 := hSw.cell cpb2 id; have ecpb3 := hSw.cell cpb3 id; have ecpb4 := hSw.cell cpb4 id; have ecpb5 := hSw.cell cpb5 id; have ecpb6 := hSw.cell cpb6 id; have ecpb7 := hSw.cell cpb7 id; have ecpb8 := hSw.cell cpb8 id; have ecpb9 := hSw.cell cpb9 id; have ecqb0 := hSw.cell cqb0 id; have ecqb1 := hSw.cell cqb1 id; have ecqb2 := hSw.cell cqb2 id; have ecqb3 := hSw.cell cqb3 id; have ecqb4 := hSw.cell cqb4 id; have ecqb5 := hSw.cell cqb5 id; have ecqb6 := hSw.cell cqb6 id; have ecqb7 := hSw.cell cqb7 id; have ecqb8 := hSw.cell cqb8 id; have ecqb9 := hSw.cell cqb9 id; have hfr := HFR.out; have hti := HTI.out; go_simp <;> with_reducible rfl)
    try simp only [Act.put, List.setIfInBounds_toArray, List.set_cons_zero, List.set_cons_succ]
    refine wpAnyH_take (i := 4) (oi := { dst := some 11, op := Go.Op.call { callee := Go.Callee.builtin Go.Builtin.max, args := #[Go.Operand.tmp 8, Go.Operand.tmp 10], argTypes := #[3, 3] }, type := 3, pos := "frag.go:88", after := #[{ on := 1, ground := Go.Ground.data }, { on := 3, ground := Go.Ground.data }], guard := none }) (v := ?v5) rfl (by kernel_rfl) (by kernel_rfl) (by kernel_rfl) (fun _ _ _ h => h) (Or.inl ⟨by rfl, ?hy5⟩) (by assumption) ?rest5
    case hy5 => (intro w hSw; (try dsimp only at hSw); have ecpb0 := hSw.cell cpb0 id; have ecpb1 := hSw.cell cpb1 id; have ecpb2 := hSw.cell cpb2 id; have ecpb3 := hSw.cell cpb3 id; have ecpb4 := hSw.cell cpb4 id; have ecpb5 := hSw.cell cpb5 id; have ecpb6 := hSw.cell cpb6 id; have ecpb7 := hSw.cell cpb7 id; have ecpb8 := hSw.cell cpb8 id; have ecpb9 := hSw.cell cpb9 id; have ecqb0 := hSw.cell cqb0 id; have ecqb1 := hSw.cell cqb1 id; have ecqb2 := hSw.cell cqb2 id; have ecqb3 := hSw.cell cqb3 id; have ecqb4 := hSw.cell cqb4 id; have ecqb5 := hSw.cell cqb5 id; have ecqb6 := hSw.cell cqb6 id; have ecqb7 := hSw.cell cqb7 id; have ecqb8 := hSw.cell cqb8 id; have ecqb9 := hSw.cell cqb9 id; have hfr := HFR.out; have hti := HTI.out; go_simp <;> with_reducible rfl)
    try simp only [Act.put, List.setIfInBounds_toArray, List.set_cons_zero, List.set_cons_succ]
    refine wpAnyH_take (i := 5) (oi := { dst := some 12, op := Go.Op.load 27 (Go.Operand.tmp 2), type := 27, pos := "frag.go:88", after := #[], guard := none }) (v := ?v6) rfl (by kernel_rfl) (by kernel_rfl) (by kernel_rfl) (fun _ _ _ h => h) (Or.inl ⟨by rfl, ?hy6⟩) (by assumption) ?rest6
    case hy6 => (intro w hSw; (try dsimp only at hSw); have ecpb0 := hSw.cell cpb0 id; have ecpb1 := hSw.cell cpb1 id; have ecpb2 := hSw.cell cpb2 id; have ecpb3 := hSw.cell cpb3 id; have ecpb4 := hSw.cell cpb4 id; have ecpb5 := hSw.cell cpb5 id; have ecpb6 := hSw.cell cpb6 id; have ecpb7 := hSw.cell cpb7 id; have ecpb8 := hSw.cell cpb8 id; have ecpb9 := hSw.cell cpb9 id; have ecqb0 := hSw.cell cqb0 id; have ecqb1 := hSw.cell cqb1 id; have ecqb2 := hSw.cell cqb2 id; have ecqb3 := hSw.cell cqb3 id; have ecqb4 := hSw.cell cqb4 id; have ecqb5 := hSw.cell cqb5 id; have ecqb6 := hSw.cell cqb6 id; have ecqb7 := hSw.cell cqb7 id; have ecqb8 := hSw.cell cqb8 id; have ecqb9 := hSw.cell cqb9 id; have hfr := HFR.out; have hti := HTI.out; go_simp <;> with_reducible rfl)
    try simp only [Act.put, List.setIfInBounds_toArray, List.set_cons_zero, List.set_cons_succ]
    refine wpAnyH_take (i := 7) (oi := { dst := some 14, op := Go.Op.load 27 (Go.Operand.tmp 3), type := 27, pos := "frag.go:88", after := #[], guard := none }) (v := ?v7) rfl (by kernel_rfl) (by kernel_rfl) (by kernel_rfl) (fun _ _ _ h => h) (Or.inl ⟨by rfl, ?hy7⟩) (by assumption) ?rest7
    case hy7 => (intro w hSw; (try dsimp only at hSw); have ecpb0 := hSw.cell cpb0 id; have ecpb1 := hSw.cell cpb1 id; have ecpb2 := hSw.cell cpb2 id; have ecpb3 := hSw.cell cpb3 id; have ecpb4 := hSw.cell cpb4 id; have ecpb5 := hSw.cell cpb5 id; have ecpb6 := hSw.cell cpb6 id; have ecpb7 := hSw.cell cpb7 id; have ecpb8 := hSw.cell cpb8 id; have ecpb9 := hSw.cell cpb9 id; have ecqb0 := hSw.cell cqb0 id; have ecqb1 := hSw.cell cqb1 id; have ecqb2 := hSw.cell cqb2 id; have ecqb3 := hSw.cell cqb3 id; have ecqb4 := hSw.cell cqb4 id; have ecqb5 := hSw.cell cqb5 id; have ecqb6 := hSw.cell cqb6 id; have ecqb7 := hSw.cell cqb7 id; have ecqb8 := hSw.cell cqb8 id; have ecqb9 := hSw.cell cqb9 id; have hfr := HFR.out; have hti := HTI.out; go_simp <;> with_reducible rfl)
    try simp only [Act.put, List.setIfInBounds_toArray, List.set_cons_zero, List.set_cons_succ]
    refine wpAnyH_ready (rs := [6]) (by kernel_rfl) (by simp) ?_
    refine AllReadyH.cons (o := { dst := some 13, op := Go.Op.call { callee := Go.Callee.value (Go.Operand.func 40), args := #[Go.Operand.tmp 12], argTypes := #[27] }, type := 3, pos := "frag.go:88", after := #[{ on := 5, ground := Go.Ground.data }], guard := none }) rfl (fun K hK => ?_) AllReadyH.nil
    go_simp
    refine (H1.out _).mono ?_
    rintro e wn ⟨rfl, hx⟩
    have hS1 : Ex (fun _ => False) w2 wn := Ex.trans (by assumption) hx
    clear hx
    refine hK.out _ _ hS1 (fun _ => ?_)
    refine wpAnyH_ready (rs := [8]) (by kernel_rfl) (by simp) ?_
    refine AllReadyH.cons (o := { dst := some 15, op := Go.Op.call { callee := Go.Callee.value (Go.Operand.func 40), args := #[Go.Operand.tmp 14], argTypes := #[27] }, type := 3, pos := "frag.go:88", after := #[{ on := 7, ground := Go.Ground.data }, { on := 6, ground := Go.Ground.chain }], guard := none }) rfl (fun K hK => ?_) AllReadyH.nil
    go_simp
    refine (H2.out _).mono ?_
    rintro e wn ⟨rfl, hx⟩
    have hS1 : Ex (fun _ => False) w2 wn := Ex.trans (by assumption) hx
    clear hx
    refine hK.out _ _ hS1 (fun _ => ?_)
    refine wpAnyH_take (i := 9) (oi := { dst := some 16, op := Go.Op.call { callee := Go.Callee.builtin Go.Builtin.min, args := #[Go.Operand.tmp 13, Go.Operand.tmp 15], argTypes := #[3, 3] }, type := 3, pos := "frag.go:88", after := #[{ on := 6, ground := Go.Ground.data }, { on := 8, ground := Go.Ground.data }], guard := none }) (v := ?v8) rfl (by kernel_rfl) (by kernel_rfl) (by kernel_rfl) (fun _ _ _ h => h) (Or.inl ⟨by rfl, ?hy8⟩) (by assumption) ?rest8
    case hy8 => (intro w hSw; (try dsimp only at hSw); have ecpb0 := hSw.cell cpb0 id; have ecpb1 := hSw.cell cpb1 id; have ecpb2 := hSw.cell cpb2 id; have ecpb3 := hSw.cell cpb3 id; have ecpb4 := hSw.cell cpb4 id; have ecpb5 := hSw.cell cpb5 id; have ecpb6 := hSw.cell cpb6 id; have ecpb7 := hSw.cell cpb7 id; have ecpb8 := hSw.cell cpb8 id; have ecpb9 := hSw.cell cpb9 id; have ecqb0 := hSw.cell cqb0 id; have ecqb1 := hSw.cell cqb1 id; have ecqb2 := hSw.cell cqb2 id; have ecqb3 := hSw.cell cqb3 id; have ecqb4 := hSw.cell cqb4 id; have ecqb5 := hSw.cell cqb5 id; have ecqb6 := hSw.cell cqb6 id; have ecqb7 := hSw.cell cqb7 id; have ecqb8 := hSw.cell cqb8 id; have ecqb9 := hSw.cell cqb9 id; have hfr := HFR.out; have hti := HTI.out; go_simp <;> with_reducible rfl)
    try simp only [Act.put, List.setIfInBounds_toArray, List.set_cons_zero, List.set_cons_succ]
    refine wpAnyH_take (i := 10) (oi := { dst := some 5, op := Go.Op.assign (Go.Operand.tmp 11), type := 3, pos := "frag.go:88", after := #[{ on := 4, ground := Go.Ground.data }, { on := 8, ground := Go.Ground.chain }, { on := 0, ground := Go.Ground.phase }, { on := 1, ground := Go.Ground.phase }, { on := 2, ground := Go.Ground.phase }, { on := 3, ground := Go.Ground.phase }, { on := 4, ground := Go.Ground.phase }, { on := 5, ground := Go.Ground.textOnly Go.Departure.lateStores }, { on := 6, ground := Go.Ground.textOnly Go.Departure.lateStoresUnsure }, { on := 7, ground := Go.Ground.textOnly Go.Departure.lateStores }, { on := 8, ground := Go.Ground.textOnly Go.Departure.lateStoresUnsure }, { on := 9, ground := Go.Ground.textOnly Go.Departure.lateStoresUnsure }], guard := none }) (v := ?v9) rfl (by kernel_rfl) (by kernel_rfl) (by kernel_rfl) (fun _ _ _ h => h) (Or.inl ⟨by rfl, ?hy9⟩) (by assumption) ?rest9
    case hy9 => (intro w hSw; (try dsimp only at hSw); have ecpb0 := hSw.cell cpb0 id; have ecpb1 := hSw.cell cpb1 id; have ecpb2 := hSw.cell cpb2 id; have ecpb3 := hSw.cell cpb3 id; have ecpb4 := hSw.cell cpb4 id; have ecpb5 := hSw.cell cpb5 id; have ecpb6 := hSw.cell cpb6 id; have ecpb7 := hSw.cell cpb7 id; have ecpb8 := hSw.cell cpb8 id; have ecpb9 := hSw.cell cpb9 id; have ecqb0 := hSw.cell cqb0 id; have ecqb1 := hSw.cell cqb1 id; have ecqb2 := hSw.cell cqb2 id; have ecqb3 := hSw.cell cqb3 id; have ecqb4 := hSw.cell cqb4 id; have ecqb5 := hSw.cell cqb5 id; have ecqb6 := hSw.cell cqb6 id; have ecqb7 := hSw.cell cqb7 id; have ecqb8 := hSw.cell cqb8 id; have ecqb9 := hSw.cell cqb9 id; have hfr := HFR.out; have hti := HTI.out; go_simp <;> with_reducible rfl)
    try simp only [Act.put, List.setIfInBounds_toArray, List.set_cons_zero, List.set_cons_succ]
    refine wpAnyH_take (i := 11) (oi := { dst := some 6, op := Go.Op.assign (Go.Operand.tmp 16), type := 3, pos := "frag.go:88", after := #[{ on := 9, ground := Go.Ground.data }, { on := 10, ground := Go.Ground.chain }, { on := 0, ground := Go.Ground.phase }, { on := 1, ground := Go.Ground.phase }, { on := 2, ground := Go.Ground.phase }, { on := 3, ground := Go.Ground.phase }, { on := 4, ground := Go.Ground.phase }, { on := 5, ground := Go.Ground.phase }, { on := 6, ground := Go.Ground.phase }, { on := 7, ground := Go.Ground.phase }, { on := 8, ground := Go.Ground.phase }, { on := 9, ground := Go.Ground.phase }, { on := 10, ground := Go.Ground.phase }], guard := none }) (v := ?v10) rfl (by kernel_rfl) (by kernel_rfl) (by kernel_rfl) (fun _ _ _ h => h) (Or.inl ⟨by rfl, ?hy10⟩) (by assumption) ?rest10
    case hy10 => (intro w hSw; (try dsimp only at hSw); have ecpb0 := hSw.cell cpb0 id; have ecpb1 := hSw.cell cpb1 id; have ecpb2 := hSw.cell cpb2 id; have ecpb3 := hSw.cell cpb3 id; have ecpb4 := hSw.cell cpb4 id; have ecpb5 := hSw.cell cpb5 id; have ecpb6 := hSw.cell cpb6 id; have ecpb7 := hSw.cell cpb7 id; have ecpb8 := hSw.cell cpb8 id; have ecpb9 := hSw.cell cpb9 id; have ecqb0 := hSw.cell cqb0 id; have ecqb1 := hSw.cell cqb1 id; have ecqb2 := hSw.cell cqb2 id; have ecqb3 := hSw.cell cqb3 id; have ecqb4 := hSw.cell cqb4 id; have ecqb5 := hSw.cell cqb5 id; have ecqb6 := hSw.cell cqb6 id; have ecqb7 := hSw.cell cqb7 id; have ecqb8 := hSw.cell cqb8 id; have ecqb9 := hSw.cell cqb9 id; have hfr := HFR.out; have hti := HTI.out; go_simp <;> with_reducible rfl)
    try simp only [Act.put, List.setIfInBounds_toArray, List.set_cons_zero, List.set_cons_succ]
    refine wpAnyH_done (by kernel_rfl) ?_ _
    go_wp2_with fail
    go_meet
    exact ⟨rfl, rfl, Lib.hid hS1⟩
  case rest =>
    obtain ⟨rfl, rfl, hx⟩ := hcut
    have hx := hx.out
    clear cpb0 cpb1 cpb2 cpb3 cpb4 cpb5 cpb6 cpb7 cpb8 cpb9 cqb0 cqb1 cqb2 cqb3 cqb4 cqb5 cqb6 cqb7 cqb8 cqb9
    have HX_wc := Lib.hid hx
    clear hx
    replace B_pb := Lib.hid ((HX_wc.out.block pb (row_lt B_pb.out) id).trans B_pb.out)
    replace B_qb := Lib.hid ((HX_wc.out.block qb (row_lt B_qb.out) id).trans B_qb.out)
    have cpb0 := row_cell (k := 0) (v := .int .u8 xtos) B_pb.out rfl
    have cpb1 := row_cell (k := 1) (v := .int .u16 xid) B_pb.out rfl
    have cpb2 := row_cell (k := 2) (v := .bool xdf) B_pb.out rfl
    have cpb3 := row_cell (k := 3) (v := .bool xmf) B_pb.out rfl
    have cpb4 := row_cell (k := 4) (v := .int .i64 xoff) B_pb.out rfl
    have cpb5 := row_cell (k := 5) (v := .int .u8 xttl) B_pb.out rfl
    have cpb6 := row_cell (k := 6) (v := .int .u8 xpr) B_pb.out rfl
    have cpb7 := row_cell (k := 7) (v := .int .u32 xsrc) B_pb.out rfl
    have cpb8 := row_cell (k := 8) (v := .int .u32 xdst) B_pb.out rfl
    have cpb9 := row_cell (k := 9) (v := .slice A xb.length c) B_pb.out rfl
    have cqb0 := row_cell (k := 0) (v := .int .u8 ytos) B_qb.out rfl
    have cqb1 := row_cell (k := 1) (v := .int .u16 yid) B_qb.out rfl
    have cqb2 := row_cell (k := 2) (v := .bool ydf) B_qb.out rfl
    have cqb3 := row_cell (k := 3) (v := .bool ymf) B_qb.out rfl
    have cqb4 := row_cell (k := 4) (v := .int .i64 yoff) B_qb.out rfl
    have cqb5 := row_cell (k := 5) (v := .int .u8 yttl) B_qb.out rfl
    have cqb6 := row_cell (k := 6) (v := .int .u8 ypr) B_qb.out rfl
    have cqb7 := row_cell (k := 7) (v := .int .u32 ysrc) B_qb.out rfl
    have cqb8 := row_cell (k := 8) (v := .int .u32 ydst) B_qb.out rfl
    have cqb9 := row_cell (k := 9) (v := .slice B yb.length d) B_qb.out rfl
    have hS0 : Ex (fun _ => False) wc wc.drew := (Ex.refl _ wc).drew
    go_upto_region 2 with fail
    have hlt : decide (fr < ti) = false := decide_eq_false HLT.out
    refine wp_region_held_drew (S := fun W => Ex (fun _ => False) wc W) (by kernel_rfl) hS0 (fun _ => ?_)
    refine wpAnyH_take (i := 0) (oi := { dst := some 17, op := Go.Op.move (Go.Operand.tmp 5), type := 3, pos := "frag.go:89", after := #[], guard := none }) (v := ?v11) rfl (by kernel_rfl) (by kernel_rfl) (by kernel_rfl) (fun _ _ _ h => h) (Or.inl ⟨by rfl, ?hy11⟩) (by assumption) ?rest11
    case hy11 => (intro w hSw; (try dsimp only at hSw); have ecpb0 := hSw.cell cpb0 id; have ecpb1 := hSw.cell cpb1 id; have ecpb2 := hSw.cell cpb2 id; have ecpb3 := hSw.cell cpb3 id; have ecpb4 := hSw.cell cpb4 id; have ecpb5 := hSw.cell cpb5 id; have ecpb6 := hSw.cell cpb6 id; have ecpb7 := hSw.cell cpb7 id; have ecpb8 := hSw.cell cpb8 id; have ecpb9 := hSw.cell cpb9 id; have ecqb0 := hSw.cell cqb0 id; have ecqb1 := hSw.cell cqb1 id; have ecqb2 := hSw.cell cqb2 id; have ecqb3 := hSw.cell cqb3 id; have ecqb4 := hSw.cell cqb4 id; have ecqb5 := hSw.cell cqb5 id; have ecqb6 := hSw.cell cqb6 id; have ecqb7 := hSw.cell cqb7 id; have ecqb8 := hSw.cell cqb8 id; have ecqb9 := hSw.cell cqb9 id; go_simp <;> with_reducible rfl)
    try simp only [Act.put, List.setIfInBounds_toArray, List.set_cons_zero, List.set_cons_succ]
    refine wpAnyH_take (i := 1) (oi := { dst := some 18, op := Go.Op.move (Go.Operand.tmp 6), type := 3, pos := "frag.go:89", after := #[], guard := none }) (v := ?v12) rfl (by kernel_rfl) (by kernel_rfl) (by kernel_rfl) (fun _ _ _ h => h) (Or.inl ⟨by rfl, ?hy12⟩) (by assumption) ?rest12
    case hy12 => (intro w hSw; (try dsimp only at hSw); have ecpb0 := hSw.cell cpb0 id; have ecpb1 := hSw.cell cpb1 id; have ecpb2 := hSw.cell cpb2 id; have ecpb3 := hSw.cell cpb3 id; have ecpb4 := hSw.cell cpb4 id; have ecpb5 := hSw.cell cpb5 id; have ecpb6 := hSw.cell cpb6 id; have ecpb7 := hSw.cell cpb7 id; have ecpb8 := hSw.cell cpb8 id; have ecpb9 := hSw.cell cpb9 id; have ecqb0 := hSw.cell cqb0 id; have ecqb1 := hSw.cell cqb1 id; have ecqb2 := hSw.cell cqb2 id; have ecqb3 := hSw.cell cqb3 id; have ecqb4 := hSw.cell cqb4 id; have ecqb5 := hSw.cell cqb5 id; have ecqb6 := hSw.cell cqb6 id; have ecqb7 := hSw.cell cqb7 id; have ecqb8 := hSw.cell cqb8 id; have ecqb9 := hSw.cell cqb9 id; go_simp <;> with_reducible rfl)
    try simp only [Act.put, List.setIfInBounds_toArray, List.set_cons_zero, List.set_cons_succ]
    refine wpAnyH_take (i := 2) (oi := { dst := some 19, op := Go.Op.binOp Go.BinOp.lss 3 (Go.Operand.tmp 17) (Go.Operand.tmp 18) 3, type := 4, pos := "frag.go:89", after := #[{ on := 0, ground := Go.Ground.data }, { on := 1, ground := Go.Ground.data }], guard := none }) (v := ?v13) rfl (by kernel_rfl) (by kernel_rfl) (by kernel_rfl) (fun _ _ _ h => h) (Or.inl ⟨by rfl, ?hy13⟩) (by assumption) ?rest13
    case hy13 => (intro w hSw; (try dsimp only at hSw); have ecpb0 := hSw.cell cpb0 id; have ecpb1 := hSw.cell cpb1 id; have ecpb2 := hSw.cell cpb2 id; have ecpb3 := hSw.cell cpb3 id; have ecpb4 := hSw.cell cpb4 id; have ecpb5 := hSw.cell cpb5 id; have ecpb6 := hSw.cell cpb6 id; have ecpb7 := hSw.cell cpb7 id; have ecpb8 := hSw.cell cpb8 id; have ecpb9 := hSw.cell cpb9 id; have ecqb0 := hSw.cell cqb0 id; have ecqb1 := hSw.cell cqb1 id; have ecqb2 := hSw.cell cqb2 id; have ecqb3 := hSw.cell cqb3 id; have ecqb4 := hSw.cell cqb4 id; have ecqb5 := hSw.cell cqb5 id; have ecqb6 := hSw.cell cqb6 id; have ecqb7 := hSw.cell cqb7 id; have ecqb8 := hSw.cell cqb8 id; have ecqb9 := hSw.cell cqb9 id; go_simp <;> with_reducible rfl)
    try simp only [Act.put, List.setIfInBounds_toArray, List.set_cons_zero, List.set_cons_succ]
    refine wpAnyH_take (i := 3) (oi := { dst := some 20, op := Go.Op.move (Go.Operand.tmp 19), type := 4, pos := "frag.go:89", after := #[{ on := 2, ground := Go.Ground.data }], guard := none }) (v := ?v14) rfl (by kernel_rfl) (by kernel_rfl) (by kernel_rfl) (fun _ _ _ h => h) (Or.inl ⟨by rfl, ?hy14⟩) (by assumption) ?rest14
    case hy14 => (intro w hSw; (try dsimp only at hSw); have ecpb0 := hSw.cell cpb0 id; have ecpb1 := hSw.cell cpb1 id; have ecpb2 := hSw.cell cpb2 id; have ecpb3 := hSw.cell cpb3 id; have ecpb4 := hSw.cell cpb4 id; have ecpb5 := hSw.cell cpb5 id; have ecpb6 := hSw.cell cpb6 id; have ecpb7 := hSw.cell cpb7 id; have ecpb8 := hSw.cell cpb8 id; have ecpb9 := hSw.cell cpb9 id; have ecqb0 := hSw.cell cqb0 id; have ecqb1 := hSw.cell cqb1 id; have ecqb2 := hSw.cell cqb2 id; have ecqb3 := hSw.cell cqb3 id; have ecqb4 := hSw.cell cqb4 id; have ecqb5 := hSw.cell cqb5 id; have ecqb6 := hSw.cell cqb6 id; have ecqb7 := hSw.cell cqb7 id; have ecqb8 := hSw.cell cqb8 id; have ecqb9 := hSw.cell cqb9 id; go_simp <;> with_reducible rfl)
    try simp only [Act.put, List.setIfInBounds_toArray, List.set_cons_zero, List.set_cons_succ]
    refine wpAnyH_take (i := 4) (oi := { dst := some 21, op := Go.Op.fieldAddr 27 (Go.Operand.tmp 2) 9, type := 0, pos := "frag.go:89", after := #[{ on := 3, ground := Go.Ground.guard }], guard := some (3, true) }) (v := undef) rfl (by kernel_rfl) (by kernel_rfl) (by kernel_rfl) (fun _ _ _ h => h) (Or.inr ⟨by rfl, rfl⟩) (by assumption) ?rest15
    try simp only [Act.put, List.setIfInBounds_toArray, List.set_cons_zero, List.set_cons_succ]
    refine wpAnyH_take (i := 5) (oi := { dst := some 22, op := Go.Op.load 25 (Go.Operand.tmp 21), type := 25, pos := "frag.go:89", after := #[{ on := 4, ground := Go.Ground.data }, { on := 3, ground := Go.Ground.guard }], guard := some (3, true) }) (v := undef) rfl (by kernel_rfl) (by kernel_rfl) (by kernel_rfl) (fun _ _ _ h => h) (Or.inr ⟨by rfl, rfl⟩) (by assumption) ?rest16
    try simp only [Act.put, List.setIfInBounds_toArray, List.set_cons_zero, List.set_cons_succ]
    refine wpAnyH_take (i := 6) (oi := { dst := some 23, op := Go.Op.move (Go.Operand.tmp 5), type := 3, pos := "frag.go:89", after := #[{ on := 3, ground := Go.Ground.guard }], guard := some (3, true) }) (v := undef) rfl (by kernel_rfl) (by kernel_rfl) (by kernel_rfl) (fun _ _ _ h => h) (Or.inr ⟨by rfl, rfl⟩) (by assumption) ?rest17
    try simp only [Act.put, List.setIfInBounds_toArray, List.set_cons_zero, List.set_cons_succ]
    refine wpAnyH_take (i := 7) (oi := { dst := some 24, op := Go.Op.fieldAddr 27 (Go.Operand.tmp 2) 4, type := 0, pos := "frag.go:89", after := #[{ on := 3, ground := Go.Ground.guard }], guard := some (3, true) }) (v := undef) rfl (by kernel_rfl) (by kernel_rfl) (by kernel_rfl) (fun _ _ _ h => h) (Or.inr ⟨by rfl, rfl⟩) (by assumption) ?rest18
    try simp only [Act.put, List.setIfInBounds_toArray, List.set_cons_zero, List.set_cons_succ]
    refine wpAnyH_take (i := 8) (oi := { dst := some 25, op := Go.Op.load 3 (Go.Operand.tmp 24), type := 3, pos := "frag.go:89", after := #[{ on := 7, ground := Go.Ground.data }, { on := 3, ground := Go.Ground.guard }], guard := some (3, true) }) (v := undef) rfl (by kernel_rfl) (by kernel_rfl) (by kernel_rfl) (fun _ _ _ h => h) (Or.inr ⟨by rfl, rfl⟩) (by assumption) ?rest19
    try simp only [Act.put, List.setIfInBounds_toArray, List.set_cons_zero, List.set_cons_succ]
    refine wpAnyH_take (i := 9) (oi := { dst := some 26, op := Go.Op.binOp Go.BinOp.sub 3 (Go.Operand.tmp 23) (Go.Operand.tmp 25) 3, type := 3, pos := "frag.go:89", after := #[{ on := 6, ground := Go.Ground.data }, { on := 8, ground := Go.Ground.data }, { on := 3, ground := Go.Ground.guard }], guard := some (3, true) }) (v := undef) rfl (by kernel_rfl) (by kernel_rfl) (by kernel_rfl) (fun _ _ _ h => h) (Or.inr ⟨by rfl, rfl⟩) (by assumption) ?rest20
    try simp only [Act.put, List.setIfInBounds_toArray, List.set_cons_zero, List.set_cons_succ]
    refine wpAnyH_take (i := 10) (oi := { dst := some 27, op := Go.Op.move (Go.Operand.tmp 6), type := 3, pos := "frag.go:89", after := #[{ on := 3, ground := Go.Ground.guard }], guard := some (3, true) }) (v := undef) rfl (by kernel_rfl) (by kernel_rfl) (by kernel_rfl) (fun _ _ _ h => h) (Or.inr ⟨by rfl, rfl⟩) (by assumption) ?rest21
    try simp only [Act.put, List.setIfInBounds_toArray, List.set_cons_zero, List.set_cons_succ]
    refine wpAnyH_take (i := 11) (oi := { dst := some 28, op := Go.Op.fieldAddr 27 (Go.Operand.tmp 2) 4, type := 0, pos := "frag.go:89", after := #[{ on := 3, ground := Go.Ground.guard }], guard := some (3, true) }) (v := undef) rfl (by kernel_rfl) (by kernel_rfl) (by kernel_rfl) (fun _ _ _ h => h) (Or.inr ⟨by rfl, rfl⟩) (by assumption) ?rest22
    try simp only [Act.put, List.setIfInBounds_toArray, List.set_cons_zero, List.set_cons_succ]
    refine wpAnyH_take (i := 12) (oi := { dst := some 29, op := Go.Op.load 3 (Go.Operand.tmp 28), type := 3, pos := "frag.go:89", after := #[{ on := 11, ground := Go.Ground.data }, { on := 3, ground := Go.Ground.guard }], guard := some (3, true) }) (v := undef) rfl (by kernel_rfl) (by kernel_rfl) (by kernel_rfl) (fun _ _ _ h => h) (Or.inr ⟨by rfl, rfl⟩) (by assumption) ?rest23
    try simp only [Act.put, List.setIfInBounds_toArray, List.set_cons_zero, List.set_cons_succ]
    refine wpAnyH_take (i := 13) (oi := { dst := some 30, op := Go.Op.binOp Go.BinOp.sub 3 (Go.Operand.tmp 27) (Go.Operand.tmp 29) 3, type := 3, pos := "frag.go:89", after := #[{ on := 10, ground := Go.Ground.data }, { on := 12, ground := Go.Ground.data }, { on := 3, ground := Go.Ground.guard }], guard := some (3, true) }) (v := undef) rfl (by kernel_rfl) (by kernel_rfl) (by kernel_rfl) (fun _ _ _ h => h) (Or.inr ⟨by rfl, rfl⟩) (by assumption) ?rest24
    try simp only [Act.put, List.setIfInBounds_toArray, List.set_cons_zero, List.set_cons_succ]
    refine wpAnyH_take (i := 14) (oi := { dst := some 31, op := Go.Op.slice 25 (Go.Operand.tmp 22) (some (Go.Operand.tmp 26)) (some (Go.Operand.tmp 30)) none, type := 25, pos := "frag.go:89", after := #[{ on := 5, ground := Go.Ground.data }, { on := 9, ground := Go.Ground.data }, { on := 13, ground := Go.Ground.data }, { on := 3, ground := Go.Ground.guard }], guard := some (3, true) }) (v := undef) rfl (by kernel_rfl) (by kernel_rfl) (by kernel_rfl) (fun _ _ _ h => h) (Or.inr ⟨by rfl, rfl⟩) (by assumption) ?rest25
    try simp only [Act.put, List.setIfInBounds_toArray, List.set_cons_zero, List.set_cons_succ]
    refine wpAnyH_take (i := 15) (oi := { dst := some 32, op := Go.Op.fieldAddr 27 (Go.Operand.tmp 3) 9, type := 0, pos := "frag.go:89", after := #[{ on := 3, ground := Go.Ground.guard }], guard := some (3, true) }) (v := undef) rfl (by kernel_rfl) (by kernel_rfl) (by kernel_rfl) (fun _ _ _ h => h) (Or.inr ⟨by rfl, rfl⟩) (by assumption) ?rest26
    try simp only [Act.put, List.setIfInBounds_toArray, List.set_cons_zero, List.set_cons_succ]
    refine wpAnyH_take (i := 16) (oi := { dst := some 33, op := Go.Op.load 25 (Go.Operand.tmp 32), type := 25, pos := "frag.go:89", after := #[{ on := 15, ground := Go.Ground.data }, { on := 3, ground := Go.Ground.guard }], guard := some (3, true) }) (v := undef) rfl (by kernel_rfl) (by kernel_rfl) (by kernel_rfl) (fun _ _ _ h => h) (Or.inr ⟨by rfl, rfl⟩) (by assumption) ?rest27
    try simp only [Act.put, List.setIfInBounds_toArray, List.set_cons_zero, List.set_cons_succ]
    refine wpAnyH_take (i := 17) (oi := { dst := some 34, op := Go.Op.move (Go.Operand.tmp 5), type := 3, pos := "frag.go:89", after := #[{ on := 3, ground := Go.Ground.guard }], guard := some (3, true) }) (v := undef) rfl (by kernel_rfl) (by kernel_rfl) (by kernel_rfl) (fun _ _ _ h => h) (Or.inr ⟨by rfl, rfl⟩) (by assumption) ?rest28
    try simp only [Act.put, List.setIfInBounds_toArray, List.set_cons_zero, List.set_cons_succ]
    refine wpAnyH_take (i := 18) (oi := { dst := some 35, op := Go.Op.fieldAddr 27 (Go.Operand.tmp 3) 4, type := 0, pos := "frag.go:89", after := #[{ on := 3, ground := Go.Ground.guard }], guard := some (3, true) }) (v := undef) rfl (by kernel_rfl) (by kernel_rfl) (by kernel_rfl) (fun _ _ _ h => h) (Or.inr ⟨by rfl, rfl⟩) (by assumption) ?rest29
    try simp only [Act.put, List.setIfInBounds_toArray, List.set_cons_zero, List.set_cons_succ]
    refine wpAnyH_take (i := 19) (oi := { dst := some 36, op := Go.Op.load 3 (Go.Operand.tmp 35), type := 3, pos := "frag.go:89", after := #[{ on := 18, ground := Go.Ground.data }, { on := 3, ground := Go.Ground.guard }], guard := some (3, true) }) (v := undef) rfl (by kernel_rfl) (by kernel_rfl) (by kernel_rfl) (fun _ _ _ h => h) (Or.inr ⟨by rfl, rfl⟩) (by assumption) ?rest30
    try simp only [Act.put, List.setIfInBounds_toArray, List.set_cons_zero, List.set_cons_succ]
    refine wpAnyH_take (i := 20) (oi := { dst := some 37, op := Go.Op.binOp Go.BinOp.sub 3 (Go.Operand.tmp 34) (Go.Operand.tmp 36) 3, type := 3, pos := "frag.go:89", after := #[{ on := 17, ground := Go.Ground.data }, { on := 19, ground := Go.Ground.data }, { on := 3, ground := Go.Ground.guard }], guard := some (3, true) }) (v := undef) rfl (by kernel_rfl) (by kernel_rfl) (by kernel_rfl) (fun _ _ _ h => h) (Or.inr ⟨by rfl, rfl⟩) (by assumption) ?rest31
    try simp only [Act.put, List.setIfInBounds_toArray, List.set_cons_zero, List.set_cons_succ]
    refine wpAnyH_take (i := 21) (oi := { dst := some 38, op := Go.Op.move (Go.Operand.tmp 6), type := 3, pos := "frag.go:89", after := #[{ on := 3, ground := Go.Ground.guard }], guard := some (3, true) }) (v := undef) rfl (by kernel_rfl) (by kernel_rfl) (by kernel_rfl) (fun _ _ _ h => h) (Or.inr ⟨by rfl, rfl⟩) (by assumption) ?rest32
    try simp only [Act.put, List.setIfInBounds_toArray, List.set_cons_zero, List.set_cons_succ]
    refine wpAnyH_take (i := 22) (oi := { dst := some 39, op := Go.Op.fieldAddr 27 (Go.Operand.tmp 3) 4, type := 0, pos := "frag.go:89", after := #[{ on := 3, ground := Go.Ground.guard }], guard := some (3, true) }) (v := undef) rfl (by kernel_rfl) (by kernel_rfl) (by kernel_rfl) (fun _ _ _ h => h) (Or.inr ⟨by rfl, rfl⟩) (by assumption) ?rest33
    try simp only [Act.put, List.setIfInBounds_toArray, List.set_cons_zero, List.set_cons_succ]
    refine wpAnyH_take (i := 23) (oi := { dst := some 40, op := Go.Op.load 3 (Go.Operand.tmp 39), type := 3, pos := "frag.go:89", after := #[{ on := 22, ground := Go.Ground.data }, { on := 3, ground := Go.Ground.guard }], guard := some (3, true) }) (v := undef) rfl (by kernel_rfl) (by kernel_rfl) (by kernel_rfl) (fun _ _ _ h => h) (Or.inr ⟨by rfl, rfl⟩) (by assumption) ?rest34
    try simp only [Act.put, List.setIfInBounds_toArray, List.set_cons_zero, List.set_cons_succ]
    refine wpAnyH_take (i := 24) (oi := { dst := some 41, op := Go.Op.binOp Go.BinOp.sub 3 (Go.Operand.tmp 38) (Go.Operand.tmp 40) 3, type := 3, pos := "frag.go:89", after := #[{ on := 21, ground := Go.Ground.data }, { on := 23, ground := Go.Ground.data }, { on := 3, ground := Go.Ground.guard }], guard := some (3, true) }) (v := undef) rfl (by kernel_rfl) (by kernel_rfl) (by kernel_rfl) (fun _ _ _ h => h) (Or.inr ⟨by rfl, rfl⟩) (by assumption) ?rest35
    try simp only [Act.put, List.setIfInBounds_toArray, List.set_cons_zero, List.set_cons_succ]
    refine wpAnyH_take (i := 25) (oi := { dst := some 42, op := Go.Op.slice 25 (Go.Operand.tmp 33) (some (Go.Operand.tmp 37)) (some (Go.Operand.tmp 41)) none, type := 25, pos := "frag.go:89", after := #[{ on := 16, ground := Go.Ground.data }, { on := 20, ground := Go.Ground.data }, { on := 24, ground := Go.Ground.data }, { on := 3, ground := Go.Ground.guard }], guard := some (3, true) }) (v := undef) rfl (by kernel_rfl) (by kernel_rfl) (by kernel_rfl) (fun _ _ _ h => h) (Or.inr ⟨by rfl, rfl⟩) (by assumption) ?rest36
    try simp only [Act.put, List.setIfInBounds_toArray, List.set_cons_zero, List.set_cons_succ]
    refine wpAnyH_take (i := 26) (oi := { dst := some 43, op := Go.Op.call { callee := Go.Callee.value (Go.Operand.func 41), args := #[Go.Operand.tmp 31, Go.Operand.tmp 42], argTypes := #[25, 25] }, type := 4, pos := "frag.go:89", after := #[{ on := 14, ground := Go.Ground.data }, { on := 25, ground := Go.Ground.data }, { on := 3, ground := Go.Ground.chain }, { on := 3, ground := Go.Ground.guard }], guard := some (3, true) }) (v := undef) rfl (by kernel_rfl) (by kernel_rfl) (by kernel_rfl) (fun _ _ _ h => h) (Or.inr ⟨by rfl, rfl⟩) (by assumption) ?rest37
    try simp only [Act.put, List.setIfInBounds_toArray, List.set_cons_zero, List.set_cons_succ]
    refine wpAnyH_take (i := 27) (oi := { dst := some 44, op := Go.Op.unOp Go.UnOp.not 4 (Go.Operand.tmp 43), type := 4, pos := "frag.go:89", after := #[{ on := 26, ground := Go.Ground.data }, { on := 3, ground := Go.Ground.guard }], guard := some (3, true) }) (v := undef) rfl (by kernel_rfl) (by kernel_rfl) (by kernel_rfl) (fun _ _ _ h => h) (Or.inr ⟨by rfl, rfl⟩) (by assumption) ?rest38
    try simp only [Act.put, List.setIfInBounds_toArray, List.set_cons_zero, List.set_cons_succ]
    refine wpAnyH_take (i := 28) (oi := { dst := some 45, op := Go.Op.pick (Go.Operand.tmp 20) (Go.Operand.tmp 44) (Go.Operand.const (Go.Value.bool false)), type := 4, pos := "frag.go:89", after := #[{ on := 3, ground := Go.Ground.data }, { on := 27, ground := Go.Ground.data }], guard := none }) (v := ?v39) rfl (by kernel_rfl) (by kernel_rfl) (by kernel_rfl) (fun _ _ _ h => h) (Or.inl ⟨by rfl, ?hy39⟩) (by assumption) ?rest39
    case hy39 => (intro w hSw; (try dsimp only at hSw); have ecpb0 := hSw.cell cpb0 id; have ecpb1 := hSw.cell cpb1 id; have ecpb2 := hSw.cell cpb2 id; have ecpb3 := hSw.cell cpb3 id; have ecpb4 := hSw.cell cpb4 id; have ecpb5 := hSw.cell cpb5 id; have ecpb6 := hSw.cell cpb6 id; have ecpb7 := hSw.cell cpb7 id; have ecpb8 := hSw.cell cpb8 id; have ecpb9 := hSw.cell cpb9 id; have ecqb0 := hSw.cell cqb0 id; have ecqb1 := hSw.cell cqb1 id; have ecqb2 := hSw.cell cqb2 id; have ecqb3 := hSw.cell cqb3 id; have ecqb4 := hSw.cell cqb4 id; have ecqb5 := hSw.cell cqb5 id; have ecqb6 := hSw.cell cqb6 id; have ecqb7 := hSw.cell cqb7 id; have ecqb8 := hSw.cell cqb8 id; have ecqb9 := hSw.cell cqb9 id; go_simp <;> with_reducible rfl)
    try simp only [Act.put, List.setIfInBounds_toArray, List.set_cons_zero, List.set_cons_succ]
    refine wpAnyH_done (by kernel_rfl) ?_ _
    clear cpb0 cpb1 cpb2 cpb3 cpb4 cpb5 cpb6 cpb7 cpb8 cpb9 cqb0 cqb1 cqb2 cqb3 cqb4 cqb5 cqb6 cqb7 cqb8 cqb9 hlt
    generalize wc.drew = wd at hS0 ⊢
    have hx := hS0
    clear hS0
    have HX_wd := Lib.hid hx
    clear hx
    replace B_pb := Lib.hid ((HX_wd.out.block pb (row_lt B_pb.out) id).trans B_pb.out)
    replace B_qb := Lib.hid ((HX_wd.out.block qb (row_lt B_qb.out) id).trans B_qb.out)
    have cpb0 := row_cell (k := 0) (v := .int .u8 xtos) B_pb.out rfl
    have cpb1 := row_cell (k := 1) (v := .int .u16 xid) B_pb.out rfl
    have cpb2 := row_cell (k := 2) (v := .bool xdf) B_pb.out rfl
    have cpb3 := row_cell (k := 3) (v := .bool xmf) B_pb.out rfl
    have cpb4 := row_cell (k := 4) (v := .int .i64 xoff) B_pb.out rfl
    have cpb5 := row_cell (k := 5) (v := .int .u8 xttl) B_pb.out rfl
    have cpb6 := row_cell (k := 6) (v := .int .u8 xpr) B_pb.out rfl
    have cpb7 := row_cell (k := 7) (v := .int .u32 xsrc) B_pb.out rfl
    have cpb8 := row_cell (k := 8) (v := .int .u32 xdst) B_pb.out rfl
    have cpb9 := row_cell (k := 9) (v := .slice A xb.length c) B_pb.out rfl
    have cqb0 := row_cell (k := 0) (v := .int .u8 ytos) B_qb.out rfl
    have cqb1 := row_cell (k := 1) (v := .int .u16 yid) B_qb.out rfl
    have cqb2 := row_cell (k := 2) (v := .bool ydf) B_qb.out rfl
    have cqb3 := row_cell (k := 3) (v := .bool ymf) B_qb.out rfl
    have cqb4 := row_cell (k := 4) (v := .int .i64 yoff) B_qb.out rfl
    have cqb5 := row_cell (k := 5) (v := .int .u8 yttl) B_qb.out rfl
    have cqb6 := row_cell (k := 6) (v := .int .u8 ypr) B_qb.out rfl
    have cqb7 := row_cell (k := 7) (v := .int .u32 ysrc) B_qb.out rfl
    have cqb8 := row_cell (k := 8) (v := .int .u32 ydst) B_qb.out rfl
    have cqb9 := row_cell (k := 9) (v := .slice B yb.length d) B_qb.out rfl
    go_wp2_with fail
    refine (H3.out wd).mono ?_
    rintro e we ⟨rfl, hx⟩
    clear cpb0 cpb1 cpb2 cpb3 cpb4 cpb5 cpb6 cpb7 cpb8 cpb9 cqb0 cqb1 cqb2 cqb3 cqb4 cqb5 cqb6 cqb7 cqb8 cqb9
    have HX_we := Lib.hid hx
    clear hx
    replace B_pb := Lib.hid ((HX_we.out.block pb (row_lt B_pb.out) id).trans B_pb.out)
    replace B_qb := Lib.hid ((HX_we.out.block qb (row_lt B_qb.out) id).trans B_qb.out)
    have cpb0 := row_cell (k := 0) (v := .int .u8 xtos) B_pb.out rfl
    have cpb1 := row_cell (k := 1) (v := .int .u16 xid) B_pb.out rfl
    have cpb2 := row_cell (k := 2) (v := .bool xdf) B_pb.out rfl
    have cpb3 := row_cell (k := 3) (v := .bool xmf) B_pb.out rfl
    have cpb4 := row_cell (k := 4) (v := .int .i64 xoff) B_pb.out rfl
    have cpb5 := row_cell (k := 5) (v := .int .u8 xttl) B_pb.out rfl
    have cpb6 := row_cell (k := 6) (v := .int .u8 xpr) B_pb.out rfl
    have cpb7 := row_cell (k := 7) (v := .int .u32 xsrc) B_pb.out rfl
    have cpb8 := row_cell (k := 8) (v := .int .u32 xdst) B_pb.out rfl
    have cpb9 := row_cell (k := 9) (v := .slice A xb.length c) B_pb.out rfl
    have cqb0 := row_cell (k := 0) (v := .int .u8 ytos) B_qb.out rfl
    have cqb1 := row_cell (k := 1) (v := .int .u16 yid) B_qb.out rfl
    have cqb2 := row_cell (k := 2) (v := .bool ydf) B_qb.out rfl
    have cqb3 := row_cell (k := 3) (v := .bool ymf) B_qb.out rfl
    have cqb4 := row_cell (k := 4) (v := .int .i64 yoff) B_qb.out rfl
    have cqb5 := row_cell (k := 5) (v := .int .u8 yttl) B_qb.out rfl
    have cqb6 := row_cell (k := 6) (v := .int .u8 ypr) B_qb.out rfl
    have cqb7 := row_cell (k := 7) (v := .int .u32 ysrc) B_qb.out rfl
    have cqb8 := row_cell (k := 8) (v := .int .u32 ydst) B_qb.out rfl
    have cqb9 := row_cell (k := 9) (v := .slice B yb.length d) B_qb.out rfl
    cases r1 with
    | true =>
      go_wp2_with fail
      go_ret
      exact ⟨rfl, ((((HX_w1.out.trans HX_w2.out).trans HX_wc.out).trans HX_wd.out).trans HX_we.out)⟩
    | false =>
      go_wp2_with fail
      refine (H4.out we).mono ?_
      rintro e wf ⟨rfl, hx⟩
      have HX_wf := Lib.hid hx
      clear hx
      go_wp2_with fail
      go_ret
      exact ⟨rfl, (((((HX_w1.out.trans HX_w2.out).trans HX_wc.out).trans HX_wd.out).trans HX_we.out).trans HX_wf.out)⟩
set_option maxRecDepth 100000 in
set_option maxHeartbeats 4000000 in
theorem fights_ne (P Q : Nat → Prop) (p q : Pk) (A B : Option Addr) (c d : Nat) (w : World) (hp : p.sm) (hq : q.sm) (hrp : RB w P (.slice A p.b.length c) p.b) (hrq : RB w Q (.slice B q.b.length d) q.b) (h : fro p q < til p q) (h2 : ¬ p.cut (fro p q) (til p q) = q.cut (fro p q) (til p q)) :
    Calls Tryd.prog 31 #[pkv p (.slice A p.b.length c), pkv q (.slice B q.b.length d)] w fun e w' => e = .returned (.bool true) ∧ Ex (fun _ => False) w w' := by
  obtain ⟨hz, hi1, hi2, hi3, hi4⟩ : fro p q < til p q ∧ p.off ≤ fro p q ∧ q.off ≤ fro p q ∧ til p q ≤ p.en ∧ til p q ≤ q.en := by
    refine ⟨h, ?_, ?_, ?_, ?_⟩
    · unfold fro; split <;> omega
    · unfold fro; split <;> omega
    · unfold til; split <;> omega
    · unfold til; split <;> omega
  obtain ⟨b1, o1, rfl⟩ : ∃ b off, A = some ⟨b, off, none⟩ := by
    obtain ⟨_, A', c', e, _, hcell⟩ := hrp
    obtain ⟨b, off, e2, _⟩ := hcell 0 (by unfold Pk.en at hi3; omega)
    injection e with e1
    exact ⟨b, off, e1.trans e2⟩
  obtain ⟨b2, o2, rfl⟩ : ∃ b off, B = some ⟨b, off, none⟩ := by
    obtain ⟨_, A', c', e, _, hcell⟩ := hrq
    obtain ⟨b, off, e2, _⟩ := hcell 0 (by unfold Pk.en at hi4; omega)
    injection e with e1
    exact ⟨b, off, e1.trans e2⟩
  have hc1 : p.b.length ≤ c := by obtain ⟨_, _, _, e, h, _⟩ := hrp; injection e with _ _ e3; rw [e3]; exact h
  have hc2 : q.b.length ≤ d := by obtain ⟨_, _, _, e, h, _⟩ := hrq; injection e with _ _ e3; rw [e3]; exact h
  obtain ⟨i1, hi1e⟩ : ∃ i, (fro p q - p.off).toNat = i := ⟨_, rfl⟩
  obtain ⟨j1, hj1e⟩ : ∃ i, (til p q - p.off).toNat = i := ⟨_, rfl⟩
  obtain ⟨i2, hi2e⟩ : ∃ i, (fro p q - q.off).toNat = i := ⟨_, rfl⟩
  obtain ⟨j2, hj2e⟩ : ∃ i, (til p q - q.off).toNat = i := ⟨_, rfl⟩
  obtain ⟨⟨p0, p1⟩, p2⟩ := hp
  obtain ⟨⟨q0, q1⟩, q2⟩ := hq
  have hp : p.sm := ⟨⟨p0, p1⟩, p2⟩
  have hq : q.sm := ⟨⟨q0, q1⟩, q2⟩
  have hen1 : p.en ≤ 1001000000 := by unfold Pk.en; omega
  have hen2 : q.en ≤ 1001000000 := by unfold Pk.en; omega
  obtain ⟨wa1, wa2⟩ := wrap_d (a := fro p q) (b := p.off) (by omega) (by omega) hi1e hi1
  obtain ⟨wb1, wb2⟩ := wrap_d (a := til p q) (b := p.off) (by omega) (by omega) hj1e (by omega)
  obtain ⟨wc1, wc2⟩ := wrap_d (a := fro p q) (b := q.off) (by omega) (by omega) hi2e hi2
  obtain ⟨wd1, wd2⟩ := wrap_d (a := til p q) (b := q.off) (by omega) (by omega) hj2e (by omega)
  have hb1 : i1 < j1 ∧ j1 ≤ p.b.length := by unfold Pk.en at hi3; omega
  have hb2 : i2 < j2 ∧ j2 ≤ q.b.length := by unfold Pk.en at hi4; omega
  have heq : ∀ W, Ex (fun _ => False) w W → Calls Tryd.prog 41 #[.slice (some ⟨b1, o1 + i1, none⟩) (j1 - i1) (c - i1), .slice (some ⟨b2, o2 + i2, none⟩) (j2 - i2) (d - i2)] W fun e w' => e = .returned (.bool false) ∧ w' = W := by
    intro W hx
    refine (bequal_any P Q _ _ _ _ W ((hrp.keep hx (fun _ _ _ => id)).slice i1 j1 (by omega) hb1.2) ((hrq.keep hx (fun _ _ _ => id)).slice i2 j2 (by omega) hb2.2)).mono ?_
    rintro e w' ⟨rfl, rfl⟩
    unfold Pk.cut at h2
    rw [hi1e, hj1e, hi2e, hj2e] at h2
    exact ⟨by rw [decide_eq_false h2], rfl⟩
  have HEQ := Lib.hid heq
  clear heq h2
  have h1 := fun w => end_any p (some ⟨b1, o1, none⟩) c w hp.1 hp.2
  have h2 := fun w => end_any q (some ⟨b2, o2, none⟩) d w hq.1 hq.2
  have h3 := fun w => past_any p q (some ⟨b1, o1, none⟩) (some ⟨b2, o2, none⟩) c d w hp hq
  have h4 := fun w => past_any q p (some ⟨b2, o2, none⟩) (some ⟨b1, o1, none⟩) d c w hq hp
  have hfr : (if p.off < q.off then q.off else p.off) = fro p q := rfl
  have hti : (if q.en < p.en then q.en else p.en) = til p q := rfl
  generalize fro p q = fr at *
  generalize til p q = ti at *
  generalize pastB p q = r1 at *
  generalize pastB q p = r2 at *
  generalize p.en = X at *
  generalize q.en = Y at *
  obtain ⟨xtos, xid, xdf, xmf, xoff, xttl, xpr, xsrc, xdst, xb⟩ := p
  obtain ⟨ytos, yid, ydf, ymf, yoff, yttl, ypr, ysrc, ydst, yb⟩ := q
  have H1 := Lib.hid h1
  have H2 := Lib.hid h2
  have H3 := Lib.hid h3
  have H4 := Lib.hid h4
  have HFR := Lib.hid hfr
  have HTI := Lib.hid hti
  have HLT := Lib.hid h
  clear h1 h2 h3 h4 hfr hti h hp hq hrp hrq
  have HWA := Lib.hid (show wrap64 (fr - xoff) = (i1 : Int) ∧ wrap64 (ti - xoff) = (j1 : Int) ∧ wrap64 (fr - yoff) = (i2 : Int) ∧ wrap64 (ti - yoff) = (j2 : Int) from ⟨wa1, wb1, wc1, wd1⟩)
  have HWB := Lib.hid (show IntKind.i64.wrap (fr - xoff) = (i1 : Int) ∧ IntKind.i64.wrap (ti - xoff) = (j1 : Int) ∧ IntKind.i64.wrap (fr - yoff) = (i2 : Int) ∧ IntKind.i64.wrap (ti - yoff) = (j2 : Int) from ⟨wa2, wb2, wc2, wd2⟩)
  have HBD := Lib.hid (show i1 < j1 ∧ j1 ≤ c ∧ i2 < j2 ∧ j2 ≤ d by simp only at hc1 hc2 hb1 hb2; omega)
  clear wa1 wb1 wc1 wd1 wa2 wb2 wc2 wd2 hz hi1 hi2 hi3 hi4 hc1 hc2 hi1e hj1e hi2e hj2e p0 p1 p2 q0 q1 q2 hen1 hen2 hb1 hb2
  show Calls Tryd.prog 31 #[.agg #[.int .u8 xtos, .int .u16 xid, .bool xdf, .bool xmf, .int .i64 xoff, .int .u8 xttl, .int .u8 xpr, .int .u32 xsrc, .int .u32 xdst, .slice (some ⟨b1, o1, none⟩) xb.length c], .agg #[.int .u8 ytos, .int .u16 yid, .bool ydf, .bool ymf, .int .i64 yoff, .int .u8 yttl, .int .u8 ypr, .int .u32 ysrc, .int .u32 ydst, .slice (some ⟨b2, o2, none⟩) yb.length d]] w _
  go_enter Tryd.func31, Tryd.ntmps31
  go_upto_region 1 with fail
  have hx : Ex (fun _ => False) w (w.alloc (.cells #[.int .u8 xtos, .int .u16 xid, .bool xdf, .bool xmf, .int .i64 xoff, .int .u8 xttl, .int .u8 xpr, .int .u32 xsrc, .int .u32 xdst, .slice (some ⟨b1, o1, none⟩) xb.length c] 27)) := (Ex.refl _ w).alloc _
  have hb : (w.alloc (.cells #[.int .u8 xtos, .int .u16 xid, .bool xdf, .bool xmf, .int .i64 xoff, .int .u8 xttl, .int .u8 xpr, .int .u32 xsrc, .int .u32 xdst, .slice (some ⟨b1, o1, none⟩) xb.length c] 27)).heap[w.heap.size]? = some (.cells #[.int .u8 xtos, .int .u16 xid, .bool xdf, .bool xmf, .int .i64 xoff, .int .u8 xttl, .int .u8 xpr, .int .u32 xsrc, .int .u32 xdst, .slice (some ⟨b1, o1, none⟩) xb.length c] 27) := heap_alloc_new w _
  have hs1 : (w.alloc (.cells #[.int .u8 xtos, .int .u16 xid, .bool xdf, .bool xmf, .int .i64 xoff, .int .u8 xttl, .int .u8 xpr, .int .u32 xsrc, .int .u32 xdst, .slice (some ⟨b1, o1, none⟩) xb.length c] 27)).heap.size = w.heap.size + 1 := by simp
  obtain ⟨pb, hpb⟩ : ∃ pb, pb = w.heap.size := ⟨_, rfl⟩
  have hb_pb : w.heap.size ≤ pb := by omega
  rw [← hpb] at hb hs1 
  try simp only [← hpb]
  generalize w.alloc (.cells #[.int .u8 xtos, .int .u16 xid, .bool xdf, .bool xmf, .int .i64 xoff, .int .u8 xttl, .int .u8 xpr, .int .u32 xsrc, .int .u32 xdst, .slice (some ⟨b1, o1, none⟩) xb.length c] 27) = w1 at hx hb  hs1 ⊢
  try simp only [← hs1]
  clear hs1
  clear hpb
  have HX_w1 := Lib.hid hx
  clear hx
  have B_pb := Lib.hid hb
  clear hb
  have hx : Ex (fun _ => False) w1 (w1.alloc (.cells #[.int .u8 ytos, .int .u16 yid, .bool ydf, .bool ymf, .int .i64 yoff, .int .u8 yttl, .int .u8 ypr, .int .u32 ysrc, .int .u32 ydst, .slice (some ⟨b2, o2, none⟩) yb.length d] 27)) := (Ex.refl _ w1).alloc _
  have hb : (w1.alloc (.cells #[.int .u8 ytos, .int .u16 yid, .bool ydf, .bool ymf, .int .i64 yoff, .int .u8 yttl, .int .u8 ypr, .int .u32 ysrc, .int .u32 ydst, .slice (some ⟨b2, o2, none⟩) yb.length d] 27)).heap[w1.heap.size]? = some (.cells #[.int .u8 ytos, .int .u16 yid, .bool ydf, .bool ymf, .int .i64 yoff, .int .u8 yttl, .int .u8 ypr, .int .u32 ysrc, .int .u32 ydst, .slice (some ⟨b2, o2, none⟩) yb.length d] 27) := heap_alloc_new w1 _
  obtain ⟨qb, hqb⟩ : ∃ qb, qb = w1.heap.size := ⟨_, rfl⟩
  have hb_qb : w1.heap.size ≤ qb := by omega
  rw [← hqb] at hb
  try simp only [← hqb]
  generalize w1.alloc (.cells #[.int .u8 ytos, .int .u16 yid, .bool ydf, .bool ymf, .int .i64 yoff, .int .u8 yttl, .int .u8 ypr, .int .u32 ysrc, .int .u32 ydst, .slice (some ⟨b2, o2, none⟩) yb.length d] 27) = w2 at hx hb ⊢
  clear hqb
  have HX_w2 := Lib.hid hx
  clear hx
  have B_qb := Lib.hid hb
  clear hb
  replace B_pb := Lib.hid ((HX_w2.out.block pb (row_lt B_pb.out) id).trans B_pb.out)
  have cpb0 := row_cell (k := 0) (v := .int .u8 xtos) B_pb.out rfl
  have cpb1 := row_cell (k := 1) (v := .int .u16 xid) B_pb.out rfl
  have cpb2 := row_cell (k := 2) (v := .bool xdf) B_pb.out rfl
  have cpb3 := row_cell (k := 3) (v := .bool xmf) B_pb.out rfl
  have cpb4 := row_cell (k := 4) (v := .int .i64 xoff) B_pb.out rfl
  have cpb5 := row_cell (k := 5) (v := .int .u8 xttl) B_pb.out rfl
  have cpb6 := row_cell (k := 6) (v := .int .u8 xpr) B_pb.out rfl
  have cpb7 := row_cell (k := 7) (v := .int .u32 xsrc) B_pb.out rfl
  have cpb8 := row_cell (k := 8) (v := .int .u32 xdst) B_pb.out rfl
  have cpb9 := row_cell (k := 9) (v := .slice (some ⟨b1, o1, none⟩) xb.length c) B_pb.out rfl
  have cqb0 := row_cell (k := 0) (v := .int .u8 ytos) B_qb.out rfl
  have cqb1 := row_cell (k := 1) (v := .int .u16 yid) B_qb.out rfl
  have cqb2 := row_cell (k := 2) (v := .bool ydf) B_qb.out rfl
  have cqb3 := row_cell (k := 3) (v := .bool ymf) B_qb.out rfl
  have cqb4 := row_cell (k := 4) (v := .int .i64 yoff) B_qb.out rfl
  have cqb5 := row_cell (k := 5) (v := .int .u8 yttl) B_qb.out rfl
  have cqb6 := row_cell (k := 6) (v := .int .u8 ypr) B_qb.out rfl
  have cqb7 := row_cell (k := 7) (v := .int .u32 ysrc) B_qb.out rfl
  have cqb8 := row_cell (k := 8) (v := .int .u32 ydst) B_qb.out rfl
  have cqb9 := row_cell (k := 9) (v := .slice (some ⟨b2, o2, none⟩) yb.length d) B_qb.out rfl
  go_cut [5, 6] (fun x y wx => x = .int .i64 fr ∧ y = .int .i64 ti ∧ Hid (Ex (fun _ => False) w2 wx))
  case first =>
    have hS0 : Ex (fun _ => False) w2 w2.drew := (Ex.refl _ w2).drew
    refine wp_region_held_drew (S := fun W => Ex (fun _ => False) w2 W) (by kernel_rfl) hS0 (fun _ => ?_)
    refine wpAnyH_take (i := 0) (oi := { dst := some 7, op := Go.Op.fieldAddr 27 (Go.Operand.tmp 2) 4, type := 0, pos := "frag.go:88", after := #[], guard := none }) (v := ?v40) rfl (by kernel_rfl) (by kernel_rfl) (by kernel_rfl) (fun _ _ _ h => h) (Or.inl ⟨by rfl, ?hy40⟩) (by assumption) ?rest40
    case hy40 => (intro w hSw; (try dsimp only at hSw); have ecpb0 := hSw.cell cpb0 id; have ecpb1 := hSw.cell cpb1 id; have ecpb2 := hSw.cell cpb2 id; have ecpb3 := hSw.cell cpb3 id; have ecpb4 := hSw.cell cpb4 id; have ecpb5 := hSw.cell cpb5 id; have ecpb6 := hSw.cell cpb6 id; have ecpb7 := hSw.cell cpb7 id; have ecpb8 := hSw.cell cpb8 id; have ecpb9 := hSw.cell cpb9 id; have ecqb0 := hSw.cell cqb0 id; have ecqb1 := hSw.cell cqb1 id; have ecqb2 := hSw.cell cqb2 id; have ecqb3 := hSw.cell cqb3 id; have ecqb4 := hSw.cell cqb4 id; have ecqb5 := hSw.cell cqb5 id; have ecqb6 := hSw.cell cqb6 id; have ecqb7 := hSw.cell cqb7 id; have ecqb8 := hSw.cell cqb8 id; have ecqb9 := hSw.cell cqb9 id; have hfr := HFR.out; have hti := HTI.out; go_simp <;> with_reducible rfl)
    try simp only [Act.put, List.setIfInBounds_toArray, List.set_cons_zero, List.set_cons_succ]
    refine wpAnyH_take (i := 1) (oi := { dst := some 8, op := Go.Op.load 3 (Go.Operand.tmp 7), type := 3, pos := "frag.go:88", after := #[{ on := 0, ground := Go.Ground.data }], guard := none }) (v := ?v41) rfl (by kernel_rfl) (by kernel_rfl) (by kernel_rfl) (fun _ _ _ h => h) (Or.inl ⟨by rfl, ?hy41⟩) (by assumption) ?rest41
    case hy41 => (intro w hSw; (try dsimp only at hSw); have ecpb0 := hSw.cell cpb0 id; have ecpb1 := hSw.cell cpb1 id; have ecpb2 := hSw.cell cpb2 id; have ecpb3 := hSw.cell cpb3 id; have ecpb4 := hSw.cell cpb4 id; have ecpb5 := hSw.cell cpb5 id; have ecpb6 := hSw.cell cpb6 id; have ecpb7 := hSw.cell cpb7 id; have ecpb8 := hSw.cell cpb8 id; have ecpb9 := hSw.cell cpb9 id; have ecqb0 := hSw.cell cqb0 id; have ecqb1 := hSw.cell cqb1 id; have ecqb2 := hSw.cell cqb2 id; have ecqb3 := hSw.cell cqb3 id; have ecqb4 := hSw.cell cqb4 id; have ecqb5 := hSw.cell cqb5 id; have ecqb6 := hSw.cell cqb6 id; have ecqb7 := hSw.cell cqb7 id; have ecqb8 := hSw.cell cqb8 id; have ecqb9 := hSw.cell cqb9 id; have hfr := HFR.out; have hti := HTI.out; go_simp <;> with_reducible rfl)
    try simp only [Act.put, List.setIfInBounds_toArray, List.set_cons_zero, List.set_cons_succ]
    refine wpAnyH_take (i := 2) (oi := { dst := some 9, op := Go.Op.fieldAddr 27 (Go.Operand.tmp 3) 4, type := 0, pos := "frag.go:88", after := #[], guard := none }) (v := ?v42) rfl (by kernel_rfl) (by kernel_rfl) (by kernel_rfl) (fun _ _ _ h => h) (Or.inl ⟨by rfl, ?hy42⟩) (by assumption) ?rest42
    case hy42 => (intro w hSw; (try dsimp only at hSw); have ecpb0 := hSw.cell cpb0 id; have ecpb1 := hSw.cell cpb1 id; have ecpb2 := hSw.cell cpb2 id; have ecpb3 := hSw.cell cpb3 id; have ecpb4 := hSw.cell cpb4 id; have ecpb5 := hSw.cell cpb5 id; have ecpb6 := hSw.cell cpb6 id; have ecpb7 := hSw.cell cpb7 id; have ecpb8 := hSw.cell cpb8 id; have ecpb9 := hSw.cell cpb9 id; have ecqb0 := hSw.cell cqb0 id; have ecqb1 := hSw.cell cqb1 id; have ecqb2 := hSw.cell cqb2 id; have ecqb3 := hSw.cell cqb3 id; have ecqb4 := hSw.cell cqb4 id; have ecqb5 := hSw.cell cqb5 id; have ecqb6 := hSw.cell cqb6 id; have ecqb7 := hSw.cell cqb7 id; have ecqb8 := hSw.cell cqb8 id; have ecqb9 := hSw.cell cqb9 id; have hfr := HFR.out; have hti := HTI.out; go_simp <;> with_reducible rfl)
    try simp only [Act.put, List.setIfInBounds_toArray, List.set_cons_zero, List.set_cons_succ]
    refine wpAnyH_take (i := 3) (oi := { dst := some 10, op := Go.Op.load 3 (Go.Operand.tmp 9), type := 3, pos := "frag.go:88", after := #[{ on := 2, ground := Go.Ground.data }], guard := none }) (v := ?v43) rfl (by kernel_rfl) (by kernel_rfl) (by kernel_rfl) (fun _ _ _ h => h) (Or.inl ⟨by rfl, ?hy43⟩) (by assumption) ?rest43
    case hy43 => (intro w hSw; (try dsimp only at hSw); have ecpb0 := hSw.cell cpb0 id; have ecpb1 := hSw.cell cpb1 id; have ecpb2 := hSw.cell cpb2 id; have ecpb3 := hSw.cell cpb3 id; have ecpb4 := hSw.cell cpb4 id; have ecpb5 := hSw.cell cpb5 id; have ecpb6 := hSw.cell cpb6 id; have ecpb7 := hSw.cell cpb7 id; have ecpb8 := hSw.cell cpb8 id; have ecpb9 := hSw.cell cpb9 id; have ecqb0 := hSw.cell cqb0 id; have ecqb1 := hSw.cell cqb1 id; have ecqb2 := hSw.cell cqb2 id; have ecqb3 := hSw.cell cqb3 id; have ecqb4 := hSw.cell cqb4 id; have ecqb5 := hSw.cell cqb5 id; have ecqb6 := hSw.cell cqb6 id; have ecqb7 := hSw.cell cqb7 id; have ecqb8 := hSw.cell cqb8 id; have ecqb9 := hSw.cell cqb9 id; have hfr := HFR.out; have hti := HTI.out; go_simp <;> with_reducible rfl)
    try simp only [Act.put, List.setIfInBounds_toArray, List.set_cons_zero, List.set_cons_succ]
    refine wpAnyH_take (i := 4) (oi := { dst := some 11, op := Go.Op.call { callee := Go.Callee.builtin Go.Builtin.max, args := #[Go.Operand.tmp 8, Go.Operand.tmp 10], argTypes := #[3, 3] }, type := 3, pos := "frag.go:88", after := #[{ on := 1, ground := Go.Ground.data }, { on := 3, ground := Go.Ground.data }], guard := none }) (v := ?v44) rfl (by kernel_rfl) (by kernel_rfl) (by kernel_rfl) (fun _ _ _ h => h) (Or.inl ⟨by rfl, ?hy44⟩) (by assumption) ?rest44
    case hy44 => (intro w hSw; (try dsimp only at hSw); have ecpb0 := hSw.cell cpb0 id; have ecpb1 := hSw.cell cpb1 id; have ecpb2 := hSw.cell cpb2 id; have ecpb3 := hSw.cell cpb3 id; have ecpb4 := hSw.cell cpb4 id; have ecpb5 := hSw.cell cpb5 id; have ecpb6 := hSw.cell cpb6 id; have ecpb7 := hSw.cell cpb7 id; have ecpb8 := hSw.cell cpb8 id; have ecpb9 := hSw.cell cpb9 id; have ecqb0 := hSw.cell cqb0 id; have ecqb1 := hSw.cell cqb1 id; have ecqb2 := hSw.cell cqb2 id; have ecqb3 := hSw.cell cqb3 id; have ecqb4 := hSw.cell cqb4 id; have ecqb5 := hSw.cell cqb5 id; have ecqb6 := hSw.cell cqb6 id; have ecqb7 := hSw.cell cqb7 id; have ecqb8 := hSw.cell cqb8 id; have ecqb9 := hSw.cell cqb9 id; have hfr := HFR.out; have hti := HTI.out; go_simp <;> with_reducible rfl)
    try simp only [Act.put, List.setIfInBounds_toArray, List.set_cons_zero, List.set_cons_succ]
    refine wpAnyH_take (i := 5) (oi := { dst := some 12, op := Go.Op.load 27 (Go.Operand.tmp 2), type := 27, pos := "frag.go:88", after := #[], guard := none }) (v := ?v45) rfl (by kernel_rfl) (by kernel_rfl) (by kernel_rfl) (fun _ _ _ h => h) (Or.inl ⟨by rfl, ?hy45⟩) (by assumption) ?rest45
    case hy45 => (intro w hSw; (try dsimp only at hSw); have ecpb0 := hSw.cell cpb0 id; have ecpb1 := hSw.cell cpb1 id; have ecpb2 := hSw.cell cpb2 id; have ecpb3 := hSw.cell cpb3 id; have ecpb4 := hSw.cell cpb4 id; have ecpb5 := hSw.cell cpb5 id; have ecpb6 := hSw.cell cpb6 id; have ecpb7 := hSw.cell cpb7 id; have ecpb8 := hSw.cell cpb8 id; have ecpb9 := hSw.cell cpb9 id; have ecqb0 := hSw.cell cqb0 id; have ecqb1 := hSw.cell cqb1 id; have ecqb2 := hSw.cell cqb2 id; have ecqb3 := hSw.cell cqb3 id; have ecqb4 := hSw.cell cqb4 id; have ecqb5 := hSw.cell cqb5 id; have ecqb6 := hSw.cell cqb6 id; have ecqb7 := hSw.cell cqb7 id; have ecqb8 := hSw.cell cqb8 id; have ecqb9 := hSw.cell cqb9 id; have hfr := HFR.out; have hti := HTI.out; go_simp <;> with_reducible rfl)
    try simp only [Act.put, List.setIfInBounds_toArray, List.set_cons_zero, List.set_cons_succ]
    refine wpAnyH_take (i := 7) (oi := { dst := some 14, op := Go.Op.load 27 (Go.Operand.tmp 3), type := 27, pos := "frag.go:88", after := #[], guard := none }) (v := ?v46) rfl (by kernel_rfl) (by kernel_rfl) (by kernel_rfl) (fun _ _ _ h => h) (Or.inl ⟨by rfl, ?hy46⟩) (by assumption) ?rest46
    case hy46 => (intro w hSw; (try dsimp only at hSw); have ecpb0 := hSw.cell cpb0 id; have ecpb1 := hSw.cell cpb1 id; have ecpb2 := hSw.cell cpb2 id; have ecpb3 := hSw.cell cpb3 id; have ecpb4 := hSw.cell cpb4 id; have ecpb5 := hSw.cell cpb5 id; have ecpb6 := hSw.cell cpb6 id; have ecpb7 := hSw.cell cpb7 id; have ecpb8 := hSw.cell cpb8 id; have ecpb9 := hSw.cell cpb9 id; have ecqb0 := hSw.cell cqb0 id; have ecqb1 := hSw.cell cqb1 id; have ecqb2 := hSw.cell cqb2 id; have ecqb3 := hSw.cell cqb3 id; have ecqb4 := hSw.cell cqb4 id; have ecqb5 := hSw.cell cqb5 id; have ecqb6 := hSw.cell cqb6 id; have ecqb7 := hSw.cell cqb7 id; have ecqb8 := hSw.cell cqb8 id; have ecqb9 := hSw.cell cqb9 id; have hfr := HFR.out; have hti := HTI.out; go_simp <;> with_reducible rfl)
    try simp only [Act.put, List.setIfInBounds_toArray, List.set_cons_zero, List.set_cons_succ]
    refine wpAnyH_ready (rs := [6]) (by kernel_rfl) (by simp) ?_
    refine AllReadyH.cons (o := { dst := some 13, op := Go.Op.call { callee := Go.Callee.value (Go.Operand.func 40), args := #[Go.Operand.tmp 12], argTypes := #[27] }, type := 3, pos := "frag.go:88", after := #[{ on := 5, ground := Go.Ground.data }], guard := none }) rfl (fun K hK => ?_) AllReadyH.nil
    go_simp
    refine (H1.out _).mono ?_
    rintro e wn ⟨rfl, hx⟩
    have hS1 : Ex (fun _ => False) w2 wn := Ex.trans (by assumption) hx
    clear hx
    refine hK.out _ _ hS1 (fun _ => ?_)
    refine wpAnyH_ready (rs := [8]) (by kernel_rfl) (by simp) ?_
    refine AllReadyH.cons (o := { dst := some 15, op := Go.Op.call { callee := Go.Callee.value (Go.Operand.func 40), args := #[Go.Operand.tmp 14], argTypes := #[27] }, type := 3, pos := "frag.go:88", after := #[{ on := 7, ground := Go.Ground.data }, { on := 6, ground := Go.Ground.chain }], guard := none }) rfl (fun K hK => ?_) AllReadyH.nil
    go_simp
    refine (H2.out _).mono ?_
    rintro e wn ⟨rfl, hx⟩
    have hS1 : Ex (fun _ => False) w2 wn := Ex.trans (by assumption) hx
    clear hx
    refine hK.out _ _ hS1 (fun _ => ?_)
    refine wpAnyH_take (i := 9) (oi := { dst := some 16, op := Go.Op.call { callee := Go.Callee.builtin Go.Builtin.min, args := #[Go.Operand.tmp 13, Go.Operand.tmp 15], argTypes := #[3, 3] }, type := 3, pos := "frag.go:88", after := #[{ on := 6, ground := Go.Ground.data }, { on := 8, ground := Go.Ground.data }], guard := none }) (v := ?v47) rfl (by kernel_rfl) (by kernel_rfl) (by kernel_rfl) (fun _ _ _ h => h) (Or.inl ⟨by rfl, ?hy47⟩) (by assumption) ?rest47
    case hy47 => (intro w hSw; (try dsimp only at hSw); have ecpb0 := hSw.cell cpb0 id; have ecpb1 := hSw.cell cpb1 id; have ecpb2 := hSw.cell cpb2 id; have ecpb3 := hSw.cell cpb3 id; have ecpb4 := hSw.cell cpb4 id; have ecpb5 := hSw.cell cpb5 id; have ecpb6 := hSw.cell cpb6 id; have ecpb7 := hSw.cell cpb7 id; have ecpb8 := hSw.cell cpb8 id; have ecpb9 := hSw.cell cpb9 id; have ecqb0 := hSw.cell cqb0 id; have ecqb1 := hSw.cell cqb1 id; have ecqb2 := hSw.cell cqb2 id; have ecqb3 := hSw.cell cqb3 id; have ecqb4 := hSw.cell cqb4 id; have ecqb5 := hSw.cell cqb5 id; have ecqb6 := hSw.cell cqb6 id; have ecqb7 := hSw.cell cqb7 id; have ecqb8 := hSw.cell cqb8 id; have ecqb9 := hSw.cell cqb9 id; have hfr := HFR.out; have hti := HTI.out; go_simp <;> with_reducible rfl)
    try simp only [Act.put, List.setIfInBounds_toArray, List.set_cons_zero, List.set_cons_succ]
    refine wpAnyH_take (i := 10) (oi := { dst := some 5, op := Go.Op.assign (Go.Operand.tmp 11), type := 3, pos := "frag.go:88", after := #[{ on := 4, ground := Go.Ground.data }, { on := 8, ground := Go.Ground.chain }, { on := 0, ground := Go.Ground.phase }, { on := 1, ground := Go.Ground.phase }, { on := 2, ground := Go.Ground.phase }, { on := 3, ground := Go.Ground.phase }, { on := 4, ground := Go.Ground.phase }, { on := 5, ground := Go.Ground.textOnly Go.Departure.lateStores }, { on := 6, ground := Go.Ground.textOnly Go.Departure.lateStoresUnsure }, { on := 7, ground := Go.Ground.textOnly Go.Departure.lateStores }, { on := 8, ground := Go.Ground.textOnly Go.Departure.lateStoresUnsure }, { on := 9, ground := Go.Ground.textOnly Go.Departure.lateStoresUnsure }], guard := none }) (v := ?v48) rfl (by kernel_rfl) (by kernel_rfl) (by kernel_rfl) (fun _ _ _ h => h) (Or.inl ⟨by rfl, ?hy48⟩) (by assumption) ?rest48
    case hy48 => (intro w hSw; (try dsimp only at hSw); have ecpb0 := hSw.cell cpb0 id; have ecpb1 := hSw.cell cpb1 id; have ecpb2 := hSw.cell cpb2 id; have ecpb3 := hSw.cell cpb3 id; have ecpb4 := hSw.cell cpb4 id; have ecpb5 := hSw.cell cpb5 id; have ecpb6 := hSw.cell cpb6 id; have ecpb7 := hSw.cell cpb7 id; have ecpb8 := hSw.cell cpb8 id; have ecpb9 := hSw.cell cpb9 id; have ecqb0 := hSw.cell cqb0 id; have ecqb1 := hSw.cell cqb1 id; have ecqb2 := hSw.cell cqb2 id; have ecqb3 := hSw.cell cqb3 id; have ecqb4 := hSw.cell cqb4 id; have ecqb5 := hSw.cell cqb5 id; have ecqb6 := hSw.cell cqb6 id; have ecqb7 := hSw.cell cqb7 id; have ecqb8 := hSw.cell cqb8 id; have ecqb9 := hSw.cell cqb9 id; have hfr := HFR.out; have hti := HTI.out; go_simp <;> with_reducible rfl)
    try simp only [Act.put, List.setIfInBounds_toArray, List.set_cons_zero, List.set_cons_succ]
    refine wpAnyH_take (i := 11) (oi := { dst := some 6, op := Go.Op.assign (Go.Operand.tmp 16), type := 3, pos := "frag.go:88", after := #[{ on := 9, ground := Go.Ground.data }, { on := 10, ground := Go.Ground.chain }, { on := 0, ground := Go.Ground.phase }, { on := 1, ground := Go.Ground.phase }, { on := 2, ground := Go.Ground.phase }, { on := 3, ground := Go.Ground.phase }, { on := 4, ground := Go.Ground.phase }, { on := 5, ground := Go.Ground.phase }, { on := 6, ground := Go.Ground.phase }, { on := 7, ground := Go.Ground.phase }, { on := 8, ground := Go.Ground.phase }, { on := 9, ground := Go.Ground.phase }, { on := 10, ground := Go.Ground.phase }], guard := none }) (v := ?v49) rfl (by kernel_rfl) (by kernel_rfl) (by kernel_rfl) (fun _ _ _ h => h) (Or.inl ⟨by rfl, ?hy49⟩) (by assumption) ?rest49
    case hy49 => (intro w hSw; (try dsimp only at hSw); have ecpb0 := hSw.cell cpb0 id; have ecpb1 := hSw.cell cpb1 id; have ecpb2 := hSw.cell cpb2 id; have ecpb3 := hSw.cell cpb3 id; have ecpb4 := hSw.cell cpb4 id; have ecpb5 := hSw.cell cpb5 id; have ecpb6 := hSw.cell cpb6 id; have ecpb7 := hSw.cell cpb7 id; have ecpb8 := hSw.cell cpb8 id; have ecpb9 := hSw.cell cpb9 id; have ecqb0 := hSw.cell cqb0 id; have ecqb1 := hSw.cell cqb1 id; have ecqb2 := hSw.cell cqb2 id; have ecqb3 := hSw.cell cqb3 id; have ecqb4 := hSw.cell cqb4 id; have ecqb5 := hSw.cell cqb5 id; have ecqb6 := hSw.cell cqb6 id; have ecqb7 := hSw.cell cqb7 id; have ecqb8 := hSw.cell cqb8 id; have ecqb9 := hSw.cell cqb9 id; have hfr := HFR.out; have hti := HTI.out; go_simp <;> with_reducible rfl)
    try simp only [Act.put, List.setIfInBounds_toArray, List.set_cons_zero, List.set_cons_succ]
    refine wpAnyH_done (by kernel_rfl) ?_ _
    go_wp2_with fail
    go_meet
    exact ⟨rfl, rfl, Lib.hid hS1⟩
  case rest =>
    obtain ⟨rfl, rfl, hx⟩ := hcut
    have hx := hx.out
    clear cpb0 cpb1 cpb2 cpb3 cpb4 cpb5 cpb6 cpb7 cpb8 cpb9 cqb0 cqb1 cqb2 cqb3 cqb4 cqb5 cqb6 cqb7 cqb8 cqb9
    have HX_wc := Lib.hid hx
    clear hx
    replace B_pb := Lib.hid ((HX_wc.out.block pb (row_lt B_pb.out) id).trans B_pb.out)
    replace B_qb := Lib.hid ((HX_wc.out.block qb (row_lt B_qb.out) id).trans B_qb.out)
    have cpb0 := row_cell (k := 0) (v := .int .u8 xtos) B_pb.out rfl
    have cpb1 := row_cell (k := 1) (v := .int .u16 xid) B_pb.out rfl
    have cpb2 := row_cell (k := 2) (v := .bool xdf) B_pb.out rfl
    have cpb3 := row_cell (k := 3) (v := .bool xmf) B_pb.out rfl
    have cpb4 := row_cell (k := 4) (v := .int .i64 xoff) B_pb.out rfl
    have cpb5 := row_cell (k := 5) (v := .int .u8 xttl) B_pb.out rfl
    have cpb6 := row_cell (k := 6) (v := .int .u8 xpr) B_pb.out rfl
    have cpb7 := row_cell (k := 7) (v := .int .u32 xsrc) B_pb.out rfl
    have cpb8 := row_cell (k := 8) (v := .int .u32 xdst) B_pb.out rfl
    have cpb9 := row_cell (k := 9) (v := .slice (some ⟨b1, o1, none⟩) xb.length c) B_pb.out rfl
    have cqb0 := row_cell (k := 0) (v := .int .u8 ytos) B_qb.out rfl
    have cqb1 := row_cell (k := 1) (v := .int .u16 yid) B_qb.out rfl
    have cqb2 := row_cell (k := 2) (v := .bool ydf) B_qb.out rfl
    have cqb3 := row_cell (k := 3) (v := .bool ymf) B_qb.out rfl
    have cqb4 := row_cell (k := 4) (v := .int .i64 yoff) B_qb.out rfl
    have cqb5 := row_cell (k := 5) (v := .int .u8 yttl) B_qb.out rfl
    have cqb6 := row_cell (k := 6) (v := .int .u8 ypr) B_qb.out rfl
    have cqb7 := row_cell (k := 7) (v := .int .u32 ysrc) B_qb.out rfl
    have cqb8 := row_cell (k := 8) (v := .int .u32 ydst) B_qb.out rfl
    have cqb9 := row_cell (k := 9) (v := .slice (some ⟨b2, o2, none⟩) yb.length d) B_qb.out rfl
    have hS0 : Ex (fun _ => False) wc wc.drew := (Ex.refl _ wc).drew
    go_upto_region 2 with fail
    have HX0c := Lib.hid ((HX_w1.out.trans HX_w2.out).trans HX_wc.out)
    have hlt := HLT.out
    refine wp_region_held_drew (S := fun W => Ex (fun _ => False) wc W) (by kernel_rfl) hS0 (fun _ => ?_)
    refine wpAnyH_take (i := 0) (oi := { dst := some 17, op := Go.Op.move (Go.Operand.tmp 5), type := 3, pos := "frag.go:89", after := #[], guard := none }) (v := ?v50) rfl (by kernel_rfl) (by kernel_rfl) (by kernel_rfl) (fun _ _ _ h => h) (Or.inl ⟨by rfl, ?hy50⟩) (by assumption) ?rest50
    case hy50 => (intro w hSw; (try dsimp only at hSw); have ecpb0 := hSw.cell cpb0 id; have ecpb1 := hSw.cell cpb1 id; have ecpb2 := hSw.cell cpb2 id; have ecpb3 := hSw.cell cpb3 id; have ecpb4 := hSw.cell cpb4 id; have ecpb5 := hSw.cell cpb5 id; have ecpb6 := hSw.cell cpb6 id; have ecpb7 := hSw.cell cpb7 id; have ecpb8 := hSw.cell cpb8 id; have ecpb9 := hSw.cell cpb9 id; have ecqb0 := hSw.cell cqb0 id; have ecqb1 := hSw.cell cqb1 id; have ecqb2 := hSw.cell cqb2 id; have ecqb3 := hSw.cell cqb3 id; have ecqb4 := hSw.cell cqb4 id; have ecqb5 := hSw.cell cqb5 id; have ecqb6 := hSw.cell cqb6 id; have ecqb7 := hSw.cell cqb7 id; have ecqb8 := hSw.cell cqb8 id; have ecqb9 := hSw.cell cqb9 id; obtain ⟨a1, a2, a3, a4⟩ := HWA.out; obtain ⟨a5, a6, a7, a8⟩ := HWB.out; obtain ⟨d1, d2, d3, d4⟩ := HBD.out; have d5 : (i1 : Int) ≤ (j1 : Int) := (by omega); have d6 : (j1 : Int) ≤ (c : Int) := (by omega); have d7 : (i2 : Int) ≤ (j2 : Int) := (by omega); have d8 : (j2 : Int) ≤ (d : Int) := (by omega); have d9 : ¬ c = i1 := (by omega); have d10 : ¬ d = i2 := (by omega); go_simp <;> with_reducible rfl)
    try simp only [Act.put, List.setIfInBounds_toArray, List.set_cons_zero, List.set_cons_succ]
    refine wpAnyH_take (i := 1) (oi := { dst := some 18, op := Go.Op.move (Go.Operand.tmp 6), type := 3, pos := "frag.go:89", after := #[], guard := none }) (v := ?v51) rfl (by kernel_rfl) (by kernel_rfl) (by kernel_rfl) (fun _ _ _ h => h) (Or.inl ⟨by rfl, ?hy51⟩) (by assumption) ?rest51
    case hy51 => (intro w hSw; (try dsimp only at hSw); have ecpb0 := hSw.cell cpb0 id; have ecpb1 := hSw.cell cpb1 id; have ecpb2 := hSw.cell cpb2 id; have ecpb3 := hSw.cell cpb3 id; have ecpb4 := hSw.cell cpb4 id; have ecpb5 := hSw.cell cpb5 id; have ecpb6 := hSw.cell cpb6 id; have ecpb7 := hSw.cell cpb7 id; have ecpb8 := hSw.cell cpb8 id; have ecpb9 := hSw.cell cpb9 id; have ecqb0 := hSw.cell cqb0 id; have ecqb1 := hSw.cell cqb1 id; have ecqb2 := hSw.cell cqb2 id; have ecqb3 := hSw.cell cqb3 id; have ecqb4 := hSw.cell cqb4 id; have ecqb5 := hSw.cell cqb5 id; have ecqb6 := hSw.cell cqb6 id; have ecqb7 := hSw.cell cqb7 id; have ecqb8 := hSw.cell cqb8 id; have ecqb9 := hSw.cell cqb9 id; obtain ⟨a1, a2, a3, a4⟩ := HWA.out; obtain ⟨a5, a6, a7, a8⟩ := HWB.out; obtain ⟨d1, d2, d3, d4⟩ := HBD.out; have d5 : (i1 : Int) ≤ (j1 : Int) := (by omega); have d6 : (j1 : Int) ≤ (c : Int) := (by omega); have d7 : (i2 : Int) ≤ (j2 : Int) := (by omega); have d8 : (j2 : Int) ≤ (d : Int) := (by omega); have d9 : ¬ c = i1 := (by omega); have d10 : ¬ d = i2 := (by omega); go_simp <;> with_reducible rfl)
    try simp only [Act.put, List.setIfInBounds_toArray, List.set_cons_zero, List.set_cons_succ]
    refine wpAnyH_take (i := 2) (oi := { dst := some 19, op := Go.Op.binOp Go.BinOp.lss 3 (Go.Operand.tmp 17) (Go.Operand.tmp 18) 3, type := 4, pos := "frag.go:89", after := #[{ on := 0, ground := Go.Ground.data }, { on := 1, ground := Go.Ground.data }], guard := none }) (v := ?v52) rfl (by kernel_rfl) (by kernel_rfl) (by kernel_rfl) (fun _ _ _ h => h) (Or.inl ⟨by rfl, ?hy52⟩) (by assumption) ?rest52
    case hy52 => (intro w hSw; (try dsimp only at hSw); have ecpb0 := hSw.cell cpb0 id; have ecpb1 := hSw.cell cpb1 id; have ecpb2 := hSw.cell cpb2 id; have ecpb3 := hSw.cell cpb3 id; have ecpb4 := hSw.cell cpb4 id; have ecpb5 := hSw.cell cpb5 id; have ecpb6 := hSw.cell cpb6 id; have ecpb7 := hSw.cell cpb7 id; have ecpb8 := hSw.cell cpb8 id; have ecpb9 := hSw.cell cpb9 id; have ecqb0 := hSw.cell cqb0 id; have ecqb1 := hSw.cell cqb1 id; have ecqb2 := hSw.cell cqb2 id; have ecqb3 := hSw.cell cqb3 id; have ecqb4 := hSw.cell cqb4 id; have ecqb5 := hSw.cell cqb5 id; have ecqb6 := hSw.cell cqb6 id; have ecqb7 := hSw.cell cqb7 id; have ecqb8 := hSw.cell cqb8 id; have ecqb9 := hSw.cell cqb9 id; obtain ⟨a1, a2, a3, a4⟩ := HWA.out; obtain ⟨a5, a6, a7, a8⟩ := HWB.out; obtain ⟨d1, d2, d3, d4⟩ := HBD.out; have d5 : (i1 : Int) ≤ (j1 : Int) := (by omega); have d6 : (j1 : Int) ≤ (c : Int) := (by omega); have d7 : (i2 : Int) ≤ (j2 : Int) := (by omega); have d8 : (j2 : Int) ≤ (d : Int) := (by omega); have d9 : ¬ c = i1 := (by omega); have d10 : ¬ d = i2 := (by omega); go_simp <;> with_reducible rfl)
    try simp only [Act.put, List.setIfInBounds_toArray, List.set_cons_zero, List.set_cons_succ]
    refine wpAnyH_take (i := 3) (oi := { dst := some 20, op := Go.Op.move (Go.Operand.tmp 19), type := 4, pos := "frag.go:89", after := #[{ on := 2, ground := Go.Ground.data }], guard := none }) (v := ?v53) rfl (by kernel_rfl) (by kernel_rfl) (by kernel_rfl) (fun _ _ _ h => h) (Or.inl ⟨by rfl, ?hy53⟩) (by assumption) ?rest53
    case hy53 => (intro w hSw; (try dsimp only at hSw); have ecpb0 := hSw.cell cpb0 id; have ecpb1 := hSw.cell cpb1 id; have ecpb2 := hSw.cell cpb2 id; have ecpb3 := hSw.cell cpb3 id; have ecpb4 := hSw.cell cpb4 id; have ecpb5 := hSw.cell cpb5 id; have ecpb6 := hSw.cell cpb6 id; have ecpb7 := hSw.cell cpb7 id; have ecpb8 := hSw.cell cpb8 id; have ecpb9 := hSw.cell cpb9 id; have ecqb0 := hSw.cell cqb0 id; have ecqb1 := hSw.cell cqb1 id; have ecqb2 := hSw.cell cqb2 id; have ecqb3 := hSw.cell cqb3 id; have ecqb4 := hSw.cell cqb4 id; have ecqb5 := hSw.cell cqb5 id; have ecqb6 := hSw.cell cqb6 id; have ecqb7 := hSw.cell cqb7 id; have ecqb8 := hSw.cell cqb8 id; have ecqb9 := hSw.cell cqb9 id; obtain ⟨a1, a2, a3, a4⟩ := HWA.out; obtain ⟨a5, a6, a7, a8⟩ := HWB.out; obtain ⟨d1, d2, d3, d4⟩ := HBD.out; have d5 : (i1 : Int) ≤ (j1 : Int) := (by omega); have d6 : (j1 : Int) ≤ (c : Int) := (by omega); have d7 : (i2 : Int) ≤ (j2 : Int) := (by omega); have d8 : (j2 : Int) ≤ (d : Int) := (by omega); have d9 : ¬ c = i1 := (by omega); have d10 : ¬ d = i2 := (by omega); go_simp <;> with_reducible rfl)
    try simp only [Act.put, List.setIfInBounds_toArray, List.set_cons_zero, List.set_cons_succ]
    refine wpAnyH_take (i := 4) (oi := { dst := some 21, op := Go.Op.fieldAddr 27 (Go.Operand.tmp 2) 9, type := 0, pos := "frag.go:89", after := #[{ on := 3, ground := Go.Ground.guard }], guard := some (3, true) }) (v := ?v54) rfl (by kernel_rfl) (by kernel_rfl) (by kernel_rfl) (fun _ _ _ h => h) (Or.inl ⟨by rfl, ?hy54⟩) (by assumption) ?rest54
    case hy54 => (intro w hSw; (try dsimp only at hSw); have ecpb0 := hSw.cell cpb0 id; have ecpb1 := hSw.cell cpb1 id; have ecpb2 := hSw.cell cpb2 id; have ecpb3 := hSw.cell cpb3 id; have ecpb4 := hSw.cell cpb4 id; have ecpb5 := hSw.cell cpb5 id; have ecpb6 := hSw.cell cpb6 id; have ecpb7 := hSw.cell cpb7 id; have ecpb8 := hSw.cell cpb8 id; have ecpb9 := hSw.cell cpb9 id; have ecqb0 := hSw.cell cqb0 id; have ecqb1 := hSw.cell cqb1 id; have ecqb2 := hSw.cell cqb2 id; have ecqb3 := hSw.cell cqb3 id; have ecqb4 := hSw.cell cqb4 id; have ecqb5 := hSw.cell cqb5 id; have ecqb6 := hSw.cell cqb6 id; have ecqb7 := hSw.cell cqb7 id; have ecqb8 := hSw.cell cqb8 id; have ecqb9 := hSw.cell cqb9 id; obtain ⟨a1, a2, a3, a4⟩ := HWA.out; obtain ⟨a5, a6, a7, a8⟩ := HWB.out; obtain ⟨d1, d2, d3, d4⟩ := HBD.out; have d5 : (i1 : Int) ≤ (j1 : Int) := (by omega); have d6 : (j1 : Int) ≤ (c : Int) := (by omega); have d7 : (i2 : Int) ≤ (j2 : Int) := (by omega); have d8 : (j2 : Int) ≤ (d : Int) := (by omega); have d9 : ¬ c = i1 := (by omega); have d10 : ¬ d = i2 := (by omega); go_simp <;> with_reducible rfl)
    try simp only [Act.put, List.setIfInBounds_toArray, List.set_cons_zero, List.set_cons_succ]
    refine wpAnyH_take (i := 5) (oi := { dst := some 22, op := Go.Op.load 25 (Go.Operand.tmp 21), type := 25, pos := "frag.go:89", after := #[{ on := 4, ground := Go.Ground.data }, { on := 3, ground := Go.Ground.guard }], guard := some (3, true) }) (v := ?v55) rfl (by kernel_rfl) (by kernel_rfl) (by kernel_rfl) (fun _ _ _ h => h) (Or.inl ⟨by rfl, ?hy55⟩) (by assumption) ?rest55
    case hy55 => (intro w hSw; (try dsimp only at hSw); have ecpb0 := hSw.cell cpb0 id; have ecpb1 := hSw.cell cpb1 id; have ecpb2 := hSw.cell cpb2 id; have ecpb3 := hSw.cell cpb3 id; have ecpb4 := hSw.cell cpb4 id; have ecpb5 := hSw.cell cpb5 id; have ecpb6 := hSw.cell cpb6 id; have ecpb7 := hSw.cell cpb7 id; have ecpb8 := hSw.cell cpb8 id; have ecpb9 := hSw.cell cpb9 id; have ecqb0 := hSw.cell cqb0 id; have ecqb1 := hSw.cell cqb1 id; have ecqb2 := hSw.cell cqb2 id; have ecqb3 := hSw.cell cqb3 id; have ecqb4 := hSw.cell cqb4 id; have ecqb5 := hSw.cell cqb5 id; have ecqb6 := hSw.cell cqb6 id; have ecqb7 := hSw.cell cqb7 id; have ecqb8 := hSw.cell cqb8 id; have ecqb9 := hSw.cell cqb9 id; obtain ⟨a1, a2, a3, a4⟩ := HWA.out; obtain ⟨a5, a6, a7, a8⟩ := HWB.out; obtain ⟨d1, d2, d3, d4⟩ := HBD.out; have d5 : (i1 : Int) ≤ (j1 : Int) := (by omega); have d6 : (j1 : Int) ≤ (c : Int) := (by omega); have d7 : (i2 : Int) ≤ (j2 : Int) := (by omega); have d8 : (j2 : Int) ≤ (d : Int) := (by omega); have d9 : ¬ c = i1 := (by omega); have d10 : ¬ d = i2 := (by omega); go_simp <;> with_reducible rfl)
    try simp only [Act.put, List.setIfInBounds_toArray, List.set_cons_zero, List.set_cons_succ]
    refine wpAnyH_take (i := 6) (oi := { dst := some 23, op := Go.Op.move (Go.Operand.tmp 5), type := 3, pos := "frag.go:89", after := #[{ on := 3, ground := Go.Ground.guard }], guard := some (3, true) }) (v := ?v56) rfl (by kernel_rfl) (by kernel_rfl) (by kernel_rfl) (fun _ _ _ h => h) (Or.inl ⟨by rfl, ?hy56⟩) (by assumption) ?rest56
    case hy56 => (intro w hSw; (try dsimp only at hSw); have ecpb0 := hSw.cell cpb0 id; have ecpb1 := hSw.cell cpb1 id; have ecpb2 := hSw.cell cpb2 id; have ecpb3 := hSw.cell cpb3 id; have ecpb4 := hSw.cell cpb4 id; have ecpb5 := hSw.cell cpb5 id; have ecpb6 := hSw.cell cpb6 id; have ecpb7 := hSw.cell cpb7 id; have ecpb8 := hSw.cell cpb8 id; have ecpb9 := hSw.cell cpb9 id; have ecqb0 := hSw.cell cqb0 id; have ecqb1 := hSw.cell cqb1 id; have ecqb2 := hSw.cell cqb2 id; have ecqb3 := hSw.cell cqb3 id; have ecqb4 := hSw.cell cqb4 id; have ecqb5 := hSw.cell cqb5 id; have ecqb6 := hSw.cell cqb6 id; have ecqb7 := hSw.cell cqb7 id; have ecqb8 := hSw.cell cqb8 id; have ecqb9 := hSw.cell cqb9 id; obtain ⟨a1, a2, a3, a4⟩ := HWA.out; obtain ⟨a5, a6, a7, a8⟩ := HWB.out; obtain ⟨d1, d2, d3, d4⟩ := HBD.out; have d5 : (i1 : Int) ≤ (j1 : Int) := (by omega); have d6 : (j1 : Int) ≤ (c : Int) := (by omega); have d7 : (i2 : Int) ≤ (j2 : Int) := (by omega); have d8 : (j2 : Int) ≤ (d : Int) := (by omega); have d9 : ¬ c = i1 := (by omega); have d10 : ¬ d = i2 := (by omega); go_simp <;> with_reducible rfl)
    try simp only [Act.put, List.setIfInBounds_toArray, List.set_cons_zero, List.set_cons_succ]
    refine wpAnyH_take (i := 7) (oi := { dst := some 24, op := Go.Op.fieldAddr 27 (Go.Operand.tmp 2) 4, type := 0, pos := "frag.go:89", after := #[{ on := 3, ground := Go.Ground.guard }], guard := some (3, true) }) (v := ?v57) rfl (by kernel_rfl) (by kernel_rfl) (by kernel_rfl) (fun _ _ _ h => h) (Or.inl ⟨by rfl, ?hy57⟩) (by assumption) ?rest57
    case hy57 => (intro w hSw; (try dsimp only at hSw); have ecpb0 := hSw.cell cpb0 id; have ecpb1 := hSw.cell cpb1 id; have ecpb2 := hSw.cell cpb2 id; have ecpb3 := hSw.cell cpb3 id; have ecpb4 := hSw.cell cpb4 id; have ecpb5 := hSw.cell cpb5 id; have ecpb6 := hSw.cell cpb6 id; have ecpb7 := hSw.cell cpb7 id; have ecpb8 := hSw.cell cpb8 id; have ecpb9 := hSw.cell cpb9 id; have ecqb0 := hSw.cell cqb0 id; have ecqb1 := hSw.cell cqb1 id; have ecqb2 := hSw.cell cqb2 id; have ecqb3 := hSw.cell cqb3 id; have ecqb4 := hSw.cell cqb4 id; have ecqb5 := hSw.cell cqb5 id; have ecqb6 := hSw.cell cqb6 id; have ecqb7 := hSw.cell cqb7 id; have ecqb8 := hSw.cell cqb8 id; have ecqb9 := hSw.cell cqb9 id; obtain ⟨a1, a2, a3, a4⟩ := HWA.out; obtain ⟨a5, a6, a7, a8⟩ := HWB.out; obtain ⟨d1, d2, d3, d4⟩ := HBD.out; have d5 : (i1 : Int) ≤ (j1 : Int) := (by omega); have d6 : (j1 : Int) ≤ (c : Int) := (by omega); have d7 : (i2 : Int) ≤ (j2 : Int) := (by omega); have d8 : (j2 : Int) ≤ (d : Int) := (by omega); have d9 : ¬ c = i1 := (by omega); have d10 : ¬ d = i2 := (by omega); go_simp <;> with_reducible rfl)
    try simp only [Act.put, List.setIfInBounds_toArray, List.set_cons_zero, List.set_cons_succ]
    refine wpAnyH_take (i := 8) (oi := { dst := some 25, op := Go.Op.load 3 (Go.Operand.tmp 24), type := 3, pos := "frag.go:89", after := #[{ on := 7, ground := Go.Ground.data }, { on := 3, ground := Go.Ground.guard }], guard := some (3, true) }) (v := ?v58) rfl (by kernel_rfl) (by kernel_rfl) (by kernel_rfl) (fun _ _ _ h => h) (Or.inl ⟨by rfl, ?hy58⟩) (by assumption) ?rest58
    case hy58 => (intro w hSw; (try dsimp only at hSw); have ecpb0 := hSw.cell cpb0 id; have ecpb1 := hSw.cell cpb1 id; have ecpb2 := hSw.cell cpb2 id; have ecpb3 := hSw.cell cpb3 id; have ecpb4 := hSw.cell cpb4 id; have ecpb5 := hSw.cell cpb5 id; have ecpb6 := hSw.cell cpb6 id; have ecpb7 := hSw.cell cpb7 id; have ecpb8 := hSw.cell cpb8 id; have ecpb9 := hSw.cell cpb9 id; have ecqb0 := hSw.cell cqb0 id; have ecqb1 := hSw.cell cqb1 id; have ecqb2 := hSw.cell cqb2 id; have ecqb3 := hSw.cell cqb3 id; have ecqb4 := hSw.cell cqb4 id; have ecqb5 := hSw.cell cqb5 id; have ecqb6 := hSw.cell cqb6 id; have ecqb7 := hSw.cell cqb7 id; have ecqb8 := hSw.cell cqb8 id; have ecqb9 := hSw.cell cqb9 id; obtain ⟨a1, a2, a3, a4⟩ := HWA.out; obtain ⟨a5, a6, a7, a8⟩ := HWB.out; obtain ⟨d1, d2, d3, d4⟩ := HBD.out; have d5 : (i1 : Int) ≤ (j1 : Int) := (by omega); have d6 : (j1 : Int) ≤ (c : Int) := (by omega); have d7 : (i2 : Int) ≤ (j2 : Int) := (by omega); have d8 : (j2 : Int) ≤ (d : Int) := (by omega); have d9 : ¬ c = i1 := (by omega); have d10 : ¬ d = i2 := (by omega); go_simp <;> with_reducible rfl)
    try simp only [Act.put, List.setIfInBounds_toArray, List.set_cons_zero, List.set_cons_succ]
    refine wpAnyH_take (i := 9) (oi := { dst := some 26, op := Go.Op.binOp Go.BinOp.sub 3 (Go.Operand.tmp 23) (Go.Operand.tmp 25) 3, type := 3, pos := "frag.go:89", after := #[{ on := 6, ground := Go.Ground.data }, { on := 8, ground := Go.Ground.data }, { on := 3, ground := Go.Ground.guard }], guard := some (3, true) }) (v := ?v59) rfl (by kernel_rfl) (by kernel_rfl) (by kernel_rfl) (fun _ _ _ h => h) (Or.inl ⟨by rfl, ?hy59⟩) (by assumption) ?rest59
    case hy59 => (intro w hSw; (try dsimp only at hSw); have ecpb0 := hSw.cell cpb0 id; have ecpb1 := hSw.cell cpb1 id; have ecpb2 := hSw.cell cpb2 id; have ecpb3 := hSw.cell cpb3 id; have ecpb4 := hSw.cell cpb4 id; have ecpb5 := hSw.cell cpb5 id; have ecpb6 := hSw.cell cpb6 id; have ecpb7 := hSw.cell cpb7 id; have ecpb8 := hSw.cell cpb8 id; have ecpb9 := hSw.cell cpb9 id; have ecqb0 := hSw.cell cqb0 id; have ecqb1 := hSw.cell cqb1 id; have ecqb2 := hSw.cell cqb2 id; have ecqb3 := hSw.cell cqb3 id; have ecqb4 := hSw.cell cqb4 id; have ecqb5 := hSw.cell cqb5 id; have ecqb6 := hSw.cell cqb6 id; have ecqb7 := hSw.cell cqb7 id; have ecqb8 := hSw.cell cqb8 id; have ecqb9 := hSw.cell cqb9 id; obtain ⟨a1, a2, a3, a4⟩ := HWA.out; obtain ⟨a5, a6, a7, a8⟩ := HWB.out; obtain ⟨d1, d2, d3, d4⟩ := HBD.out; have d5 : (i1 : Int) ≤ (j1 : Int) := (by omega); have d6 : (j1 : Int) ≤ (c : Int) := (by omega); have d7 : (i2 : Int) ≤ (j2 : Int) := (by omega); have d8 : (j2 : Int) ≤ (d : Int) := (by omega); have d9 : ¬ c = i1 := (by omega); have d10 : ¬ d = i2 := (by omega); go_simp <;> with_reducible rfl)
    try simp only [Act.put, List.setIfInBounds_toArray, List.set_cons_zero, List.set_cons_succ]
    refine wpAnyH_take (i := 10) (oi := { dst := some 27, op := Go.Op.move (Go.Operand.tmp 6), type := 3, pos := "frag.go:89", after := #[{ on := 3, ground := Go.Ground.guard }], guard := some (3, true) }) (v := ?v60) rfl (by kernel_rfl) (by kernel_rfl) (by kernel_rfl) (fun _ _ _ h => h) (Or.inl ⟨by rfl, ?hy60⟩) (by assumption) ?rest60
    case hy60 => (intro w hSw; (try dsimp only at hSw); have ecpb0 := hSw.cell cpb0 id; have ecpb1 := hSw.cell cpb1 id; have ecpb2 := hSw.cell cpb2 id; have ecpb3 := hSw.cell cpb3 id; have ecpb4 := hSw.cell cpb4 id; have ecpb5 := hSw.cell cpb5 id; have ecpb6 := hSw.cell cpb6 id; have ecpb7 := hSw.cell cpb7 id; have ecpb8 := hSw.cell cpb8 id; have ecpb9 := hSw.cell cpb9 id; have ecqb0 := hSw.cell cqb0 id; have ecqb1 := hSw.cell cqb1 id; have ecqb2 := hSw.cell cqb2 id; have ecqb3 := hSw.cell cqb3 id; have ecqb4 := hSw.cell cqb4 id; have ecqb5 := hSw.cell cqb5 id; have ecqb6 := hSw.cell cqb6 id; have ecqb7 := hSw.cell cqb7 id; have ecqb8 := hSw.cell cqb8 id; have ecqb9 := hSw.cell cqb9 id; obtain ⟨a1, a2, a3, a4⟩ := HWA.out; obtain ⟨a5, a6, a7, a8⟩ := HWB.out; obtain ⟨d1, d2, d3, d4⟩ := HBD.out; have d5 : (i1 : Int) ≤ (j1 : Int) := (by omega); have d6 : (j1 : Int) ≤ (c : Int) := (by omega); have d7 : (i2 : Int) ≤ (j2 : Int) := (by omega); have d8 : (j2 : Int) ≤ (d : Int) := (by omega); have d9 : ¬ c = i1 := (by omega); have d10 : ¬ d = i2 := (by omega); go_simp <;> with_reducible rfl)
    try simp only [Act.put, List.setIfInBounds_toArray, List.set_cons_zero, List.set_cons_succ]
    refine wpAnyH_take (i := 11) (oi := { dst := some 28, op := Go.Op.fieldAddr 27 (Go.Operand.tmp 2) 4, type := 0, pos := "frag.go:89", after := #[{ on := 3, ground := Go.Ground.guard }], guard := some (3, true) }) (v := ?v61) rfl (by kernel_rfl) (by kernel_rfl) (by kernel_rfl) (fun _ _ _ h => h) (Or.inl ⟨by rfl, ?hy61⟩) (by assumption) ?rest61
    case hy61 => (intro w hSw; (try dsimp only at hSw); have ecpb0 := hSw.cell cpb0 id; have ecpb1 := hSw.cell cpb1 id; have ecpb2 := hSw.cell cpb2 id; have ecpb3 := hSw.cell cpb3 id; have ecpb4 := hSw.cell cpb4 id; have ecpb5 := hSw.cell cpb5 id; have ecpb6 := hSw.cell cpb6 id; have ecpb7 := hSw.cell cpb7 id; have ecpb8 := hSw.cell cpb8 id; have ecpb9 := hSw.cell cpb9 id; have ecqb0 := hSw.cell cqb0 id; have ecqb1 := hSw.cell cqb1 id; have ecqb2 := hSw.cell cqb2 id; have ecqb3 := hSw.cell cqb3 id; have ecqb4 := hSw.cell cqb4 id; have ecqb5 := hSw.cell cqb5 id; have ecqb6 := hSw.cell cqb6 id; have ecqb7 := hSw.cell cqb7 id; have ecqb8 := hSw.cell cqb8 id; have ecqb9 := hSw.cell cqb9 id; obtain ⟨a1, a2, a3, a4⟩ := HWA.out; obtain ⟨a5, a6, a7, a8⟩ := HWB.out; obtain ⟨d1, d2, d3, d4⟩ := HBD.out; have d5 : (i1 : Int) ≤ (j1 : Int) := (by omega); have d6 : (j1 : Int) ≤ (c : Int) := (by omega); have d7 : (i2 : Int) ≤ (j2 : Int) := (by omega); have d8 : (j2 : Int) ≤ (d : Int) := (by omega); have d9 : ¬ c = i1 := (by omega); have d10 : ¬ d = i2 := (by omega); go_simp <;> with_reducible rfl)
    try simp only [Act.put, List.setIfInBounds_toArray, List.set_cons_zero, List.set_cons_succ]
    refine wpAnyH_take (i := 12) (oi := { dst := some 29, op := Go.Op.load 3 (Go.Operand.tmp 28), type := 3, pos := "frag.go:89", after := #[{ on := 11, ground := Go.Ground.data }, { on := 3, ground := Go.Ground.guard }], guard := some (3, true) }) (v := ?v62) rfl (by kernel_rfl) (by kernel_rfl) (by kernel_rfl) (fun _ _ _ h => h) (Or.inl ⟨by rfl, ?hy62⟩) (by assumption) ?rest62
    case hy62 => (intro w hSw; (try dsimp only at hSw); have ecpb0 := hSw.cell cpb0 id; have ecpb1 := hSw.cell cpb1 id; have ecpb2 := hSw.cell cpb2 id; have ecpb3 := hSw.cell cpb3 id; have ecpb4 := hSw.cell cpb4 id; have ecpb5 := hSw.cell cpb5 id; have ecpb6 := hSw.cell cpb6 id; have ecpb7 := hSw.cell cpb7 id; have ecpb8 := hSw.cell cpb8 id; have ecpb9 := hSw.cell cpb9 id; have ecqb0 := hSw.cell cqb0 id; have ecqb1 := hSw.cell cqb1 id; have ecqb2 := hSw.cell cqb2 id; have ecqb3 := hSw.cell cqb3 id; have ecqb4 := hSw.cell cqb4 id; have ecqb5 := hSw.cell cqb5 id; have ecqb6 := hSw.cell cqb6 id; have ecqb7 := hSw.cell cqb7 id; have ecqb8 := hSw.cell cqb8 id; have ecqb9 := hSw.cell cqb9 id; obtain ⟨a1, a2, a3, a4⟩ := HWA.out; obtain ⟨a5, a6, a7, a8⟩ := HWB.out; obtain ⟨d1, d2, d3, d4⟩ := HBD.out; have d5 : (i1 : Int) ≤ (j1 : Int) := (by omega); have d6 : (j1 : Int) ≤ (c : Int) := (by omega); have d7 : (i2 : Int) ≤ (j2 : Int) := (by omega); have d8 : (j2 : Int) ≤ (d : Int) := (by omega); have d9 : ¬ c = i1 := (by omega); have d10 : ¬ d = i2 := (by omega); go_simp <;> with_reducible rfl)
    try simp only [Act.put, List.setIfInBounds_toArray, List.set_cons_zero, List.set_cons_succ]
    refine wpAnyH_take (i := 13) (oi := { dst := some 30, op := Go.Op.binOp Go.BinOp.sub 3 (Go.Operand.tmp 27) (Go.Operand.tmp 29) 3, type := 3, pos := "frag.go:89", after := #[{ on := 10, ground := Go.Ground.data }, { on := 12, ground := Go.Ground.data }, { on := 3, ground := Go.Ground.guard }], guard := some (3, true) }) (v := ?v63) rfl (by kernel_rfl) (by kernel_rfl) (by kernel_rfl) (fun _ _ _ h => h) (Or.inl ⟨by rfl, ?hy63⟩) (by assumption) ?rest63
    case hy63 => (intro w hSw; (try dsimp only at hSw); have ecpb0 := hSw.cell cpb0 id; have ecpb1 := hSw.cell cpb1 id; have ecpb2 := hSw.cell cpb2 id; have ecpb3 := hSw.cell cpb3 id; have ecpb4 := hSw.cell cpb4 id; have ecpb5 := hSw.cell cpb5 id; have ecpb6 := hSw.cell cpb6 id; have ecpb7 := hSw.cell cpb7 id; have ecpb8 := hSw.cell cpb8 id; have ecpb9 := hSw.cell cpb9 id; have ecqb0 := hSw.cell cqb0 id; have ecqb1 := hSw.cell cqb1 id; have ecqb2 := hSw.cell cqb2 id; have ecqb3 := hSw.cell cqb3 id; have ecqb4 := hSw.cell cqb4 id; have ecqb5 := hSw.cell cqb5 id; have ecqb6 := hSw.cell cqb6 id; have ecqb7 := hSw.cell cqb7 id; have ecqb8 := hSw.cell cqb8 id; have ecqb9 := hSw.cell cqb9 id; obtain ⟨a1, a2, a3, a4⟩ := HWA.out; obtain ⟨a5, a6, a7, a8⟩ := HWB.out; obtain ⟨d1, d2, d3, d4⟩ := HBD.out; have d5 : (i1 : Int) ≤ (j1 : Int) := (by omega); have d6 : (j1 : Int) ≤ (c : Int) := (by omega); have d7 : (i2 : Int) ≤ (j2 : Int) := (by omega); have d8 : (j2 : Int) ≤ (d : Int) := (by omega); have d9 : ¬ c = i1 := (by omega); have d10 : ¬ d = i2 := (by omega); go_simp <;> with_reducible rfl)
    try simp only [Act.put, List.setIfInBounds_toArray, List.set_cons_zero, List.set_cons_succ]
    refine wpAnyH_take (i := 14) (oi := { dst := some 31, op := Go.Op.slice 25 (Go.Operand.tmp 22) (some (Go.Operand.tmp 26)) (some (Go.Operand.tmp 30)) none, type := 25, pos := "frag.go:89", after := #[{ on := 5, ground := Go.Ground.data }, { on := 9, ground := Go.Ground.data }, { on := 13, ground := Go.Ground.data }, { on := 3, ground := Go.Ground.guard }], guard := some (3, true) }) (v := ?v64) rfl (by kernel_rfl) (by kernel_rfl) (by kernel_rfl) (fun _ _ _ h => h) (Or.inl ⟨by rfl, ?hy64⟩) (by assumption) ?rest64
    case hy64 => (intro w hSw; (try dsimp only at hSw); have ecpb0 := hSw.cell cpb0 id; have ecpb1 := hSw.cell cpb1 id; have ecpb2 := hSw.cell cpb2 id; have ecpb3 := hSw.cell cpb3 id; have ecpb4 := hSw.cell cpb4 id; have ecpb5 := hSw.cell cpb5 id; have ecpb6 := hSw.cell cpb6 id; have ecpb7 := hSw.cell cpb7 id; have ecpb8 := hSw.cell cpb8 id; have ecpb9 := hSw.cell cpb9 id; have ecqb0 := hSw.cell cqb0 id; have ecqb1 := hSw.cell cqb1 id; have ecqb2 := hSw.cell cqb2 id; have ecqb3 := hSw.cell cqb3 id; have ecqb4 := hSw.cell cqb4 id; have ecqb5 := hSw.cell cqb5 id; have ecqb6 := hSw.cell cqb6 id; have ecqb7 := hSw.cell cqb7 id; have ecqb8 := hSw.cell cqb8 id; have ecqb9 := hSw.cell cqb9 id; obtain ⟨a1, a2, a3, a4⟩ := HWA.out; obtain ⟨a5, a6, a7, a8⟩ := HWB.out; obtain ⟨d1, d2, d3, d4⟩ := HBD.out; have d5 : (i1 : Int) ≤ (j1 : Int) := (by omega); have d6 : (j1 : Int) ≤ (c : Int) := (by omega); have d7 : (i2 : Int) ≤ (j2 : Int) := (by omega); have d8 : (j2 : Int) ≤ (d : Int) := (by omega); have d9 : ¬ c = i1 := (by omega); have d10 : ¬ d = i2 := (by omega); go_simp <;> with_reducible rfl)
    try simp only [Act.put, List.setIfInBounds_toArray, List.set_cons_zero, List.set_cons_succ]
    refine wpAnyH_take (i := 15) (oi := { dst := some 32, op := Go.Op.fieldAddr 27 (Go.Operand.tmp 3) 9, type := 0, pos := "frag.go:89", after := #[{ on := 3, ground := Go.Ground.guard }], guard := some (3, true) }) (v := ?v65) rfl (by kernel_rfl) (by kernel_rfl) (by kernel_rfl) (fun _ _ _ h => h) (Or.inl ⟨by rfl, ?hy65⟩) (by assumption) ?rest65
    case hy65 => (intro w hSw; (try dsimp only at hSw); have ecpb0 := hSw.cell cpb0 id; have ecpb1 := hSw.cell cpb1 id; have ecpb2 := hSw.cell cpb2 id; have ecpb3 := hSw.cell cpb3 id; have ecpb4 := hSw.cell cpb4 id; have ecpb5 := hSw.cell cpb5 id; have ecpb6 := hSw.cell cpb6 id; have ecpb7 := hSw.cell cpb7 id; have ecpb8 := hSw.cell cpb8 id; have ecpb9 := hSw.cell cpb9 id; have ecqb0 := hSw.cell cqb0 id; have ecqb1 := hSw.cell cqb1 id; have ecqb2 := hSw.cell cqb2 id; have ecqb3 := hSw.cell cqb3 id; have ecqb4 := hSw.cell cqb4 id; have ecqb5 := hSw.cell cqb5 id; have ecqb6 := hSw.cell cqb6 id; have ecqb7 := hSw.cell cqb7 id; have ecqb8 := hSw.cell cqb8 id; have ecqb9 := hSw.cell cqb9 id; obtain ⟨a1, a2, a3, a4⟩ := HWA.out; obtain ⟨a5, a6, a7, a8⟩ := HWB.out; obtain ⟨d1, d2, d3, d4⟩ := HBD.out; have d5 : (i1 : Int) ≤ (j1 : Int) := (by omega); have d6 : (j1 : Int) ≤ (c : Int) := (by omega); have d7 : (i2 : Int) ≤ (j2 : Int) := (by omega); have d8 : (j2 : Int) ≤ (d : Int) := (by omega); have d9 : ¬ c = i1 := (by omega); have d10 : ¬ d = i2 := (by omega); go_simp <;> with_reducible rfl)
    try simp only [Act.put, List.setIfInBounds_toArray, List.set_cons_zero, List.set_cons_succ]
    refine wpAnyH_take (i := 16) (oi := { dst := some 33, op := Go.Op.load 25 (Go.Operand.tmp 32), type := 25, pos := "frag.go:89", after := #[{ on := 15, ground := Go.Ground.data }, { on := 3, ground := Go.Ground.guard }], guard := some (3, true) }) (v := ?v66) rfl (by kernel_rfl) (by kernel_rfl) (by kernel_rfl) (fun _ _ _ h => h) (Or.inl ⟨by rfl, ?hy66⟩) (by assumption) ?rest66
    case hy66 => (intro w hSw; (try dsimp only at hSw); have ecpb0 := hSw.cell cpb0 id; have ecpb1 := hSw.cell cpb1 id; have ecpb2 := hSw.cell cpb2 id; have ecpb3 := hSw.cell cpb3 id; have ecpb4 := hSw.cell cpb4 id; have ecpb5 := hSw.cell cpb5 id; have ecpb6 := hSw.cell cpb6 id; have ecpb7 := hSw.cell cpb7 id; have ecpb8 := hSw.cell cpb8 id; have ecpb9 := hSw.cell cpb9 id; have ecqb0 := hSw.cell cqb0 id; have ecqb1 := hSw.cell cqb1 id; have ecqb2 := hSw.cell cqb2 id; have ecqb3 := hSw.cell cqb3 id; have ecqb4 := hSw.cell cqb4 id; have ecqb5 := hSw.cell cqb5 id; have ecqb6 := hSw.cell cqb6 id; have ecqb7 := hSw.cell cqb7 id; have ecqb8 := hSw.cell cqb8 id; have ecqb9 := hSw.cell cqb9 id; obtain ⟨a1, a2, a3, a4⟩ := HWA.out; obtain ⟨a5, a6, a7, a8⟩ := HWB.out; obtain ⟨d1, d2, d3, d4⟩ := HBD.out; have d5 : (i1 : Int) ≤ (j1 : Int) := (by omega); have d6 : (j1 : Int) ≤ (c : Int) := (by omega); have d7 : (i2 : Int) ≤ (j2 : Int) := (by omega); have d8 : (j2 : Int) ≤ (d : Int) := (by omega); have d9 : ¬ c = i1 := (by omega); have d10 : ¬ d = i2 := (by omega); go_simp <;> with_reducible rfl)
    try simp only [Act.put, List.setIfInBounds_toArray, List.set_cons_zero, List.set_cons_succ]
    refine wpAnyH_take (i := 17) (oi := { dst := some 34, op := Go.Op.move (Go.Operand.tmp 5), type := 3, pos := "frag.go:89", after := #[{ on := 3, ground := Go.Ground.guard }], guard := some (3, true) }) (v := ?v67) rfl (by kernel_rfl) (by kernel_rfl) (by kernel_rfl) (fun _ _ _ h => h) (Or.inl ⟨by rfl, ?hy67⟩) (by assumption) ?rest67
    case hy67 => (intro w hSw; (try dsimp only at hSw); have ecpb0 := hSw.cell cpb0 id; have ecpb1 := hSw.cell cpb1 id; have ecpb2 := hSw.cell cpb2 id; have ecpb3 := hSw.cell cpb3 id; have ecpb4 := hSw.cell cpb4 id; have ecpb5 := hSw.cell cpb5 id; have ecpb6 := hSw.cell cpb6 id; have ecpb7 := hSw.cell cpb7 id; have ecpb8 := hSw.cell cpb8 id; have ecpb9 := hSw.cell cpb9 id; have ecqb0 := hSw.cell cqb0 id; have ecqb1 := hSw.cell cqb1 id; have ecqb2 := hSw.cell cqb2 id; have ecqb3 := hSw.cell cqb3 id; have ecqb4 := hSw.cell cqb4 id; have ecqb5 := hSw.cell cqb5 id; have ecqb6 := hSw.cell cqb6 id; have ecqb7 := hSw.cell cqb7 id; have ecqb8 := hSw.cell cqb8 id; have ecqb9 := hSw.cell cqb9 id; obtain ⟨a1, a2, a3, a4⟩ := HWA.out; obtain ⟨a5, a6, a7, a8⟩ := HWB.out; obtain ⟨d1, d2, d3, d4⟩ := HBD.out; have d5 : (i1 : Int) ≤ (j1 : Int) := (by omega); have d6 : (j1 : Int) ≤ (c : Int) := (by omega); have d7 : (i2 : Int) ≤ (j2 : Int) := (by omega); have d8 : (j2 : Int) ≤ (d : Int) := (by omega); have d9 : ¬ c = i1 := (by omega); have d10 : ¬ d = i2 := (by omega); go_simp <;> with_reducible rfl)
    try simp only [Act.put, List.setIfInBounds_toArray, List.set_cons_zero, List.set_cons_succ]
    refine wpAnyH_take (i := 18) (oi := { dst := some 35, op := Go.Op.fieldAddr 27 (Go.Operand.tmp 3) 4, type := 0, pos := "frag.go:89", after := #[{ on := 3, ground := Go.Ground.guard }], guard := some (3, true) }) (v := ?v68) rfl (by kernel_rfl) (by kernel_rfl) (by kernel_rfl) (fun _ _ _ h => h) (Or.inl ⟨by rfl, ?hy68⟩) (by assumption) ?rest68
    case hy68 => (intro w hSw; (try dsimp only at hSw); have ecpb0 := hSw.cell cpb0 id; have ecpb1 := hSw.cell cpb1 id; have ecpb2 := hSw.cell cpb2 id; have ecpb3 := hSw.cell cpb3 id; have ecpb4 := hSw.cell cpb4 id; have ecpb5 := hSw.cell cpb5 id; have ecpb6 := hSw.cell cpb6 id; have ecpb7 := hSw.cell cpb7 id; have ecpb8 := hSw.cell cpb8 id; have ecpb9 := hSw.cell cpb9 id; have ecqb0 := hSw.cell cqb0 id; have ecqb1 := hSw.cell cqb1 id; have ecqb2 := hSw.cell cqb2 id; have ecqb3 := hSw.cell cqb3 id; have ecqb4 := hSw.cell cqb4 id; have ecqb5 := hSw.cell cqb5 id; have ecqb6 := hSw.cell cqb6 id; have ecqb7 := hSw.cell cqb7 id; have ecqb8 := hSw.cell cqb8 id; have ecqb9 := hSw.cell cqb9 id; obtain ⟨a1, a2, a3, a4⟩ := HWA.out; obtain ⟨a5, a6, a7, a8⟩ := HWB.out; obtain ⟨d1, d2, d3, d4⟩ := HBD.out; have d5 : (i1 : Int) ≤ (j1 : Int) := (by omega); have d6 : (j1 : Int) ≤ (c : Int) := (by omega); have d7 : (i2 : Int) ≤ (j2 : Int) := (by omega); have d8 : (j2 : Int) ≤ (d : Int) := (by omega); have d9 : ¬ c = i1 := (by omega); have d10 : ¬ d = i2 := (by omega); go_simp <;> with_reducible rfl)
    try simp only [Act.put, List.setIfInBounds_toArray, List.set_cons_zero, List.set_cons_succ]
    refine wpAnyH_take (i := 19) (oi := { dst := some 36, op := Go.Op.load 3 (Go.Operand.tmp 35), type := 3, pos := "frag.go:89", after := #[{ on := 18, ground := Go.Ground.data }, { on := 3, ground := Go.Ground.guard }], guard := some (3, true) }) (v := ?v69) rfl (by kernel_rfl) (by kernel_rfl) (by kernel_rfl) (fun _ _ _ h => h) (Or.inl ⟨by rfl, ?hy69⟩) (by assumption) ?rest69
    case hy69 => (intro w hSw; (try dsimp only at hSw); have ecpb0 := hSw.cell cpb0 id; have ecpb1 := hSw.cell cpb1 id; have ecpb2 := hSw.cell cpb2 id; have ecpb3 := hSw.cell cpb3 id; have ecpb4 := hSw.cell cpb4 id; have ecpb5 := hSw.cell cpb5 id; have ecpb6 := hSw.cell cpb6 id; have ecpb7 := hSw.cell cpb7 id; have ecpb8 := hSw.cell cpb8 id; have ecpb9 := hSw.cell cpb9 id; have ecqb0 := hSw.cell cqb0 id; have ecqb1 := hSw.cell cqb1 id; have ecqb2 := hSw.cell cqb2 id; have ecqb3 := hSw.cell cqb3 id; have ecqb4 := hSw.cell cqb4 id; have ecqb5 := hSw.cell cqb5 id; have ecqb6 := hSw.cell cqb6 id; have ecqb7 := hSw.cell cqb7 id; have ecqb8 := hSw.cell cqb8 id; have ecqb9 := hSw.cell cqb9 id; obtain ⟨a1, a2, a3, a4⟩ := HWA.out; obtain ⟨a5, a6, a7, a8⟩ := HWB.out; obtain ⟨d1, d2, d3, d4⟩ := HBD.out; have d5 : (i1 : Int) ≤ (j1 : Int) := (by omega); have d6 : (j1 : Int) ≤ (c : Int) := (by omega); have d7 : (i2 : Int) ≤ (j2 : Int) := (by omega); have d8 : (j2 : Int) ≤ (d : Int) := (by omega); have d9 : ¬ c = i1 := (by omega); have d10 : ¬ d = i2 := (by omega); go_simp <;> with_reducible rfl)
    try simp only [Act.put, List.setIfInBounds_toArray, List.set_cons_zero, List.set_cons_succ]
    refine wpAnyH_take (i := 20) (oi := { dst := some 37, op := Go.Op.binOp Go.BinOp.sub 3 (Go.Operand.tmp 34) (Go.Operand.tmp 36) 3, type := 3, pos := "frag.go:89", after := #[{ on := 17, ground := Go.Ground.data }, { on := 19, ground := Go.Ground.data }, { on := 3, ground := Go.Ground.guard }], guard := some (3, true) }) (v := ?v70) rfl (by kernel_rfl) (by kernel_rfl) (by kernel_rfl) (fun _ _ _ h => h) (Or.inl ⟨by rfl, ?hy70⟩) (by assumption) ?rest70
    case hy70 => (intro w hSw; (try dsimp only at hSw); have ecpb0 := hSw.cell cpb0 id; have ecpb1 := hSw.cell cpb1 id; have ecpb2 := hSw.cell cpb2 id; have ecpb3 := hSw.cell cpb3 id; have ecpb4 := hSw.cell cpb4 id; have ecpb5 := hSw.cell cpb5 id; have ecpb6 := hSw.cell cpb6 id; have ecpb7 := hSw.cell cpb7 id; have ecpb8 := hSw.cell cpb8 id; have ecpb9 := hSw.cell cpb9 id; have ecqb0 := hSw.cell cqb0 id; have ecqb1 := hSw.cell cqb1 id; have ecqb2 := hSw.cell cqb2 id; have ecqb3 := hSw.cell cqb3 id; have ecqb4 := hSw.cell cqb4 id; have ecqb5 := hSw.cell cqb5 id; have ecqb6 := hSw.cell cqb6 id; have ecqb7 := hSw.cell cqb7 id; have ecqb8 := hSw.cell cqb8 id; have ecqb9 := hSw.cell cqb9 id; obtain ⟨a1, a2, a3, a4⟩ := HWA.out; obtain ⟨a5, a6, a7, a8⟩ := HWB.out; obtain ⟨d1, d2, d3, d4⟩ := HBD.out; have d5 : (i1 : Int) ≤ (j1 : Int) := (by omega); have d6 : (j1 : Int) ≤ (c : Int) := (by omega); have d7 : (i2 : Int) ≤ (j2 : Int) := (by omega); have d8 : (j2 : Int) ≤ (d : Int) := (by omega); have d9 : ¬ c = i1 := (by omega); have d10 : ¬ d = i2 := (by omega); go_simp <;> with_reducible rfl)
    try simp only [Act.put, List.setIfInBounds_toArray, List.set_cons_zero, List.set_cons_succ]
    refine wpAnyH_take (i := 21) (oi := { dst := some 38, op := Go.Op.move (Go.Operand.tmp 6), type := 3, pos := "frag.go:89", after := #[{ on := 3, ground := Go.Ground.guard }], guard := some (3, true) }) (v := ?v71) rfl (by kernel_rfl) (by kernel_rfl) (by kernel_rfl) (fun _ _ _ h => h) (Or.inl ⟨by rfl, ?hy71⟩) (by assumption) ?rest71
    case hy71 => (intro w hSw; (try dsimp only at hSw); have ecpb0 := hSw.cell cpb0 id; have ecpb1 := hSw.cell cpb1 id; have ecpb2 := hSw.cell cpb2 id; have ecpb3 := hSw.cell cpb3 id; have ecpb4 := hSw.cell cpb4 id; have ecpb5 := hSw.cell cpb5 id; have ecpb6 := hSw.cell cpb6 id; have ecpb7 := hSw.cell cpb7 id; have ecpb8 := hSw.cell cpb8 id; have ecpb9 := hSw.cell cpb9 id; have ecqb0 := hSw.cell cqb0 id; have ecqb1 := hSw.cell cqb1 id; have ecqb2 := hSw.cell cqb2 id; have ecqb3 := hSw.cell cqb3 id; have ecqb4 := hSw.cell cqb4 id; have ecqb5 := hSw.cell cqb5 id; have ecqb6 := hSw.cell cqb6 id; have ecqb7 := hSw.cell cqb7 id; have ecqb8 := hSw.cell cqb8 id; have ecqb9 := hSw.cell cqb9 id; obtain ⟨a1, a2, a3, a4⟩ := HWA.out; obtain ⟨a5, a6, a7, a8⟩ := HWB.out; obtain ⟨d1, d2, d3, d4⟩ := HBD.out; have d5 : (i1 : Int) ≤ (j1 : Int) := (by omega); have d6 : (j1 : Int) ≤ (c : Int) := (by omega); have d7 : (i2 : Int) ≤ (j2 : Int) := (by omega); have d8 : (j2 : Int) ≤ (d : Int) := (by omega); have d9 : ¬ c = i1 := (by omega); have d10 : ¬ d = i2 := (by omega); go_simp <;> with_reducible rfl)
    try simp only [Act.put, List.setIfInBounds_toArray, List.set_cons_zero, List.set_cons_succ]
    refine wpAnyH_take (i := 22) (oi := { dst := some 39, op := Go.Op.fieldAddr 27 (Go.Operand.tmp 3) 4, type := 0, pos := "frag.go:89", after := #[{ on := 3, ground := Go.Ground.guard }], guard := some (3, true) }) (v := ?v72) rfl (by kernel_rfl) (by kernel_rfl) (by kernel_rfl) (fun _ _ _ h => h) (Or.inl ⟨by rfl, ?hy72⟩) (by assumption) ?rest72
    case hy72 => (intro w hSw; (try dsimp only at hSw); have ecpb0 := hSw.cell cpb0 id; have ecpb1 := hSw.cell cpb1 id; have ecpb2 := hSw.cell cpb2 id; have ecpb3 := hSw.cell cpb3 id; have ecpb4 := hSw.cell cpb4 id; have ecpb5 := hSw.cell cpb5 id; have ecpb6 := hSw.cell cpb6 id; have ecpb7 := hSw.cell cpb7 id; have ecpb8 := hSw.cell cpb8 id; have ecpb9 := hSw.cell cpb9 id; have ecqb0 := hSw.cell cqb0 id; have ecqb1 := hSw.cell cqb1 id; have ecqb2 := hSw.cell cqb2 id; have ecqb3 := hSw.cell cqb3 id; have ecqb4 := hSw.cell cqb4 id; have ecqb5 := hSw.cell cqb5 id; have ecqb6 := hSw.cell cqb6 id; have ecqb7 := hSw.cell cqb7 id; have ecqb8 := hSw.cell cqb8 id; have ecqb9 := hSw.cell cqb9 id; obtain ⟨a1, a2, a3, a4⟩ := HWA.out; obtain ⟨a5, a6, a7, a8⟩ := HWB.out; obtain ⟨d1, d2, d3, d4⟩ := HBD.out; have d5 : (i1 : Int) ≤ (j1 : Int) := (by omega); have d6 : (j1 : Int) ≤ (c : Int) := (by omega); have d7 : (i2 : Int) ≤ (j2 : Int) := (by omega); have d8 : (j2 : Int) ≤ (d : Int) := (by omega); have d9 : ¬ c = i1 := (by omega); have d10 : ¬ d = i2 := (by omega); go_simp <;> with_reducible rfl)
    try simp only [Act.put, List.setIfInBounds_toArray, List.set_cons_zero, List.set_cons_succ]
    refine wpAnyH_take (i := 23) (oi := { dst := some 40, op := Go.Op.load 3 (Go.Operand.tmp 39), type := 3, pos := "frag.go:89", after := #[{ on := 22, ground := Go.Ground.data }, { on := 3, ground := Go.Ground.guard }], guard := some (3, true) }) (v := ?v73) rfl (by kernel_rfl) (by kernel_rfl) (by kernel_rfl) (fun _ _ _ h => h) (Or.inl ⟨by rfl, ?hy73⟩) (by assumption) ?rest73
    case hy73 => (intro w hSw; (try dsimp only at hSw); have ecpb0 := hSw.cell cpb0 id; have ecpb1 := hSw.cell cpb1 id; have ecpb2 := hSw.cell cpb2 id; have ecpb3 := hSw.cell cpb3 id; have ecpb4 := hSw.cell cpb4 id; have ecpb5 := hSw.cell cpb5 id; have ecpb6 := hSw.cell cpb6 id; have ecpb7 := hSw.cell cpb7 id; have ecpb8 := hSw.cell cpb8 id; have ecpb9 := hSw.cell cpb9 id; have ecqb0 := hSw.cell cqb0 id; have ecqb1 := hSw.cell cqb1 id; have ecqb2 := hSw.cell cqb2 id; have ecqb3 := hSw.cell cqb3 id; have ecqb4 := hSw.cell cqb4 id; have ecqb5 := hSw.cell cqb5 id; have ecqb6 := hSw.cell cqb6 id; have ecqb7 := hSw.cell cqb7 id; have ecqb8 := hSw.cell cqb8 id; have ecqb9 := hSw.cell cqb9 id; obtain ⟨a1, a2, a3, a4⟩ := HWA.out; obtain ⟨a5, a6, a7, a8⟩ := HWB.out; obtain ⟨d1, d2, d3, d4⟩ := HBD.out; have d5 : (i1 : Int) ≤ (j1 : Int) := (by omega); have d6 : (j1 : Int) ≤ (c : Int) := (by omega); have d7 : (i2 : Int) ≤ (j2 : Int) := (by omega); have d8 : (j2 : Int) ≤ (d : Int) := (by omega); have d9 : ¬ c = i1 := (by omega); have d10 : ¬ d = i2 := (by omega); go_simp <;> with_reducible rfl)
    try simp only [Act.put, List.setIfInBounds_toArray, List.set_cons_zero, List.set_cons_succ]
    refine wpAnyH_take (i := 24) (oi := { dst := some 41, op := Go.Op.binOp Go.BinOp.sub 3 (Go.Operand.tmp 38) (Go.Operand.tmp 40) 3, type := 3, pos := "frag.go:89", after := #[{ on := 21, ground := Go.Ground.data }, { on := 23, ground := Go.Ground.data }, { on := 3, ground := Go.Ground.guard }], guard := some (3, true) }) (v := ?v74) rfl (by kernel_rfl) (by kernel_rfl) (by kernel_rfl) (fun _ _ _ h => h) (Or.inl ⟨by rfl, ?hy74⟩) (by assumption) ?rest74
    case hy74 => (intro w hSw; (try dsimp only at hSw); have ecpb0 := hSw.cell cpb0 id; have ecpb1 := hSw.cell cpb1 id; have ecpb2 := hSw.cell cpb2 id; have ecpb3 := hSw.cell cpb3 id; have ecpb4 := hSw.cell cpb4 id; have ecpb5 := hSw.cell cpb5 id; have ecpb6 := hSw.cell cpb6 id; have ecpb7 := hSw.cell cpb7 id; have ecpb8 := hSw.cell cpb8 id; have ecpb9 := hSw.cell cpb9 id; have ecqb0 := hSw.cell cqb0 id; have ecqb1 := hSw.cell cqb1 id; have ecqb2 := hSw.cell cqb2 id; have ecqb3 := hSw.cell cqb3 id; have ecqb4 := hSw.cell cqb4 id; have ecqb5 := hSw.cell cqb5 id; have ecqb6 := hSw.cell cqb6 id; have ecqb7 := hSw.cell cqb7 id; have ecqb8 := hSw.cell cqb8 id; have ecqb9 := hSw.cell cqb9 id; obtain ⟨a1, a2, a3, a4⟩ := HWA.out; obtain ⟨a5, a6, a7, a8⟩ := HWB.out; obtain ⟨d1, d2, d3, d4⟩ := HBD.out; have d5 : (i1 : Int) ≤ (j1 : Int) := (by omega); have d6 : (j1 : Int) ≤ (c : Int) := (by omega); have d7 : (i2 : Int) ≤ (j2 : Int) := (by omega); have d8 : (j2 : Int) ≤ (d : Int) := (by omega); have d9 : ¬ c = i1 := (by omega); have d10 : ¬ d = i2 := (by omega); go_simp <;> with_reducible rfl)
    try simp only [Act.put, List.setIfInBounds_toArray, List.set_cons_zero, List.set_cons_succ]
    refine wpAnyH_take (i := 25) (oi := { dst := some 42, op := Go.Op.slice 25 (Go.Operand.tmp 33) (some (Go.Operand.tmp 37)) (some (Go.Operand.tmp 41)) none, type := 25, pos := "frag.go:89", after := #[{ on := 16, ground := Go.Ground.data }, { on := 20, ground := Go.Ground.data }, { on := 24, ground := Go.Ground.data }, { on := 3, ground := Go.Ground.guard }], guard := some (3, true) }) (v := ?v75) rfl (by kernel_rfl) (by kernel_rfl) (by kernel_rfl) (fun _ _ _ h => h) (Or.inl ⟨by rfl, ?hy75⟩) (by assumption) ?rest75
    case hy75 => (intro w hSw; (try dsimp only at hSw); have ecpb0 := hSw.cell cpb0 id; have ecpb1 := hSw.cell cpb1 id; have ecpb2 := hSw.cell cpb2 id; have ecpb3 := hSw.cell cpb3 id; have ecpb4 := hSw.cell cpb4 id; have ecpb5 := hSw.cell cpb5 id; have ecpb6 := hSw.cell cpb6 id; have ecpb7 := hSw.cell cpb7 id; have ecpb8 := hSw.cell cpb8 id; have ecpb9 := hSw.cell cpb9 id; have ecqb0 := hSw.cell cqb0 id; have ecqb1 := hSw.cell cqb1 id; have ecqb2 := hSw.cell cqb2 id; have ecqb3 := hSw.cell cqb3 id; have ecqb4 := hSw.cell cqb4 id; have ecqb5 := hSw.cell cqb5 id; have ecqb6 := hSw.cell cqb6 id; have ecqb7 := hSw.cell cqb7 id; have ecqb8 := hSw.cell cqb8 id; have ecqb9 := hSw.cell cqb9 id; obtain ⟨a1, a2, a3, a4⟩ := HWA.out; obtain ⟨a5, a6, a7, a8⟩ := HWB.out; obtain ⟨d1, d2, d3, d4⟩ := HBD.out; have d5 : (i1 : Int) ≤ (j1 : Int) := (by omega); have d6 : (j1 : Int) ≤ (c : Int) := (by omega); have d7 : (i2 : Int) ≤ (j2 : Int) := (by omega); have d8 : (j2 : Int) ≤ (d : Int) := (by omega); have d9 : ¬ c = i1 := (by omega); have d10 : ¬ d = i2 := (by omega); go_simp <;> with_reducible rfl)
    try simp only [Act.put, List.setIfInBounds_toArray, List.set_cons_zero, List.set_cons_succ]
    refine wpAnyH_ready (rs := [26]) (by kernel_rfl) (by simp) ?_
    refine AllReadyH.cons (o := { dst := some 43, op := Go.Op.call { callee := Go.Callee.value (Go.Operand.func 41), args := #[Go.Operand.tmp 31, Go.Operand.tmp 42], argTypes := #[25, 25] }, type := 4, pos := "frag.go:89", after := #[{ on := 14, ground := Go.Ground.data }, { on := 25, ground := Go.Ground.data }, { on := 3, ground := Go.Ground.chain }, { on := 3, ground := Go.Ground.guard }], guard := some (3, true) }) rfl (fun K hK => ?_) AllReadyH.nil
    go_simp
    refine (HEQ.out _ (HX0c.out.trans (by assumption))).mono ?_
    rintro e wn ⟨rfl, rfl⟩
    refine hK.out _ _ (by assumption) (fun _ => ?_)
    refine wpAnyH_take (i := 27) (oi := { dst := some 44, op := Go.Op.unOp Go.UnOp.not 4 (Go.Operand.tmp 43), type := 4, pos := "frag.go:89", after := #[{ on := 26, ground := Go.Ground.data }, { on := 3, ground := Go.Ground.guard }], guard := some (3, true) }) (v := ?v76) rfl (by kernel_rfl) (by kernel_rfl) (by kernel_rfl) (fun _ _ _ h => h) (Or.inl ⟨by rfl, ?hy76⟩) (by assumption) ?rest76
    case hy76 => (intro w hSw; (try dsimp only at hSw); have ecpb0 := hSw.cell cpb0 id; have ecpb1 := hSw.cell cpb1 id; have ecpb2 := hSw.cell cpb2 id; have ecpb3 := hSw.cell cpb3 id; have ecpb4 := hSw.cell cpb4 id; have ecpb5 := hSw.cell cpb5 id; have ecpb6 := hSw.cell cpb6 id; have ecpb7 := hSw.cell cpb7 id; have ecpb8 := hSw.cell cpb8 id; have ecpb9 := hSw.cell cpb9 id; have ecqb0 := hSw.cell cqb0 id; have ecqb1 := hSw.cell cqb1 id; have ecqb2 := hSw.cell cqb2 id; have ecqb3 := hSw.cell cqb3 id; have ecqb4 := hSw.cell cqb4 id; have ecqb5 := hSw.cell cqb5 id; have ecqb6 := hSw.cell cqb6 id; have ecqb7 := hSw.cell cqb7 id; have ecqb8 := hSw.cell cqb8 id; have ecqb9 := hSw.cell cqb9 id; obtain ⟨a1, a2, a3, a4⟩ := HWA.out; obtain ⟨a5, a6, a7, a8⟩ := HWB.out; obtain ⟨d1, d2, d3, d4⟩ := HBD.out; have d5 : (i1 : Int) ≤ (j1 : Int) := (by omega); have d6 : (j1 : Int) ≤ (c : Int) := (by omega); have d7 : (i2 : Int) ≤ (j2 : Int) := (by omega); have d8 : (j2 : Int) ≤ (d : Int) := (by omega); have d9 : ¬ c = i1 := (by omega); have d10 : ¬ d = i2 := (by omega); go_simp <;> with_reducible rfl)
    try simp only [Act.put, List.setIfInBounds_toArray, List.set_cons_zero, List.set_cons_succ]
    refine wpAnyH_take (i := 28) (oi := { dst := some 45, op := Go.Op.pick (Go.Operand.tmp 20) (Go.Operand.tmp 44) (Go.Operand.const (Go.Value.bool false)), type := 4, pos := "frag.go:89", after := #[{ on := 3, ground := Go.Ground.data }, { on := 27, ground := Go.Ground.data }], guard := none }) (v := ?v77) rfl (by kernel_rfl) (by kernel_rfl) (by kernel_rfl) (fun _ _ _ h => h) (Or.inl ⟨by rfl, ?hy77⟩) (by assumption) ?rest77
    case hy77 => (intro w hSw; (try dsimp only at hSw); have ecpb0 := hSw.cell cpb0 id; have ecpb1 := hSw.cell cpb1 id; have ecpb2 := hSw.cell cpb2 id; have ecpb3 := hSw.cell cpb3 id; have ecpb4 := hSw.cell cpb4 id; have ecpb5 := hSw.cell cpb5 id; have ecpb6 := hSw.cell cpb6 id; have ecpb7 := hSw.cell cpb7 id; have ecpb8 := hSw.cell cpb8 id; have ecpb9 := hSw.cell cpb9 id; have ecqb0 := hSw.cell cqb0 id; have ecqb1 := hSw.cell cqb1 id; have ecqb2 := hSw.cell cqb2 id; have ecqb3 := hSw.cell cqb3 id; have ecqb4 := hSw.cell cqb4 id; have ecqb5 := hSw.cell cqb5 id; have ecqb6 := hSw.cell cqb6 id; have ecqb7 := hSw.cell cqb7 id; have ecqb8 := hSw.cell cqb8 id; have ecqb9 := hSw.cell cqb9 id; obtain ⟨a1, a2, a3, a4⟩ := HWA.out; obtain ⟨a5, a6, a7, a8⟩ := HWB.out; obtain ⟨d1, d2, d3, d4⟩ := HBD.out; have d5 : (i1 : Int) ≤ (j1 : Int) := (by omega); have d6 : (j1 : Int) ≤ (c : Int) := (by omega); have d7 : (i2 : Int) ≤ (j2 : Int) := (by omega); have d8 : (j2 : Int) ≤ (d : Int) := (by omega); have d9 : ¬ c = i1 := (by omega); have d10 : ¬ d = i2 := (by omega); go_simp <;> with_reducible rfl)
    try simp only [Act.put, List.setIfInBounds_toArray, List.set_cons_zero, List.set_cons_succ]
    refine wpAnyH_done (by kernel_rfl) ?_ _
    clear cpb0 cpb1 cpb2 cpb3 cpb4 cpb5 cpb6 cpb7 cpb8 cpb9 cqb0 cqb1 cqb2 cqb3 cqb4 cqb5 cqb6 cqb7 cqb8 cqb9 hlt
    generalize wc.drew = wd at hS0 ⊢
    have hx := hS0
    clear hS0
    have HX_wd := Lib.hid hx
    clear hx
    go_wp2_with fail
    go_ret
    exact ⟨rfl, (((HX_w1.out.trans HX_w2.out).trans HX_wc.out).trans HX_wd.out)⟩
set_option maxRecDepth 100000 in
set_option maxHeartbeats 4000000 in
theorem fights_eq (P Q : Nat → Prop) (p q : Pk) (A B : Option Addr) (c d : Nat) (w : World) (hp : p.sm) (hq : q.sm) (hrp : RB w P (.slice A p.b.length c) p.b) (hrq : RB w Q (.slice B q.b.length d) q.b) (h : fro p q < til p q) (h2 : p.cut (fro p q) (til p q) = q.cut (fro p q) (til p q)) :
    Calls Tryd.prog 31 #[pkv p (.slice A p.b.length c), pkv q (.slice B q.b.length d)] w fun e w' => e = .returned (.bool (pastB p q || pastB q p)) ∧ Ex (fun _ => False) w w' := by
  obtain ⟨hz, hi1, hi2, hi3, hi4⟩ : fro p q < til p q ∧ p.off ≤ fro p q ∧ q.off ≤ fro p q ∧ til p q ≤ p.en ∧ til p q ≤ q.en := by
    refine ⟨h, ?_, ?_, ?_, ?_⟩
    · unfold fro; split <;> omega
    · unfold fro; split <;> omega
    · unfold til; split <;> omega
    · unfold til; split <;> omega
  obtain ⟨b1, o1, rfl⟩ : ∃ b off, A = some ⟨b, off, none⟩ := by
    obtain ⟨_, A', c', e, _, hcell⟩ := hrp
    obtain ⟨b, off, e2, _⟩ := hcell 0 (by unfold Pk.en at hi3; omega)
    injection e with e1
    exact ⟨b, off, e1.trans e2⟩
  obtain ⟨b2, o2, rfl⟩ : ∃ b off, B = some ⟨b, off, none⟩ := by
    obtain ⟨_, A', c', e, _, hcell⟩ := hrq
    obtain ⟨b, off, e2, _⟩ := hcell 0 (by unfold Pk.en at hi4; omega)
    injection e with e1
    exact ⟨b, off, e1.trans e2⟩
  have hc1 : p.b.length ≤ c := by obtain ⟨_, _, _, e, h, _⟩ := hrp; injection e with _ _ e3; rw [e3]; exact h
  have hc2 : q.b.length ≤ d := by obtain ⟨_, _, _, e, h, _⟩ := hrq; injection e with _ _ e3; rw [e3]; exact h
  obtain ⟨i1, hi1e⟩ : ∃ i, (fro p q - p.off).toNat = i := ⟨_, rfl⟩
  obtain ⟨j1, hj1e⟩ : ∃ i, (til p q - p.off).toNat = i := ⟨_, rfl⟩
  obtain ⟨i2, hi2e⟩ : ∃ i, (fro p q - q.off).toNat = i := ⟨_, rfl⟩
  obtain ⟨j2, hj2e⟩ : ∃ i, (til p q - q.off).toNat = i := ⟨_, rfl⟩
  obtain ⟨⟨p0, p1⟩, p2⟩ := hp
  obtain ⟨⟨q0, q1⟩, q2⟩ := hq
  have hp : p.sm := ⟨⟨p0, p1⟩, p2⟩
  have hq : q.sm := ⟨⟨q0, q1⟩, q2⟩
  have hen1 : p.en ≤ 1001000000 := by unfold Pk.en; omega
  have hen2 : q.en ≤ 1001000000 := by unfold Pk.en; omega
  obtain ⟨wa1, wa2⟩ := wrap_d (a := fro p q) (b := p.off) (by omega) (by omega) hi1e hi1
  obtain ⟨wb1, wb2⟩ := wrap_d (a := til p q) (b := p.off) (by omega) (by omega) hj1e (by omega)
  obtain ⟨wc1, wc2⟩ := wrap_d (a := fro p q) (b := q.off) (by omega) (by omega) hi2e hi2
  obtain ⟨wd1, wd2⟩ := wrap_d (a := til p q) (b := q.off) (by omega) (by omega) hj2e (by omega)
  have hb1 : i1 < j1 ∧ j1 ≤ p.b.length := by unfold Pk.en at hi3; omega
  have hb2 : i2 < j2 ∧ j2 ≤ q.b.length := by unfold Pk.en at hi4; omega
  have heq : ∀ W, Ex (fun _ => False) w W → Calls Tryd.prog 41 #[.slice (some ⟨b1, o1 + i1, none⟩) (j1 - i1) (c - i1), .slice (some ⟨b2, o2 + i2, none⟩) (j2 - i2) (d - i2)] W fun e w' => e = .returned (.bool true) ∧ w' = W := by
    intro W hx
    refine (bequal_any P Q _ _ _ _ W ((hrp.keep hx (fun _ _ _ => id)).slice i1 j1 (by omega) hb1.2) ((hrq.keep hx (fun _ _ _ => id)).slice i2 j2 (by omega) hb2.2)).mono ?_
    rintro e w' ⟨rfl, rfl⟩
    unfold Pk.cut at h2
    rw [hi1e, hj1e, hi2e, hj2e] at h2
    exact ⟨by rw [decide_eq_true h2], rfl⟩
  have HEQ := Lib.hid heq
  clear heq h2
  have h1 := fun w => end_any p (some ⟨b1, o1, none⟩) c w hp.1 hp.2
  have h2 := fun w => end_any q (some ⟨b2, o2, none⟩) d w hq.1 hq.2
  have h3 := fun w => past_any p q (some ⟨b1, o1, none⟩) (some ⟨b2, o2, none⟩) c d w hp hq
  have h4 := fun w => past_any q p (some ⟨b2, o2, none⟩) (some ⟨b1, o1, none⟩) d c w hq hp
  have hfr : (if p.off < q.off then q.off else p.off) = fro p q := rfl
  have hti : (if q.en < p.en then q.en else p.en) = til p q := rfl
  generalize fro p q = fr at *
  generalize til p q = ti at *
  generalize pastB p q = r1 at *
  generalize pastB q p = r2 at *
  generalize p.en = X at *
  generalize q.en = Y at *
  obtain ⟨xtos, xid, xdf, xmf, xoff, xttl, xpr, xsrc, xdst, xb⟩ := p
  obtain ⟨ytos, yid, ydf, ymf, yoff, yttl, ypr, ysrc, ydst, yb⟩ := q
  have H1 := Lib.hid h1
  have H2 := Lib.hid h2
  have H3 := Lib.hid h3
  have H4 := Lib.hid h4
  have HFR := Lib.hid hfr
  have HTI := Lib.hid hti
  have HLT := Lib.hid h
  clear h1 h2 h3 h4 hfr hti h hp hq hrp hrq
  have HWA := Lib.hid (show wrap64 (fr - xoff) = (i1 : Int) ∧ wrap64 (ti - xoff) = (j1 : Int) ∧ wrap64 (fr - yoff) = (i2 : Int) ∧ wrap64 (ti - yoff) = (j2 : Int) from ⟨wa1, wb1, wc1, wd1⟩)
  have HWB := Lib.hid (show IntKind.i64.wrap (fr - xoff) = (i1 : Int) ∧ IntKind.i64.wrap (ti - xoff) = (j1 : Int) ∧ IntKind.i64.wrap (fr - yoff) = (i2 : Int) ∧ IntKind.i64.wrap (ti - yoff) = (j2 : Int) from ⟨wa2, wb2, wc2, wd2⟩)
  have HBD := Lib.hid (show i1 < j1 ∧ j1 ≤ c ∧ i2 < j2 ∧ j2 ≤ d by simp only at hc1 hc2 hb1 hb2; omega)
  clear wa1 wb1 wc1 wd1 wa2 wb2 wc2 wd2 hz hi1 hi2 hi3 hi4 hc1 hc2 hi1e hj1e hi2e hj2e p0 p1 p2 q0 q1 q2 hen1 hen2 hb1 hb2
  show Calls Tryd.prog 31 #[.agg #[.int .u8 xtos, .int .u16 xid, .bool xdf, .bool xmf, .int .i64 xoff, .int .u8 xttl, .int .u8 xpr, .int .u32 xsrc, .int .u32 xdst, .slice (some ⟨b1, o1, none⟩) xb.length c], .agg #[.int .u8 ytos, .int .u16 yid, .bool ydf, .bool ymf, .int .i64 yoff, .int .u8 yttl, .int .u8 ypr, .int .u32 ysrc, .int .u32 ydst, .slice (some ⟨b2, o2, none⟩) yb.length d]] w _
  go_enter Tryd.func31, Tryd.ntmps31
  go_upto_region 1 with fail
  have hx : Ex (fun _ => False) w (w.alloc (.cells #[.int .u8 xtos, .int .u16 xid, .bool xdf, .bool xmf, .int .i64 xoff, .int .u8 xttl, .int .u8 xpr, .int .u32 xsrc, .int .u32 xdst, .slice (some ⟨b1, o1, none⟩) xb.length c] 27)) := (Ex.refl _ w).alloc _
  have hb : (w.alloc (.cells #[.int .u8 xtos, .int .u16 xid, .bool xdf, .bool xmf, .int .i64 xoff, .int .u8 xttl, .int .u8 xpr, .int .u32 xsrc, .int .u32 xdst, .slice (some ⟨b1, o1, none⟩) xb.length c] 27)).heap[w.heap.size]? = some (.cells #[.int .u8 xtos, .int .u16 xid, .bool xdf, .bool xmf, .int .i64 xoff, .int .u8 xttl, .int .u8 xpr, .int .u32 xsrc, .int .u32 xdst, .slice (some ⟨b1, o1, none⟩) xb.length c] 27) := heap_alloc_new w _
  have hs1 : (w.alloc (.cells #[.int .u8 xtos, .int .u16 xid, .bool xdf, .bool xmf, .int .i64 xoff, .int .u8 xttl, .int .u8 xpr, .int .u32 xsrc, .int .u32 xdst, .slice (some ⟨b1, o1, none⟩) xb.length c] 27)).heap.size = w.heap.size + 1 := by simp
  obtain ⟨pb, hpb⟩ : ∃ pb, pb = w.heap.size := ⟨_, rfl⟩
  have hb_pb : w.heap.size ≤ pb := by omega
  rw [← hpb] at hb hs1 
  try simp only [← hpb]
  generalize w.alloc (.cells #[.int .u8 xtos, .int .u16 xid, .bool xdf, .bool xmf, .int .i64 xoff, .int .u8 xttl, .int .u8 xpr, .int .u32 xsrc, .int .u32 xdst, .slice (some ⟨b1, o1, none⟩) xb.length c] 27) = w1 at hx hb  hs1 ⊢
  try simp only [← hs1]
  clear hs1
  clear hpb
  have HX_w1 := Lib.hid hx
  clear hx
  have B_pb := Lib.hid hb
  clear hb
  have hx : Ex (fun _ => False) w1 (w1.alloc (.cells #[.int .u8 ytos, .int .u16 yid, .bool ydf, .bool ymf, .int .i64 yoff, .int .u8 yttl, .int .u8 ypr, .int .u32 ysrc, .int .u32 ydst, .slice (some ⟨b2, o2, none⟩) yb.length d] 27)) := (Ex.refl _ w1).alloc _
  have hb : (w1.alloc (.cells #[.int .u8 ytos, .int .u16 yid, .bool ydf, .bool ymf, .int .i64 yoff, .int .u8 yttl, .int .u8 ypr, .int .u32 ysrc, .int .u32 ydst, .slice (some ⟨b2, o2, none⟩) yb.length d] 27)).heap[w1.heap.size]? = some (.cells #[.int .u8 ytos, .int .u16 yid, .bool ydf, .bool ymf, .int .i64 yoff, .int .u8 yttl, .int .u8 ypr, .int .u32 ysrc, .int .u32 ydst, .slice (some ⟨b2, o2, none⟩) yb.length d] 27) := heap_alloc_new w1 _
  obtain ⟨qb, hqb⟩ : ∃ qb, qb = w1.heap.size := ⟨_, rfl⟩
  have hb_qb : w1.heap.size ≤ qb := by omega
  rw [← hqb] at hb
  try simp only [← hqb]
  generalize w1.alloc (.cells #[.int .u8 ytos, .int .u16 yid, .bool ydf, .bool ymf, .int .i64 yoff, .int .u8 yttl, .int .u8 ypr, .int .u32 ysrc, .int .u32 ydst, .slice (some ⟨b2, o2, none⟩) yb.length d] 27) = w2 at hx hb ⊢
  clear hqb
  have HX_w2 := Lib.hid hx
  clear hx
  have B_qb := Lib.hid hb
  clear hb
  replace B_pb := Lib.hid ((HX_w2.out.block pb (row_lt B_pb.out) id).trans B_pb.out)
  have cpb0 := row_cell (k := 0) (v := .int .u8 xtos) B_pb.out rfl
  have cpb1 := row_cell (k := 1) (v := .int .u16 xid) B_pb.out rfl
  have cpb2 := row_cell (k := 2) (v := .bool xdf) B_pb.out rfl
  have cpb3 := row_cell (k := 3) (v := .bool xmf) B_pb.out rfl
  have cpb4 := row_cell (k := 4) (v := .int .i64 xoff) B_pb.out rfl
  have cpb5 := row_cell (k := 5) (v := .int .u8 xttl) B_pb.out rfl
  have cpb6 := row_cell (k := 6) (v := .int .u8 xpr) B_pb.out rfl
  have cpb7 := row_cell (k := 7) (v := .int .u32 xsrc) B_pb.out rfl
  have cpb8 := row_cell (k := 8) (v := .int .u32 xdst) B_pb.out rfl
  have cpb9 := row_cell (k := 9) (v := .slice (some ⟨b1, o1, none⟩) xb.length c) B_pb.out rfl
  have cqb0 := row_cell (k := 0) (v := .int .u8 ytos) B_qb.out rfl
  have cqb1 := row_cell (k := 1) (v := .int .u16 yid) B_qb.out rfl
  have cqb2 := row_cell (k := 2) (v := .bool ydf) B_qb.out rfl
  have cqb3 := row_cell (k := 3) (v := .bool ymf) B_qb.out rfl
  have cqb4 := row_cell (k := 4) (v := .int .i64 yoff) B_qb.out rfl
  have cqb5 := row_cell (k := 5) (v := .int .u8 yttl) B_qb.out rfl
  have cqb6 := row_cell (k := 6) (v := .int .u8 ypr) B_qb.out rfl
  have cqb7 := row_cell (k := 7) (v := .int .u32 ysrc) B_qb.out rfl
  have cqb8 := row_cell (k := 8) (v := .int .u32 ydst) B_qb.out rfl
  have cqb9 := row_cell (k := 9) (v := .slice (some ⟨b2, o2, none⟩) yb.length d) B_qb.out rfl
  go_cut [5, 6] (fun x y wx => x = .int .i64 fr ∧ y = .int .i64 ti ∧ Hid (Ex (fun _ => False) w2 wx))
  case first =>
    have hS0 : Ex (fun _ => False) w2 w2.drew := (Ex.refl _ w2).drew
    refine wp_region_held_drew (S := fun W => Ex (fun _ => False) w2 W) (by kernel_rfl) hS0 (fun _ => ?_)
    refine wpAnyH_take (i := 0) (oi := { dst := some 7, op := Go.Op.fieldAddr 27 (Go.Operand.tmp 2) 4, type := 0, pos := "frag.go:88", after := #[], guard := none }) (v := ?v78) rfl (by kernel_rfl) (by kernel_rfl) (by kernel_rfl) (fun _ _ _ h => h) (Or.inl ⟨by rfl, ?hy78⟩) (by assumption) ?rest78
    case hy78 => (intro w hSw; (try dsimp only at hSw); have ecpb0 := hSw.cell cpb0 id; have ecpb1 := hSw.cell cpb1 id; have ecpb2 := hSw.cell cpb2 id; have ecpb3 := hSw.cell cpb3 id; have ecpb4 := hSw.cell cpb4 id; have ecpb5 := hSw.cell cpb5 id; have ecpb6 := hSw.cell cpb6 id; have ecpb7 := hSw.cell cpb7 id; have ecpb8 := hSw.cell cpb8 id; have ecpb9 := hSw.cell cpb9 id; have ecqb0 := hSw.cell cqb0 id; have ecqb1 := hSw.cell cqb1 id; have ecqb2 := hSw.cell cqb2 id; have ecqb3 := hSw.cell cqb3 id; have ecqb4 := hSw.cell cqb4 id; have ecqb5 := hSw.cell cqb5 id; have ecqb6 := hSw.cell cqb6 id; have ecqb7 := hSw.cell cqb7 id; have ecqb8 := hSw.cell cqb8 id; have ecqb9 := hSw.cell cqb9 id; have hfr := HFR.out; have hti := HTI.out; go_simp <;> with_reducible rfl)
    try simp only [Act.put, List.setIfInBounds_toArray, List.set_cons_zero, List.set_cons_succ]
    refine wpAnyH_take (i := 1) (oi := { dst := some 8, op := Go.Op.load 3 (Go.Operand.tmp 7), type := 3, pos := "frag.go:88", after := #[{ on := 0, ground := Go.Ground.data }], guard := none }) (v := ?v79) rfl (by kernel_rfl) (by kernel_rfl) (by kernel_rfl) (fun _ _ _ h => h) (Or.inl ⟨by rfl, ?hy79⟩) (by assumption) ?rest79
    case hy79 => (intro w hSw; (try dsimp only at hSw); have ecpb0 := hSw.cell cpb0 id; have ecpb1 := hSw.cell cpb1 id; have ecpb2 := hSw.cell cpb2 id; have ecpb3 := hSw.cell cpb3 id; have ecpb4 := hSw.cell cpb4 id; have ecpb5 := hSw.cell cpb5 id; have ecpb6 := hSw.cell cpb6 id; have ecpb7 := hSw.cell cpb7 id; have ecpb8 := hSw.cell cpb8 id; have ecpb9 := hSw.cell cpb9 id; have ecqb0 := hSw.cell cqb0 id; have ecqb1 := hSw.cell cqb1 id; have ecqb2 := hSw.cell cqb2 id; have ecqb3 := hSw.cell cqb3 id; have ecqb4 := hSw.cell cqb4 id; have ecqb5 := hSw.cell cqb5 id; have ecqb6 := hSw.cell cqb6 id; have ecqb7 := hSw.cell cqb7 id; have ecqb8 := hSw.cell cqb8 id; have ecqb9 := hSw.cell cqb9 id; have hfr := HFR.out; have hti := HTI.out; go_simp <;> with_reducible rfl)
    try simp only [Act.put, List.setIfInBounds_toArray, List.set_cons_zero, List.set_cons_succ]
    refine wpAnyH_take (i := 2) (oi := { dst := some 9, op := Go.Op.fieldAddr 27 (Go.Operand.tmp 3) 4, type := 0, pos := "frag.go:88", after := #[], guard := none }) (v := ?v80) rfl (by kernel_rfl) (by kernel_rfl) (by kernel_rfl) (fun _ _ _ h => h) (Or.inl ⟨by rfl, ?hy80⟩) (by assumption) ?rest80
    case hy80 => (intro w hSw; (try dsimp only at hSw); have ecpb0 := hSw.cell cpb0 id; have ecpb1 := hSw.cell cpb1 id; have ecpb2 := hSw.cell cpb2 id; have ecpb3 := hSw.cell cpb3 id; have ecpb4 := hSw.cell cpb4 id; have ecpb5 := hSw.cell cpb5 id; have ecpb6 := hSw.cell cpb6 id; have ecpb7 := hSw.cell cpb7 id; have ecpb8 := hSw.cell cpb8 id; have ecpb9 := hSw.cell cpb9 id; have ecqb0 := hSw.cell cqb0 id; have ecqb1 := hSw.cell cqb1 id; have ecqb2 := hSw.cell cqb2 id; have ecqb3 := hSw.cell cqb3 id; have ecqb4 := hSw.cell cqb4 id; have ecqb5 := hSw.cell cqb5 id; have ecqb6 := hSw.cell cqb6 id; have ecqb7 := hSw.cell cqb7 id; have ecqb8 := hSw.cell cqb8 id; have ecqb9 := hSw.cell cqb9 id; have hfr := HFR.out; have hti := HTI.out; go_simp <;> with_reducible rfl)
    try simp only [Act.put, List.setIfInBounds_toArray, List.set_cons_zero, List.set_cons_succ]
    refine wpAnyH_take (i := 3) (oi := { dst := some 10, op := Go.Op.load 3 (Go.Operand.tmp 9), type := 3, pos := "frag.go:88", after := #[{ on := 2, ground := Go.Ground.data }], guard := none }) (v := ?v81) rfl (by kernel_rfl) (by kernel_rfl) (by kernel_rfl) (fun _ _ _ h => h) (Or.inl ⟨by rfl, ?hy81⟩) (by assumption) ?rest81
    case hy81 => (intro w hSw; (try dsimp only at hSw); have ecpb0 := hSw.cell cpb0 id; have ecpb1 := hSw.cell cpb1 id; have ecpb2 := hSw.cell cpb2 id; have ecpb3 := hSw.cell cpb3 id; have ecpb4 := hSw.cell cpb4 id; have ecpb5 := hSw.cell cpb5 id; have ecpb6 := hSw.cell cpb6 id; have ecpb7 := hSw.cell cpb7 id; have ecpb8 := hSw.cell cpb8 id; have ecpb9 := hSw.cell cpb9 id; have ecqb0 := hSw.cell cqb0 id; have ecqb1 := hSw.cell cqb1 id; have ecqb2 := hSw.cell cqb2 id; have ecqb3 := hSw.cell cqb3 id; have ecqb4 := hSw.cell cqb4 id; have ecqb5 := hSw.cell cqb5 id; have ecqb6 := hSw.cell cqb6 id; have ecqb7 := hSw.cell cqb7 id; have ecqb8 := hSw.cell cqb8 id; have ecqb9 := hSw.cell cqb9 id; have hfr := HFR.out; have hti := HTI.out; go_simp <;> with_reducible rfl)
    try simp only [Act.put, List.setIfInBounds_toArray, List.set_cons_zero, List.set_cons_succ]
    refine wpAnyH_take (i := 4) (oi := { dst := some 11, op := Go.Op.call { callee := Go.Callee.builtin Go.Builtin.max, args := #[Go.Operand.tmp 8, Go.Operand.tmp 10], argTypes := #[3, 3] }, type := 3, pos := "frag.go:88", after := #[{ on := 1, ground := Go.Ground.data }, { on := 3, ground := Go.Ground.data }], guard := none }) (v := ?v82) rfl (by kernel_rfl) (by kernel_rfl) (by kernel_rfl) (fun _ _ _ h => h) (Or.inl ⟨by rfl, ?hy82⟩) (by assumption) ?rest82
    case hy82 => (intro w hSw; (try dsimp only at hSw); have ecpb0 := hSw.cell cpb0 id; have ecpb1 := hSw.cell cpb1 id; have ecpb2 := hSw.cell cpb2 id; have ecpb3 := hSw.cell cpb3 id; have ecpb4 := hSw.cell cpb4 id; have ecpb5 := hSw.cell cpb5 id; have ecpb6 := hSw.cell cpb6 id; have ecpb7 := hSw.cell cpb7 id; have ecpb8 := hSw.cell cpb8 id; have ecpb9 := hSw.cell cpb9 id; have ecqb0 := hSw.cell cqb0 id; have ecqb1 := hSw.cell cqb1 id; have ecqb2 := hSw.cell cqb2 id; have ecqb3 := hSw.cell cqb3 id; have ecqb4 := hSw.cell cqb4 id; have ecqb5 := hSw.cell cqb5 id; have ecqb6 := hSw.cell cqb6 id; have ecqb7 := hSw.cell cqb7 id; have ecqb8 := hSw.cell cqb8 id; have ecqb9 := hSw.cell cqb9 id; have hfr := HFR.out; have hti := HTI.out; go_simp <;> with_reducible rfl)
    try simp only [Act.put, List.setIfInBounds_toArray, List.set_cons_zero, List.set_cons_succ]
    refine wpAnyH_take (i := 5) (oi := { dst := some 12, op := Go.Op.load 27 (Go.Operand.tmp 2), type := 27, pos := "frag.go:88", after := #[], guard := none }) (v := ?v83) rfl (by kernel_rfl) (by kernel_rfl) (by kernel_rfl) (fun _ _ _ h => h) (Or.inl ⟨by rfl, ?hy83⟩) (by assumption) ?rest83
    case hy83 => (intro w hSw; (try dsimp only at hSw); have ecpb0 := hSw.cell cpb0 id; have ecpb1 := hSw.cell cpb1 id; have ecpb2 := hSw.cell cpb2 id; have ecpb3 := hSw.cell cpb3 id; have ecpb4 := hSw.cell cpb4 id; have ecpb5 := hSw.cell cpb5 id; have ecpb6 := hSw.cell cpb6 id; have ecpb7 := hSw.cell cpb7 id; have ecpb8 := hSw.cell cpb8 id; have ecpb9 := hSw.cell cpb9 id; have ecqb0 := hSw.cell cqb0 id; have ecqb1 := hSw.cell cqb1 id; have ecqb2 := hSw.cell cqb2 id; have ecqb3 := hSw.cell cqb3 id; have ecqb4 := hSw.cell cqb4 id; have ecqb5 := hSw.cell cqb5 id; have ecqb6 := hSw.cell cqb6 id; have ecqb7 := hSw.cell cqb7 id; have ecqb8 := hSw.cell cqb8 id; have ecqb9 := hSw.cell cqb9 id; have hfr := HFR.out; have hti := HTI.out; go_simp <;> with_reducible rfl)
    try simp only [Act.put, List.setIfInBounds_toArray, List.set_cons_zero, List.set_cons_succ]
    refine wpAnyH_take (i := 7) (oi := { dst := some 14, op := Go.Op.load 27 (Go.Operand.tmp 3), type := 27, pos := "frag.go:88", after := #[], guard := none }) (v := ?v84) rfl (by kernel_rfl) (by kernel_rfl) (by kernel_rfl) (fun _ _ _ h => h) (Or.inl ⟨by rfl, ?hy84⟩) (by assumption) ?rest84
    case hy84 => (intro w hSw; (try dsimp only at hSw); have ecpb0 := hSw.cell cpb0 id; have ecpb1 := hSw.cell cpb1 id; have ecpb2 := hSw.cell cpb2 id; have ecpb3 := hSw.cell cpb3 id; have ecpb4 := hSw.cell cpb4 id; have ecpb5 := hSw.cell cpb5 id; have ecpb6 := hSw.cell cpb6 id; have ecpb7 := hSw.cell cpb7 id; have ecpb8 := hSw.cell cpb8 id; have ecpb9 := hSw.cell cpb9 id; have ecqb0 := hSw.cell cqb0 id; have ecqb1 := hSw.cell cqb1 id; have ecqb2 := hSw.cell cqb2 id; have ecqb3 := hSw.cell cqb3 id; have ecqb4 := hSw.cell cqb4 id; have ecqb5 := hSw.cell cqb5 id; have ecqb6 := hSw.cell cqb6 id; have ecqb7 := hSw.cell cqb7 id; have ecqb8 := hSw.cell cqb8 id; have ecqb9 := hSw.cell cqb9 id; have hfr := HFR.out; have hti := HTI.out; go_simp <;> with_reducible rfl)
    try simp only [Act.put, List.setIfInBounds_toArray, List.set_cons_zero, List.set_cons_succ]
    refine wpAnyH_ready (rs := [6]) (by kernel_rfl) (by simp) ?_
    refine AllReadyH.cons (o := { dst := some 13, op := Go.Op.call { callee := Go.Callee.value (Go.Operand.func 40), args := #[Go.Operand.tmp 12], argTypes := #[27] }, type := 3, pos := "frag.go:88", after := #[{ on := 5, ground := Go.Ground.data }], guard := none }) rfl (fun K hK => ?_) AllReadyH.nil
    go_simp
    refine (H1.out _).mono ?_
    rintro e wn ⟨rfl, hx⟩
    have hS1 : Ex (fun _ => False) w2 wn := Ex.trans (by assumption) hx
    clear hx
    refine hK.out _ _ hS1 (fun _ => ?_)
    refine wpAnyH_ready (rs := [8]) (by kernel_rfl) (by simp) ?_
    refine AllReadyH.cons (o := { dst := some 15, op := Go.Op.call { callee := Go.Callee.value (Go.Operand.func 40), args := #[Go.Operand.tmp 14], argTypes := #[27] }, type := 3, pos := "frag.go:88", after := #[{ on := 7, ground := Go.Ground.data }, { on := 6, ground := Go.Ground.chain }], guard := none }) rfl (fun K hK => ?_) AllReadyH.nil
    go_simp
    refine (H2.out _).mono ?_
    rintro e wn ⟨rfl, hx⟩
    have hS1 : Ex (fun _ => False) w2 wn := Ex.trans (by assumption) hx
    clear hx
    refine hK.out _ _ hS1 (fun _ => ?_)
    refine wpAnyH_take (i := 9) (oi := { dst := some 16, op := Go.Op.call { callee := Go.Callee.builtin Go.Builtin.min, args := #[Go.Operand.tmp 13, Go.Operand.tmp 15], argTypes := #[3, 3] }, type := 3, pos := "frag.go:88", after := #[{ on := 6, ground := Go.Ground.data }, { on := 8, ground := Go.Ground.data }], guard := none }) (v := ?v85) rfl (by kernel_rfl) (by kernel_rfl) (by kernel_rfl) (fun _ _ _ h => h) (Or.inl ⟨by rfl, ?hy85⟩) (by assumption) ?rest85
    case hy85 => (intro w hSw; (try dsimp only at hSw); have ecpb0 := hSw.cell cpb0 id; have ecpb1 := hSw.cell cpb1 id; have ecpb2 := hSw.cell cpb2 id; have ecpb3 := hSw.cell cpb3 id; have ecpb4 := hSw.cell cpb4 id; have ecpb5 := hSw.cell cpb5 id; have ecpb6 := hSw.cell cpb6 id; have ecpb7 := hSw.cell cpb7 id; have ecpb8 := hSw.cell cpb8 id; have ecpb9 := hSw.cell cpb9 id; have ecqb0 := hSw.cell cqb0 id; have ecqb1 := hSw.cell cqb1 id; have ecqb2 := hSw.cell cqb2 id; have ecqb3 := hSw.cell cqb3 id; have ecqb4 := hSw.cell cqb4 id; have ecqb5 := hSw.cell cqb5 id; have ecqb6 := hSw.cell cqb6 id; have ecqb7 := hSw.cell cqb7 id; have ecqb8 := hSw.cell cqb8 id; have ecqb9 := hSw.cell cqb9 id; have hfr := HFR.out; have hti := HTI.out; go_simp <;> with_reducible rfl)
    try simp only [Act.put, List.setIfInBounds_toArray, List.set_cons_zero, List.set_cons_succ]
    refine wpAnyH_take (i := 10) (oi := { dst := some 5, op := Go.Op.assign (Go.Operand.tmp 11), type := 3, pos := "frag.go:88", after := #[{ on := 4, ground := Go.Ground.data }, { on := 8, ground := Go.Ground.chain }, { on := 0, ground := Go.Ground.phase }, { on := 1, ground := Go.Ground.phase }, { on := 2, ground := Go.Ground.phase }, { on := 3, ground := Go.Ground.phase }, { on := 4, ground := Go.Ground.phase }, { on := 5, ground := Go.Ground.textOnly Go.Departure.lateStores }, { on := 6, ground := Go.Ground.textOnly Go.Departure.lateStoresUnsure }, { on := 7, ground := Go.Ground.textOnly Go.Departure.lateStores }, { on := 8, ground := Go.Ground.textOnly Go.Departure.lateStoresUnsure }, { on := 9, ground := Go.Ground.textOnly Go.Departure.lateStoresUnsure }], guard := none }) (v := ?v86) rfl (by kernel_rfl) (by kernel_rfl) (by kernel_rfl) (fun _ _ _ h => h) (Or.inl ⟨by rfl, ?hy86⟩) (by assumption) ?rest86
    case hy86 => (intro w hSw; (try dsimp only at hSw); have ecpb0 := hSw.cell cpb0 id; have ecpb1 := hSw.cell cpb1 id; have ecpb2 := hSw.cell cpb2 id; have ecpb3 := hSw.cell cpb3 id; have ecpb4 := hSw.cell cpb4 id; have ecpb5 := hSw.cell cpb5 id; have ecpb6 := hSw.cell cpb6 id; have ecpb7 := hSw.cell cpb7 id; have ecpb8 := hSw.cell cpb8 id; have ecpb9 := hSw.cell cpb9 id; have ecqb0 := hSw.cell cqb0 id; have ecqb1 := hSw.cell cqb1 id; have ecqb2 := hSw.cell cqb2 id; have ecqb3 := hSw.cell cqb3 id; have ecqb4 := hSw.cell cqb4 id; have ecqb5 := hSw.cell cqb5 id; have ecqb6 := hSw.cell cqb6 id; have ecqb7 := hSw.cell cqb7 id; have ecqb8 := hSw.cell cqb8 id; have ecqb9 := hSw.cell cqb9 id; have hfr := HFR.out; have hti := HTI.out; go_simp <;> with_reducible rfl)
    try simp only [Act.put, List.setIfInBounds_toArray, List.set_cons_zero, List.set_cons_succ]
    refine wpAnyH_take (i := 11) (oi := { dst := some 6, op := Go.Op.assign (Go.Operand.tmp 16), type := 3, pos := "frag.go:88", after := #[{ on := 9, ground := Go.Ground.data }, { on := 10, ground := Go.Ground.chain }, { on := 0, ground := Go.Ground.phase }, { on := 1, ground := Go.Ground.phase }, { on := 2, ground := Go.Ground.phase }, { on := 3, ground := Go.Ground.phase }, { on := 4, ground := Go.Ground.phase }, { on := 5, ground := Go.Ground.phase }, { on := 6, ground := Go.Ground.phase }, { on := 7, ground := Go.Ground.phase }, { on := 8, ground := Go.Ground.phase }, { on := 9, ground := Go.Ground.phase }, { on := 10, ground := Go.Ground.phase }], guard := none }) (v := ?v87) rfl (by kernel_rfl) (by kernel_rfl) (by kernel_rfl) (fun _ _ _ h => h) (Or.inl ⟨by rfl, ?hy87⟩) (by assumption) ?rest87
    case hy87 => (intro w hSw; (try dsimp only at hSw); have ecpb0 := hSw.cell cpb0 id; have ecpb1 := hSw.cell cpb1 id; have ecpb2 := hSw.cell cpb2 id; have ecpb3 := hSw.cell cpb3 id; have ecpb4 := hSw.cell cpb4 id; have ecpb5 := hSw.cell cpb5 id; have ecpb6 := hSw.cell cpb6 id; have ecpb7 := hSw.cell cpb7 id; have ecpb8 := hSw.cell cpb8 id; have ecpb9 := hSw.cell cpb9 id; have ecqb0 := hSw.cell cqb0 id; have ecqb1 := hSw.cell cqb1 id; have ecqb2 := hSw.cell cqb2 id; have ecqb3 := hSw.cell cqb3 id; have ecqb4 := hSw.cell cqb4 id; have ecqb5 := hSw.cell cqb5 id; have ecqb6 := hSw.cell cqb6 id; have ecqb7 := hSw.cell cqb7 id; have ecqb8 := hSw.cell cqb8 id; have ecqb9 := hSw.cell cqb9 id; have hfr := HFR.out; have hti := HTI.out; go_simp <;> with_reducible rfl)
    try simp only [Act.put, List.setIfInBounds_toArray, List.set_cons_zero, List.set_cons_succ]
    refine wpAnyH_done (by kernel_rfl) ?_ _
    go_wp2_with fail
    go_meet
    exact ⟨rfl, rfl, Lib.hid hS1⟩
  case rest =>
    obtain ⟨rfl, rfl, hx⟩ := hcut
    have hx := hx.out
    clear cpb0 cpb1 cpb2 cpb3 cpb4 cpb5 cpb6 cpb7 cpb8 cpb9 cqb0 cqb1 cqb2 cqb3 cqb4 cqb5 cqb6 cqb7 cqb8 cqb9
    have HX_wc := Lib.hid hx
    clear hx
    replace B_pb := Lib.hid ((HX_wc.out.block pb (row_lt B_pb.out) id).trans B_pb.out)
    replace B_qb := Lib.hid ((HX_wc.out.block qb (row_lt B_qb.out) id).trans B_qb.out)
    have cpb0 := row_cell (k := 0) (v := .int .u8 xtos) B_pb.out rfl
    have cpb1 := row_cell (k := 1) (v := .int .u16 xid) B_pb.out rfl
    have cpb2 := row_cell (k := 2) (v := .bool xdf) B_pb.out rfl
    have cpb3 := row_cell (k := 3) (v := .bool xmf) B_pb.out rfl
    have cpb4 := row_cell (k := 4) (v := .int .i64 xoff) B_pb.out rfl
    have cpb5 := row_cell (k := 5) (v := .int .u8 xttl) B_pb.out rfl
    have cpb6 := row_cell (k := 6) (v := .int .u8 xpr) B_pb.out rfl
    have cpb7 := row_cell (k := 7) (v := .int .u32 xsrc) B_pb.out rfl
    have cpb8 := row_cell (k := 8) (v := .int .u32 xdst) B_pb.out rfl
    have cpb9 := row_cell (k := 9) (v := .slice (some ⟨b1, o1, none⟩) xb.length c) B_pb.out rfl
    have cqb0 := row_cell (k := 0) (v := .int .u8 ytos) B_qb.out rfl
    have cqb1 := row_cell (k := 1) (v := .int .u16 yid) B_qb.out rfl
    have cqb2 := row_cell (k := 2) (v := .bool ydf) B_qb.out rfl
    have cqb3 := row_cell (k := 3) (v := .bool ymf) B_qb.out rfl
    have cqb4 := row_cell (k := 4) (v := .int .i64 yoff) B_qb.out rfl
    have cqb5 := row_cell (k := 5) (v := .int .u8 yttl) B_qb.out rfl
    have cqb6 := row_cell (k := 6) (v := .int .u8 ypr) B_qb.out rfl
    have cqb7 := row_cell (k := 7) (v := .int .u32 ysrc) B_qb.out rfl
    have cqb8 := row_cell (k := 8) (v := .int .u32 ydst) B_qb.out rfl
    have cqb9 := row_cell (k := 9) (v := .slice (some ⟨b2, o2, none⟩) yb.length d) B_qb.out rfl
    have hS0 : Ex (fun _ => False) wc wc.drew := (Ex.refl _ wc).drew
    go_upto_region 2 with fail
    have HX0c := Lib.hid ((HX_w1.out.trans HX_w2.out).trans HX_wc.out)
    have hlt := HLT.out
    refine wp_region_held_drew (S := fun W => Ex (fun _ => False) wc W) (by kernel_rfl) hS0 (fun _ => ?_)
    refine wpAnyH_take (i := 0) (oi := { dst := some 17, op := Go.Op.move (Go.Operand.tmp 5), type := 3, pos := "frag.go:89", after := #[], guard := none }) (v := ?v88) rfl (by kernel_rfl) (by kernel_rfl) (by kernel_rfl) (fun _ _ _ h => h) (Or.inl ⟨by rfl, ?hy88⟩) (by assumption) ?rest88
    case hy88 => (intro w hSw; (try dsimp only at hSw); have ecpb0 := hSw.cell cpb0 id; have ecpb1 := hSw.cell cpb1 id; have ecpb2 := hSw.cell cpb2 id; have ecpb3 := hSw.cell cpb3 id; have ecpb4 := hSw.cell cpb4 id; have ecpb5 := hSw.cell cpb5 id; have ecpb6 := hSw.cell cpb6 id; have ecpb7 := hSw.cell cpb7 id; have ecpb8 := hSw.cell cpb8 id; have ecpb9 := hSw.cell cpb9 id; have ecqb0 := hSw.cell cqb0 id; have ecqb1 := hSw.cell cqb1 id; have ecqb2 := hSw.cell cqb2 id; have ecqb3 := hSw.cell cqb3 id; have ecqb4 := hSw.cell cqb4 id; have ecqb5 := hSw.cell cqb5 id; have ecqb6 := hSw.cell cqb6 id; have ecqb7 := hSw.cell cqb7 id; have ecqb8 := hSw.cell cqb8 id; have ecqb9 := hSw.cell cqb9 id; obtain ⟨a1, a2, a3, a4⟩ := HWA.out; obtain ⟨a5, a6, a7, a8⟩ := HWB.out; obtain ⟨d1, d2, d3, d4⟩ := HBD.out; have d5 : (i1 : Int) ≤ (j1 : Int) := (by omega); have d6 : (j1 : Int) ≤ (c : Int) := (by omega); have d7 : (i2 : Int) ≤ (j2 : Int) := (by omega); have d8 : (j2 : Int) ≤ (d : Int) := (by omega); have d9 : ¬ c = i1 := (by omega); have d10 : ¬ d = i2 := (by omega); go_simp <;> with_reducible rfl)
    try simp only [Act.put, List.setIfInBounds_toArray, List.set_cons_zero, List.set_cons_succ]
    refine wpAnyH_take (i := 1) (oi := { dst := some 18, op := Go.Op.move (Go.Operand.tmp 6), type := 3, pos := "frag.go:89", after := #[], guard := none }) (v := ?v89) rfl (by kernel_rfl) (by kernel_rfl) (by kernel_rfl) (fun _ _ _ h => h) (Or.inl ⟨by rfl, ?hy89⟩) (by assumption) ?rest89
    case hy89 => (intro w hSw; (try dsimp only at hSw); have ecpb0 := hSw.cell cpb0 id; have ecpb1 := hSw.cell cpb1 id; have ecpb2 := hSw.cell cpb2 id; have ecpb3 := hSw.cell cpb3 id; have ecpb4 := hSw.cell cpb4 id; have ecpb5 := hSw.cell cpb5 id; have ecpb6 := hSw.cell cpb6 id; have ecpb7 := hSw.cell cpb7 id; have ecpb8 := hSw.cell cpb8 id; have ecpb9 := hSw.cell cpb9 id; have ecqb0 := hSw.cell cqb0 id; have ecqb1 := hSw.cell cqb1 id; have ecqb2 := hSw.cell cqb2 id; have ecqb3 := hSw.cell cqb3 id; have ecqb4 := hSw.cell cqb4 id; have ecqb5 := hSw.cell cqb5 id; have ecqb6 := hSw.cell cqb6 id; have ecqb7 := hSw.cell cqb7 id; have ecqb8 := hSw.cell cqb8 id; have ecqb9 := hSw.cell cqb9 id; obtain ⟨a1, a2, a3, a4⟩ := HWA.out; obtain ⟨a5, a6, a7, a8⟩ := HWB.out; obtain ⟨d1, d2, d3, d4⟩ := HBD.out; have d5 : (i1 : Int) ≤ (j1 : Int) := (by omega); have d6 : (j1 : Int) ≤ (c : Int) := (by omega); have d7 : (i2 : Int) ≤ (j2 : Int) := (by omega); have d8 : (j2 : Int) ≤ (d : Int) := (by omega); have d9 : ¬ c = i1 := (by omega); have d10 : ¬ d = i2 := (by omega); go_simp <;> with_reducible rfl)
    try simp only [Act.put, List.setIfInBounds_toArray, List.set_cons_zero, List.set_cons_succ]
    refine wpAnyH_take (i := 2) (oi := { dst := some 19, op := Go.Op.binOp Go.BinOp.lss 3 (Go.Operand.tmp 17) (Go.Operand.tmp 18) 3, type := 4, pos := "frag.go:89", after := #[{ on := 0, ground := Go.Ground.data }, { on := 1, ground := Go.Ground.data }], guard := none }) (v := ?v90) rfl (by kernel_rfl) (by kernel_rfl) (by kernel_rfl) (fun _ _ _ h => h) (Or.inl ⟨by rfl, ?hy90⟩) (by assumption) ?rest90
    case hy90 => (intro w hSw; (try dsimp only at hSw); have ecpb0 := hSw.cell cpb0 id; have ecpb1 := hSw.cell cpb1 id; have ecpb2 := hSw.cell cpb2 id; have ecpb3 := hSw.cell cpb3 id; have ecpb4 := hSw.cell cpb4 id; have ecpb5 := hSw.cell cpb5 id; have ecpb6 := hSw.cell cpb6 id; have ecpb7 := hSw.cell cpb7 id; have ecpb8 := hSw.cell cpb8 id; have ecpb9 := hSw.cell cpb9 id; have ecqb0 := hSw.cell cqb0 id; have ecqb1 := hSw.cell cqb1 id; have ecqb2 := hSw.cell cqb2 id; have ecqb3 := hSw.cell cqb3 id; have ecqb4 := hSw.cell cqb4 id; have ecqb5 := hSw.cell cqb5 id; have ecqb6 := hSw.cell cqb6 id; have ecqb7 := hSw.cell cqb7 id; have ecqb8 := hSw.cell cqb8 id; have ecqb9 := hSw.cell cqb9 id; obtain ⟨a1, a2, a3, a4⟩ := HWA.out; obtain ⟨a5, a6, a7, a8⟩ := HWB.out; obtain ⟨d1, d2, d3, d4⟩ := HBD.out; have d5 : (i1 : Int) ≤ (j1 : Int) := (by omega); have d6 : (j1 : Int) ≤ (c : Int) := (by omega); have d7 : (i2 : Int) ≤ (j2 : Int) := (by omega); have d8 : (j2 : Int) ≤ (d : Int) := (by omega); have d9 : ¬ c = i1 := (by omega); have d10 : ¬ d = i2 := (by omega); go_simp <;> with_reducible rfl)
    try simp only [Act.put, List.setIfInBounds_toArray, List.set_cons_zero, List.set_cons_succ]
    refine wpAnyH_take (i := 3) (oi := { dst := some 20, op := Go.Op.move (Go.Operand.tmp 19), type := 4, pos := "frag.go:89", after := #[{ on := 2, ground := Go.Ground.data }], guard := none }) (v := ?v91) rfl (by kernel_rfl) (by kernel_rfl) (by kernel_rfl) (fun _ _ _ h => h) (Or.inl ⟨by rfl, ?hy91⟩) (by assumption) ?rest91
    case hy91 => (intro w hSw; (try dsimp only at hSw); have ecpb0 := hSw.cell cpb0 id; have ecpb1 := hSw.cell cpb1 id; have ecpb2 := hSw.cell cpb2 id; have ecpb3 := hSw.cell cpb3 id; have ecpb4 := hSw.cell cpb4 id; have ecpb5 := hSw.cell cpb5 id; have ecpb6 := hSw.cell cpb6 id; have ecpb7 := hSw.cell cpb7 id; have ecpb8 := hSw.cell cpb8 id; have ecpb9 := hSw.cell cpb9 id; have ecqb0 := hSw.cell cqb0 id; have ecqb1 := hSw.cell cqb1 id; have ecqb2 := hSw.cell cqb2 id; have ecqb3 := hSw.cell cqb3 id; have ecqb4 := hSw.cell cqb4 id; have ecqb5 := hSw.cell cqb5 id; have ecqb6 := hSw.cell cqb6 id; have ecqb7 := hSw.cell cqb7 id; have ecqb8 := hSw.cell cqb8 id; have ecqb9 := hSw.cell cqb9 id; obtain ⟨a1, a2, a3, a4⟩ := HWA.out; obtain ⟨a5, a6, a7, a8⟩ := HWB.out; obtain ⟨d1, d2, d3, d4⟩ := HBD.out; have d5 : (i1 : Int) ≤ (j1 : Int) := (by omega); have d6 : (j1 : Int) ≤ (c : Int) := (by omega); have d7 : (i2 : Int) ≤ (j2 : Int) := (by omega); have d8 : (j2 : Int) ≤ (d : Int) := (by omega); have d9 : ¬ c = i1 := (by omega); have d10 : ¬ d = i2 := (by omega); go_simp <;> with_reducible rfl)
    try simp only [Act.put, List.setIfInBounds_toArray, List.set_cons_zero, List.set_cons_succ]
    refine wpAnyH_take (i := 4) (oi := { dst := some 21, op := Go.Op.fieldAddr 27 (Go.Operand.tmp 2) 9, type := 0, pos := "frag.go:89", after := #[{ on := 3, ground := Go.Ground.guard }], guard := some (3, true) }) (v := ?v92) rfl (by kernel_rfl) (by kernel_rfl) (by kernel_rfl) (fun _ _ _ h => h) (Or.inl ⟨by rfl, ?hy92⟩) (by assumption) ?rest92
    case hy92 => (intro w hSw; (try dsimp only at hSw); have ecpb0 := hSw.cell cpb0 id; have ecpb1 := hSw.cell cpb1 id; have ecpb2 := hSw.cell cpb2 id; have ecpb3 := hSw.cell cpb3 id; have ecpb4 := hSw.cell cpb4 id; have ecpb5 := hSw.cell cpb5 id; have ecpb6 := hSw.cell cpb6 id; have ecpb7 := hSw.cell cpb7 id; have ecpb8 := hSw.cell cpb8 id; have ecpb9 := hSw.cell cpb9 id; have ecqb0 := hSw.cell cqb0 id; have ecqb1 := hSw.cell cqb1 id; have ecqb2 := hSw.cell cqb2 id; have ecqb3 := hSw.cell cqb3 id; have ecqb4 := hSw.cell cqb4 id; have ecqb5 := hSw.cell cqb5 id; have ecqb6 := hSw.cell cqb6 id; have ecqb7 := hSw.cell cqb7 id; have ecqb8 := hSw.cell cqb8 id; have ecqb9 := hSw.cell cqb9 id; obtain ⟨a1, a2, a3, a4⟩ := HWA.out; obtain ⟨a5, a6, a7, a8⟩ := HWB.out; obtain ⟨d1, d2, d3, d4⟩ := HBD.out; have d5 : (i1 : Int) ≤ (j1 : Int) := (by omega); have d6 : (j1 : Int) ≤ (c : Int) := (by omega); have d7 : (i2 : Int) ≤ (j2 : Int) := (by omega); have d8 : (j2 : Int) ≤ (d : Int) := (by omega); have d9 : ¬ c = i1 := (by omega); have d10 : ¬ d = i2 := (by omega); go_simp <;> with_reducible rfl)
    try simp only [Act.put, List.setIfInBounds_toArray, List.set_cons_zero, List.set_cons_succ]
    refine wpAnyH_take (i := 5) (oi := { dst := some 22, op := Go.Op.load 25 (Go.Operand.tmp 21), type := 25, pos := "frag.go:89", after := #[{ on := 4, ground := Go.Ground.data }, { on := 3, ground := Go.Ground.guard }], guard := some (3, true) }) (v := ?v93) rfl (by kernel_rfl) (by kernel_rfl) (by kernel_rfl) (fun _ _ _ h => h) (Or.inl ⟨by rfl, ?hy93⟩) (by assumption) ?rest93
    case hy93 => (intro w hSw; (try dsimp only at hSw); have ecpb0 := hSw.cell cpb0 id; have ecpb1 := hSw.cell cpb1 id; have ecpb2 := hSw.cell cpb2 id; have ecpb3 := hSw.cell cpb3 id; have ecpb4 := hSw.cell cpb4 id; have ecpb5 := hSw.cell cpb5 id; have ecpb6 := hSw.cell cpb6 id; have ecpb7 := hSw.cell cpb7 id; have ecpb8 := hSw.cell cpb8 id; have ecpb9 := hSw.cell cpb9 id; have ecqb0 := hSw.cell cqb0 id; have ecqb1 := hSw.cell cqb1 id; have ecqb2 := hSw.cell cqb2 id; have ecqb3 := hSw.cell cqb3 id; have ecqb4 := hSw.cell cqb4 id; have ecqb5 := hSw.cell cqb5 id; have ecqb6 := hSw.cell cqb6 id; have ecqb7 := hSw.cell cqb7 id; have ecqb8 := hSw.cell cqb8 id; have ecqb9 := hSw.cell cqb9 id; obtain ⟨a1, a2, a3, a4⟩ := HWA.out; obtain ⟨a5, a6, a7, a8⟩ := HWB.out; obtain ⟨d1, d2, d3, d4⟩ := HBD.out; have d5 : (i1 : Int) ≤ (j1 : Int) := (by omega); have d6 : (j1 : Int) ≤ (c : Int) := (by omega); have d7 : (i2 : Int) ≤ (j2 : Int) := (by omega); have d8 : (j2 : Int) ≤ (d : Int) := (by omega); have d9 : ¬ c = i1 := (by omega); have d10 : ¬ d = i2 := (by omega); go_simp <;> with_reducible rfl)
    try simp only [Act.put, List.setIfInBounds_toArray, List.set_cons_zero, List.set_cons_succ]
    refine wpAnyH_take (i := 6) (oi := { dst := some 23, op := Go.Op.move (Go.Operand.tmp 5), type := 3, pos := "frag.go:89", after := #[{ on := 3, ground := Go.Ground.guard }], guard := some (3, true) }) (v := ?v94) rfl (by kernel_rfl) (by kernel_rfl) (by kernel_rfl) (fun _ _ _ h => h) (Or.inl ⟨by rfl, ?hy94⟩) (by assumption) ?rest94
    case hy94 => (intro w hSw; (try dsimp only at hSw); have ecpb0 := hSw.cell cpb0 id; have ecpb1 := hSw.cell cpb1 id; have ecpb2 := hSw.cell cpb2 id; have ecpb3 := hSw.cell cpb3 id; have ecpb4 := hSw.cell cpb4 id; have ecpb5 := hSw.cell cpb5 id; have ecpb6 := hSw.cell cpb6 id; have ecpb7 := hSw.cell cpb7 id; have ecpb8 := hSw.cell cpb8 id; have ecpb9 := hSw.cell cpb9 id; have ecqb0 := hSw.cell cqb0 id; have ecqb1 := hSw.cell cqb1 id; have ecqb2 := hSw.cell cqb2 id; have ecqb3 := hSw.cell cqb3 id; have ecqb4 := hSw.cell cqb4 id; have ecqb5 := hSw.cell cqb5 id; have ecqb6 := hSw.cell cqb6 id; have ecqb7 := hSw.cell cqb7 id; have ecqb8 := hSw.cell cqb8 id; have ecqb9 := hSw.cell cqb9 id; obtain ⟨a1, a2, a3, a4⟩ := HWA.out; obtain ⟨a5, a6, a7, a8⟩ := HWB.out; obtain ⟨d1, d2, d3, d4⟩ := HBD.out; have d5 : (i1 : Int) ≤ (j1 : Int) := (by omega); have d6 : (j1 : Int) ≤ (c : Int) := (by omega); have d7 : (i2 : Int) ≤ (j2 : Int) := (by omega); have d8 : (j2 : Int) ≤ (d : Int) := (by omega); have d9 : ¬ c = i1 := (by omega); have d10 : ¬ d = i2 := (by omega); go_simp <;> with_reducible rfl)
    try simp only [Act.put, List.setIfInBounds_toArray, List.set_cons_zero, List.set_cons_succ]
    refine wpAnyH_take (i := 7) (oi := { dst := some 24, op := Go.Op.fieldAddr 27 (Go.Operand.tmp 2) 4, type := 0, pos := "frag.go:89", after := #[{ on := 3, ground := Go.Ground.guard }], guard := some (3, true) }) (v := ?v95) rfl (by kernel_rfl) (by kernel_rfl) (by kernel_rfl) (fun _ _ _ h => h) (Or.inl ⟨by rfl, ?hy95⟩) (by assumption) ?rest95
    case hy95 => (intro w hSw; (try dsimp only at hSw); have ecpb0 := hSw.cell cpb0 id; have ecpb1 := hSw.cell cpb1 id; have ecpb2 := hSw.cell cpb2 id; have ecpb3 := hSw.cell cpb3 id; have ecpb4 := hSw.cell cpb4 id; have ecpb5 := hSw.cell cpb5 id; have ecpb6 := hSw.cell cpb6 id; have ecpb7 := hSw.cell cpb7 id; have ecpb8 := hSw.cell cpb8 id; have ecpb9 := hSw.cell cpb9 id; have ecqb0 := hSw.cell cqb0 id; have ecqb1 := hSw.cell cqb1 id; have ecqb2 := hSw.cell cqb2 id; have ecqb3 := hSw.cell cqb3 id; have ecqb4 := hSw.cell cqb4 id; have ecqb5 := hSw.cell cqb5 id; have ecqb6 := hSw.cell cqb6 id; have ecqb7 := hSw.cell cqb7 id; have ecqb8 := hSw.cell cqb8 id; have ecqb9 := hSw.cell cqb9 id; obtain ⟨a1, a2, a3, a4⟩ := HWA.out; obtain ⟨a5, a6, a7, a8⟩ := HWB.out; obtain ⟨d1, d2, d3, d4⟩ := HBD.out; have d5 : (i1 : Int) ≤ (j1 : Int) := (by omega); have d6 : (j1 : Int) ≤ (c : Int) := (by omega); have d7 : (i2 : Int) ≤ (j2 : Int) := (by omega); have d8 : (j2 : Int) ≤ (d : Int) := (by omega); have d9 : ¬ c = i1 := (by omega); have d10 : ¬ d = i2 := (by omega); go_simp <;> with_reducible rfl)
    try simp only [Act.put, List.setIfInBounds_toArray, List.set_cons_zero, List.set_cons_succ]
    refine wpAnyH_take (i := 8) (oi := { dst := some 25, op := Go.Op.load 3 (Go.Operand.tmp 24), type := 3, pos := "frag.go:89", after := #[{ on := 7, ground := Go.Ground.data }, { on := 3, ground := Go.Ground.guard }], guard := some (3, true) }) (v := ?v96) rfl (by kernel_rfl) (by kernel_rfl) (by kernel_rfl) (fun _ _ _ h => h) (Or.inl ⟨by rfl, ?hy96⟩) (by assumption) ?rest96
    case hy96 => (intro w hSw; (try dsimp only at hSw); have ecpb0 := hSw.cell cpb0 id; have ecpb1 := hSw.cell cpb1 id; have ecpb2 := hSw.cell cpb2 id; have ecpb3 := hSw.cell cpb3 id; have ecpb4 := hSw.cell cpb4 id; have ecpb5 := hSw.cell cpb5 id; have ecpb6 := hSw.cell cpb6 id; have ecpb7 := hSw.cell cpb7 id; have ecpb8 := hSw.cell cpb8 id; have ecpb9 := hSw.cell cpb9 id; have ecqb0 := hSw.cell cqb0 id; have ecqb1 := hSw.cell cqb1 id; have ecqb2 := hSw.cell cqb2 id; have ecqb3 := hSw.cell cqb3 id; have ecqb4 := hSw.cell cqb4 id; have ecqb5 := hSw.cell cqb5 id; have ecqb6 := hSw.cell cqb6 id; have ecqb7 := hSw.cell cqb7 id; have ecqb8 := hSw.cell cqb8 id; have ecqb9 := hSw.cell cqb9 id; obtain ⟨a1, a2, a3, a4⟩ := HWA.out; obtain ⟨a5, a6, a7, a8⟩ := HWB.out; obtain ⟨d1, d2, d3, d4⟩ := HBD.out; have d5 : (i1 : Int) ≤ (j1 : Int) := (by omega); have d6 : (j1 : Int) ≤ (c : Int) := (by omega); have d7 : (i2 : Int) ≤ (j2 : Int) := (by omega); have d8 : (j2 : Int) ≤ (d : Int) := (by omega); have d9 : ¬ c = i1 := (by omega); have d10 : ¬ d = i2 := (by omega); go_simp <;> with_reducible rfl)
    try simp only [Act.put, List.setIfInBounds_toArray, List.set_cons_zero, List.set_cons_succ]
    refine wpAnyH_take (i := 9) (oi := { dst := some 26, op := Go.Op.binOp Go.BinOp.sub 3 (Go.Operand.tmp 23) (Go.Operand.tmp 25) 3, type := 3, pos := "frag.go:89", after := #[{ on := 6, ground := Go.Ground.data }, { on := 8, ground := Go.Ground.data }, { on := 3, ground := Go.Ground.guard }], guard := some (3, true) }) (v := ?v97) rfl (by kernel_rfl) (by kernel_rfl) (by kernel_rfl) (fun _ _ _ h => h) (Or.inl ⟨by rfl, ?hy97⟩) (by assumption) ?rest97
    case hy97 => (intro w hSw; (try dsimp only at hSw); have ecpb0 := hSw.cell cpb0 id; have ecpb1 := hSw.cell cpb1 id; have ecpb2 := hSw.cell cpb2 id; have ecpb3 := hSw.cell cpb3 id; have ecpb4 := hSw.cell cpb4 id; have ecpb5 := hSw.cell cpb5 id; have ecpb6 := hSw.cell cpb6 id; have ecpb7 := hSw.cell cpb7 id; have ecpb8 := hSw.cell cpb8 id; have ecpb9 := hSw.cell cpb9 id; have ecqb0 := hSw.cell cqb0 id; have ecqb1 := hSw.cell cqb1 id; have ecqb2 := hSw.cell cqb2 id; have ecqb3 := hSw.cell cqb3 id; have ecqb4 := hSw.cell cqb4 id; have ecqb5 := hSw.cell cqb5 id; have ecqb6 := hSw.cell cqb6 id; have ecqb7 := hSw.cell cqb7 id; have ecqb8 := hSw.cell cqb8 id; have ecqb9 := hSw.cell cqb9 id; obtain ⟨a1, a2, a3, a4⟩ := HWA.out; obtain ⟨a5, a6, a7, a8⟩ := HWB.out; obtain ⟨d1, d2, d3, d4⟩ := HBD.out; have d5 : (i1 : Int) ≤ (j1 : Int) := (by omega); have d6 : (j1 : Int) ≤ (c : Int) := (by omega); have d7 : (i2 : Int) ≤ (j2 : Int) := (by omega); have d8 : (j2 : Int) ≤ (d : Int) := (by omega); have d9 : ¬ c = i1 := (by omega); have d10 : ¬ d = i2 := (by omega); go_simp <;> with_reducible rfl)
    try simp only [Act.put, List.setIfInBounds_toArray, List.set_cons_zero, List.set_cons_succ]
    refine wpAnyH_take (i := 10) (oi := { dst := some 27, op := Go.Op.move (Go.Operand.tmp 6), type := 3, pos := "frag.go:89", after := #[{ on := 3, ground := Go.Ground.guard }], guard := some (3, true) }) (v := ?v98) rfl (by kernel_rfl) (by kernel_rfl) (by kernel_rfl) (fun _ _ _ h => h) (Or.inl ⟨by rfl, ?hy98⟩) (by assumption) ?rest98
    case hy98 => (intro w hSw; (try dsimp only at hSw); have ecpb0 := hSw.cell cpb0 id; have ecpb1 := hSw.cell cpb1 id; have ecpb2 := hSw.cell cpb2 id; have ecpb3 := hSw.cell cpb3 id; have ecpb4 := hSw.cell cpb4 id; have ecpb5 := hSw.cell cpb5 id; have ecpb6 := hSw.cell cpb6 id; have ecpb7 := hSw.cell cpb7 id; have ecpb8 := hSw.cell cpb8 id; have ecpb9 := hSw.cell cpb9 id; have ecqb0 := hSw.cell cqb0 id; have ecqb1 := hSw.cell cqb1 id; have ecqb2 := hSw.cell cqb2 id; have ecqb3 := hSw.cell cqb3 id; have ecqb4 := hSw.cell cqb4 id; have ecqb5 := hSw.cell cqb5 id; have ecqb6 := hSw.cell cqb6 id; have ecqb7 := hSw.cell cqb7 id; have ecqb8 := hSw.cell cqb8 id; have ecqb9 := hSw.cell cqb9 id; obtain ⟨a1, a2, a3, a4⟩ := HWA.out; obtain ⟨a5, a6, a7, a8⟩ := HWB.out; obtain ⟨d1, d2, d3, d4⟩ := HBD.out; have d5 : (i1 : Int) ≤ (j1 : Int) := (by omega); have d6 : (j1 : Int) ≤ (c : Int) := (by omega); have d7 : (i2 : Int) ≤ (j2 : Int) := (by omega); have d8 : (j2 : Int) ≤ (d : Int) := (by omega); have d9 : ¬ c = i1 := (by omega); have d10 : ¬ d = i2 := (by omega); go_simp <;> with_reducible rfl)
    try simp only [Act.put, List.setIfInBounds_toArray, List.set_cons_zero, List.set_cons_succ]
    refine wpAnyH_take (i := 11) (oi := { dst := some 28, op := Go.Op.fieldAddr 27 (Go.Operand.tmp 2) 4, type := 0, pos := "frag.go:89", after := #[{ on := 3, ground := Go.Ground.guard }], guard := some (3, true) }) (v := ?v99) rfl (by kernel_rfl) (by kernel_rfl) (by kernel_rfl) (fun _ _ _ h => h) (Or.inl ⟨by rfl, ?hy99⟩) (by assumption) ?rest99
    case hy99 => (intro w hSw; (try dsimp only at hSw); have ecpb0 := hSw.cell cpb0 id; have ecpb1 := hSw.cell cpb1 id; have ecpb2 := hSw.cell cpb2 id; have ecpb3 := hSw.cell cpb3 id; have ecpb4 := hSw.cell cpb4 id; have ecpb5 := hSw.cell cpb5 id; have ecpb6 := hSw.cell cpb6 id; have ecpb7 := hSw.cell cpb7 id; have ecpb8 := hSw.cell cpb8 id; have ecpb9 := hSw.cell cpb9 id; have ecqb0 := hSw.cell cqb0 id; have ecqb1 := hSw.cell cqb1 id; have ecqb2 := hSw.cell cqb2 id; have ecqb3 := hSw.cell cqb3 id; have ecqb4 := hSw.cell cqb4 id; have ecqb5 := hSw.cell cqb5 id; have ecqb6 := hSw.cell cqb6 id; have ecqb7 := hSw.cell cqb7 id; have ecqb8 := hSw.cell cqb8 id; have ecqb9 := hSw.cell cqb9 id; obtain ⟨a1, a2, a3, a4⟩ := HWA.out; obtain ⟨a5, a6, a7, a8⟩ := HWB.out; obtain ⟨d1, d2, d3, d4⟩ := HBD.out; have d5 : (i1 : Int) ≤ (j1 : Int) := (by omega); have d6 : (j1 : Int) ≤ (c : Int) := (by omega); have d7 : (i2 : Int) ≤ (j2 : Int) := (by omega); have d8 : (j2 : Int) ≤ (d : Int) := (by omega); have d9 : ¬ c = i1 := (by omega); have d10 : ¬ d = i2 := (by omega); go_simp <;> with_reducible rfl)
    try simp only [Act.put, List.setIfInBounds_toArray, List.set_cons_zero, List.set_cons_succ]
    refine wpAnyH_take (i := 12) (oi := { dst := some 29, op := Go.Op.load 3 (Go.Operand.tmp 28), type := 3, pos := "frag.go:89", after := #[{ on := 11, ground := Go.Ground.data }, { on := 3, ground := Go.Ground.guard }], guard := some (3, true) }) (v := ?v100) rfl (by kernel_rfl) (by kernel_rfl) (by kernel_rfl) (fun _ _ _ h => h) (Or.inl ⟨by rfl, ?hy100⟩) (by assumption) ?rest100
    case hy100 => (intro w hSw; (try dsimp only at hSw); have ecpb0 := hSw.cell cpb0 id; have ecpb1 := hSw.cell cpb1 id; have ecpb2 := hSw.cell cpb2 id; have ecpb3 := hSw.cell cpb3 id; have ecpb4 := hSw.cell cpb4 id; have ecpb5 := hSw.cell cpb5 id; have ecpb6 := hSw.cell cpb6 id; have ecpb7 := hSw.cell cpb7 id; have ecpb8 := hSw.cell cpb8 id; have ecpb9 := hSw.cell cpb9 id; have ecqb0 := hSw.cell cqb0 id; have ecqb1 := hSw.cell cqb1 id; have ecqb2 := hSw.cell cqb2 id; have ecqb3 := hSw.cell cqb3 id; have ecqb4 := hSw.cell cqb4 id; have ecqb5 := hSw.cell cqb5 id; have ecqb6 := hSw.cell cqb6 id; have ecqb7 := hSw.cell cqb7 id; have ecqb8 := hSw.cell cqb8 id; have ecqb9 := hSw.cell cqb9 id; obtain ⟨a1, a2, a3, a4⟩ := HWA.out; obtain ⟨a5, a6, a7, a8⟩ := HWB.out; obtain ⟨d1, d2, d3, d4⟩ := HBD.out; have d5 : (i1 : Int) ≤ (j1 : Int) := (by omega); have d6 : (j1 : Int) ≤ (c : Int) := (by omega); have d7 : (i2 : Int) ≤ (j2 : Int) := (by omega); have d8 : (j2 : Int) ≤ (d : Int) := (by omega); have d9 : ¬ c = i1 := (by omega); have d10 : ¬ d = i2 := (by omega); go_simp <;> with_reducible rfl)
    try simp only [Act.put, List.setIfInBounds_toArray, List.set_cons_zero, List.set_cons_succ]
    refine wpAnyH_take (i := 13) (oi := { dst := some 30, op := Go.Op.binOp Go.BinOp.sub 3 (Go.Operand.tmp 27) (Go.Operand.tmp 29) 3, type := 3, pos := "frag.go:89", after := #[{ on := 10, ground := Go.Ground.data }, { on := 12, ground := Go.Ground.data }, { on := 3, ground := Go.Ground.guard }], guard := some (3, true) }) (v := ?v101) rfl (by kernel_rfl) (by kernel_rfl) (by kernel_rfl) (fun _ _ _ h => h) (Or.inl ⟨by rfl, ?hy101⟩) (by assumption) ?rest101
    case hy101 => (intro w hSw; (try dsimp only at hSw); have ecpb0 := hSw.cell cpb0 id; have ecpb1 := hSw.cell cpb1 id; have ecpb2 := hSw.cell cpb2 id; have ecpb3 := hSw.cell cpb3 id; have ecpb4 := hSw.cell cpb4 id; have ecpb5 := hSw.cell cpb5 id; have ecpb6 := hSw.cell cpb6 id; have ecpb7 := hSw.cell cpb7 id; have ecpb8 := hSw.cell cpb8 id; have ecpb9 := hSw.cell cpb9 id; have ecqb0 := hSw.cell cqb0 id; have ecqb1 := hSw.cell cqb1 id; have ecqb2 := hSw.cell cqb2 id; have ecqb3 := hSw.cell cqb3 id; have ecqb4 := hSw.cell cqb4 id; have ecqb5 := hSw.cell cqb5 id; have ecqb6 := hSw.cell cqb6 id; have ecqb7 := hSw.cell cqb7 id; have ecqb8 := hSw.cell cqb8 id; have ecqb9 := hSw.cell cqb9 id; obtain ⟨a1, a2, a3, a4⟩ := HWA.out; obtain ⟨a5, a6, a7, a8⟩ := HWB.out; obtain ⟨d1, d2, d3, d4⟩ := HBD.out; have d5 : (i1 : Int) ≤ (j1 : Int) := (by omega); have d6 : (j1 : Int) ≤ (c : Int) := (by omega); have d7 : (i2 : Int) ≤ (j2 : Int) := (by omega); have d8 : (j2 : Int) ≤ (d : Int) := (by omega); have d9 : ¬ c = i1 := (by omega); have d10 : ¬ d = i2 := (by omega); go_simp <;> with_reducible rfl)
    try simp only [Act.put, List.setIfInBounds_toArray, List.set_cons_zero, List.set_cons_succ]
    refine wpAnyH_take (i := 14) (oi := { dst := some 31, op := Go.Op.slice 25 (Go.Operand.tmp 22) (some (Go.Operand.tmp 26)) (some (Go.Operand.tmp 30)) none, type := 25, pos := "frag.go:89", after := #[{ on := 5, ground := Go.Ground.data }, { on := 9, ground := Go.Ground.data }, { on := 13, ground := Go.Ground.data }, { on := 3, ground := Go.Ground.guard }], guard := some (3, true) }) (v := ?v102) rfl (by kernel_rfl) (by kernel_rfl) (by kernel_rfl) (fun _ _ _ h => h) (Or.inl ⟨by rfl, ?hy102⟩) (by assumption) ?rest102
    case hy102 => (intro w hSw; (try dsimp only at hSw); have ecpb0 := hSw.cell cpb0 id; have ecpb1 := hSw.cell cpb1 id; have ecpb2 := hSw.cell cpb2 id; have ecpb3 := hSw.cell cpb3 id; have ecpb4 := hSw.cell cpb4 id; have ecpb5 := hSw.cell cpb5 id; have ecpb6 := hSw.cell cpb6 id; have ecpb7 := hSw.cell cpb7 id; have ecpb8 := hSw.cell cpb8 id; have ecpb9 := hSw.cell cpb9 id; have ecqb0 := hSw.cell cqb0 id; have ecqb1 := hSw.cell cqb1 id; have ecqb2 := hSw.cell cqb2 id; have ecqb3 := hSw.cell cqb3 id; have ecqb4 := hSw.cell cqb4 id; have ecqb5 := hSw.cell cqb5 id; have ecqb6 := hSw.cell cqb6 id; have ecqb7 := hSw.cell cqb7 id; have ecqb8 := hSw.cell cqb8 id; have ecqb9 := hSw.cell cqb9 id; obtain ⟨a1, a2, a3, a4⟩ := HWA.out; obtain ⟨a5, a6, a7, a8⟩ := HWB.out; obtain ⟨d1, d2, d3, d4⟩ := HBD.out; have d5 : (i1 : Int) ≤ (j1 : Int) := (by omega); have d6 : (j1 : Int) ≤ (c : Int) := (by omega); have d7 : (i2 : Int) ≤ (j2 : Int) := (by omega); have d8 : (j2 : Int) ≤ (d : Int) := (by omega); have d9 : ¬ c = i1 := (by omega); have d10 : ¬ d = i2 := (by omega); go_simp <;> with_reducible rfl)
    try simp only [Act.put, List.setIfInBounds_toArray, List.set_cons_zero, List.set_cons_succ]
    refine wpAnyH_take (i := 15) (oi := { dst := some 32, op := Go.Op.fieldAddr 27 (Go.Operand.tmp 3) 9, type := 0, pos := "frag.go:89", after := #[{ on := 3, ground := Go.Ground.guard }], guard := some (3, true) }) (v := ?v103) rfl (by kernel_rfl) (by kernel_rfl) (by kernel_rfl) (fun _ _ _ h => h) (Or.inl ⟨by rfl, ?hy103⟩) (by assumption) ?rest103
    case hy103 => (intro w hSw; (try dsimp only at hSw); have ecpb0 := hSw.cell cpb0 id; have ecpb1 := hSw.cell cpb1 id; have ecpb2 := hSw.cell cpb2 id; have ecpb3 := hSw.cell cpb3 id; have ecpb4 := hSw.cell cpb4 id; have ecpb5 := hSw.cell cpb5 id; have ecpb6 := hSw.cell cpb6 id; have ecpb7 := hSw.cell cpb7 id; have ecpb8 := hSw.cell cpb8 id; have ecpb9 := hSw.cell cpb9 id; have ecqb0 := hSw.cell cqb0 id; have ecqb1 := hSw.cell cqb1 id; have ecqb2 := hSw.cell cqb2 id; have ecqb3 := hSw.cell cqb3 id; have ecqb4 := hSw.cell cqb4 id; have ecqb5 := hSw.cell cqb5 id; have ecqb6 := hSw.cell cqb6 id; have ecqb7 := hSw.cell cqb7 id; have ecqb8 := hSw.cell cqb8 id; have ecqb9 := hSw.cell cqb9 id; obtain ⟨a1, a2, a3, a4⟩ := HWA.out; obtain ⟨a5, a6, a7, a8⟩ := HWB.out; obtain ⟨d1, d2, d3, d4⟩ := HBD.out; have d5 : (i1 : Int) ≤ (j1 : Int) := (by omega); have d6 : (j1 : Int) ≤ (c : Int) := (by omega); have d7 : (i2 : Int) ≤ (j2 : Int) := (by omega); have d8 : (j2 : Int) ≤ (d : Int) := (by omega); have d9 : ¬ c = i1 := (by omega); have d10 : ¬ d = i2 := (by omega); go_simp <;> with_reducible rfl)
    try simp only [Act.put, List.setIfInBounds_toArray, List.set_cons_zero, List.set_cons_succ]
    refine wpAnyH_take (i := 16) (oi := { dst := some 33, op := Go.Op.load 25 (Go.Operand.tmp 32), type := 25, pos := "frag.go:89", after := #[{ on := 15, ground := Go.Ground.data }, { on := 3, ground := Go.Ground.guard }], guard := some (3, true) }) (v := ?v104) rfl (by kernel_rfl) (by kernel_rfl) (by kernel_rfl) (fun _ _ _ h => h) (Or.inl ⟨by rfl, ?hy104⟩) (by assumption) ?rest104
    case hy104 => (intro w hSw; (try dsimp only at hSw); have ecpb0 := hSw.cell cpb0 id; have ecpb1 := hSw.cell cpb1 id; have ecpb2 := hSw.cell cpb2 id; have ecpb3 := hSw.cell cpb3 id; have ecpb4 := hSw.cell cpb4 id; have ecpb5 := hSw.cell cpb5 id; have ecpb6 := hSw.cell cpb6 id; have ecpb7 := hSw.cell cpb7 id; have ecpb8 := hSw.cell cpb8 id; have ecpb9 := hSw.cell cpb9 id; have ecqb0 := hSw.cell cqb0 id; have ecqb1 := hSw.cell cqb1 id; have ecqb2 := hSw.cell cqb2 id; have ecqb3 := hSw.cell cqb3 id; have ecqb4 := hSw.cell cqb4 id; have ecqb5 := hSw.cell cqb5 id; have ecqb6 := hSw.cell cqb6 id; have ecqb7 := hSw.cell cqb7 id; have ecqb8 := hSw.cell cqb8 id; have ecqb9 := hSw.cell cqb9 id; obtain ⟨a1, a2, a3, a4⟩ := HWA.out; obtain ⟨a5, a6, a7, a8⟩ := HWB.out; obtain ⟨d1, d2, d3, d4⟩ := HBD.out; have d5 : (i1 : Int) ≤ (j1 : Int) := (by omega); have d6 : (j1 : Int) ≤ (c : Int) := (by omega); have d7 : (i2 : Int) ≤ (j2 : Int) := (by omega); have d8 : (j2 : Int) ≤ (d : Int) := (by omega); have d9 : ¬ c = i1 := (by omega); have d10 : ¬ d = i2 := (by omega); go_simp <;> with_reducible rfl)
    try simp only [Act.put, List.setIfInBounds_toArray, List.set_cons_zero, List.set_cons_succ]
    refine wpAnyH_take (i := 17) (oi := { dst := some 34, op := Go.Op.move (Go.Operand.tmp 5), type := 3, pos := "frag.go:89", after := #[{ on := 3, ground := Go.Ground.guard }], guard := some (3, true) }) (v := ?v105) rfl (by kernel_rfl) (by kernel_rfl) (by kernel_rfl) (fun _ _ _ h => h) (Or.inl ⟨by rfl, ?hy105⟩) (by assumption) ?rest105
    case hy105 => (intro w hSw; (try dsimp only at hSw); have ecpb0 := hSw.cell cpb0 id; have ecpb1 := hSw.cell cpb1 id; have ecpb2 := hSw.cell cpb2 id; have ecpb3 := hSw.cell cpb3 id; have ecpb4 := hSw.cell cpb4 id; have ecpb5 := hSw.cell cpb5 id; have ecpb6 := hSw.cell cpb6 id; have ecpb7 := hSw.cell cpb7 id; have ecpb8 := hSw.cell cpb8 id; have ecpb9 := hSw.cell cpb9 id; have ecqb0 := hSw.cell cqb0 id; have ecqb1 := hSw.cell cqb1 id; have ecqb2 := hSw.cell cqb2 id; have ecqb3 := hSw.cell cqb3 id; have ecqb4 := hSw.cell cqb4 id; have ecqb5 := hSw.cell cqb5 id; have ecqb6 := hSw.cell cqb6 id; have ecqb7 := hSw.cell cqb7 id; have ecqb8 := hSw.cell cqb8 id; have ecqb9 := hSw.cell cqb9 id; obtain ⟨a1, a2, a3, a4⟩ := HWA.out; obtain ⟨a5, a6, a7, a8⟩ := HWB.out; obtain ⟨d1, d2, d3, d4⟩ := HBD.out; have d5 : (i1 : Int) ≤ (j1 : Int) := (by omega); have d6 : (j1 : Int) ≤ (c : Int) := (by omega); have d7 : (i2 : Int) ≤ (j2 : Int) := (by omega); have d8 : (j2 : Int) ≤ (d : Int) := (by omega); have d9 : ¬ c = i1 := (by omega); have d10 : ¬ d = i2 := (by omega); go_simp <;> with_reducible rfl)
    try simp only [Act.put, List.setIfInBounds_toArray, List.set_cons_zero, List.set_cons_succ]
    refine wpAnyH_take (i := 18) (oi := { dst := some 35, op := Go.Op.fieldAddr 27 (Go.Operand.tmp 3) 4, type := 0, pos := "frag.go:89", after := #[{ on := 3, ground := Go.Ground.guard }], guard := some (3, true) }) (v := ?v106) rfl (by kernel_rfl) (by kernel_rfl) (by kernel_rfl) (fun _ _ _ h => h) (Or.inl ⟨by rfl, ?hy106⟩) (by assumption) ?rest106
    case hy106 => (intro w hSw; (try dsimp only at hSw); have ecpb0 := hSw.cell cpb0 id; have ecpb1 := hSw.cell cpb1 id; have ecpb2 := hSw.cell cpb2 id; have ecpb3 := hSw.cell cpb3 id; have ecpb4 := hSw.cell cpb4 id; have ecpb5 := hSw.cell cpb5 id; have ecpb6 := hSw.cell cpb6 id; have ecpb7 := hSw.cell cpb7 id; have ecpb8 := hSw.cell cpb8 id; have ecpb9 := hSw.cell cpb9 id; have ecqb0 := hSw.cell cqb0 id; have ecqb1 := hSw.cell cqb1 id; have ecqb2 := hSw.cell cqb2 id; have ecqb3 := hSw.cell cqb3 id; have ecqb4 := hSw.cell cqb4 id; have ecqb5 := hSw.cell cqb5 id; have ecqb6 := hSw.cell cqb6 id; have ecqb7 := hSw.cell cqb7 id; have ecqb8 := hSw.cell cqb8 id; have ecqb9 := hSw.cell cqb9 id; obtain ⟨a1, a2, a3, a4⟩ := HWA.out; obtain ⟨a5, a6, a7, a8⟩ := HWB.out; obtain ⟨d1, d2, d3, d4⟩ := HBD.out; have d5 : (i1 : Int) ≤ (j1 : Int) := (by omega); have d6 : (j1 : Int) ≤ (c : Int) := (by omega); have d7 : (i2 : Int) ≤ (j2 : Int) := (by omega); have d8 : (j2 : Int) ≤ (d : Int) := (by omega); have d9 : ¬ c = i1 := (by omega); have d10 : ¬ d = i2 := (by omega); go_simp <;> with_reducible rfl)
    try simp only [Act.put, List.setIfInBounds_toArray, List.set_cons_zero, List.set_cons_succ]
    refine wpAnyH_take (i := 19) (oi := { dst := some 36, op := Go.Op.load 3 (Go.Operand.tmp 35), type := 3, pos := "frag.go:89", after := #[{ on := 18, ground := Go.Ground.data }, { on := 3, ground := Go.Ground.guard }], guard := some (3, true) }) (v := ?v107) rfl (by kernel_rfl) (by kernel_rfl) (by kernel_rfl) (fun _ _ _ h => h) (Or.inl ⟨by rfl, ?hy107⟩) (by assumption) ?rest107
    case hy107 => (intro w hSw; (try dsimp only at hSw); have ecpb0 := hSw.cell cpb0 id; have ecpb1 := hSw.cell cpb1 id; have ecpb2 := hSw.cell cpb2 id; have ecpb3 := hSw.cell cpb3 id; have ecpb4 := hSw.cell cpb4 id; have ecpb5 := hSw.cell cpb5 id; have ecpb6 := hSw.cell cpb6 id; have ecpb7 := hSw.cell cpb7 id; have ecpb8 := hSw.cell cpb8 id; have ecpb9 := hSw.cell cpb9 id; have ecqb0 := hSw.cell cqb0 id; have ecqb1 := hSw.cell cqb1 id; have ecqb2 := hSw.cell cqb2 id; have ecqb3 := hSw.cell cqb3 id; have ecqb4 := hSw.cell cqb4 id; have ecqb5 := hSw.cell cqb5 id; have ecqb6 := hSw.cell cqb6 id; have ecqb7 := hSw.cell cqb7 id; have ecqb8 := hSw.cell cqb8 id; have ecqb9 := hSw.cell cqb9 id; obtain ⟨a1, a2, a3, a4⟩ := HWA.out; obtain ⟨a5, a6, a7, a8⟩ := HWB.out; obtain ⟨d1, d2, d3, d4⟩ := HBD.out; have d5 : (i1 : Int) ≤ (j1 : Int) := (by omega); have d6 : (j1 : Int) ≤ (c : Int) := (by omega); have d7 : (i2 : Int) ≤ (j2 : Int) := (by omega); have d8 : (j2 : Int) ≤ (d : Int) := (by omega); have d9 : ¬ c = i1 := (by omega); have d10 : ¬ d = i2 := (by omega); go_simp <;> with_reducible rfl)
    try simp only [Act.put, List.setIfInBounds_toArray, List.set_cons_zero, List.set_cons_succ]
    refine wpAnyH_take (i := 20) (oi := { dst := some 37, op := Go.Op.binOp Go.BinOp.sub 3 (Go.Operand.tmp 34) (Go.Operand.tmp 36) 3, type := 3, pos := "frag.go:89", after := #[{ on := 17, ground := Go.Ground.data }, { on := 19, ground := Go.Ground.data }, { on := 3, ground := Go.Ground.guard }], guard := some (3, true) }) (v := ?v108) rfl (by kernel_rfl) (by kernel_rfl) (by kernel_rfl) (fun _ _ _ h => h) (Or.inl ⟨by rfl, ?hy108⟩) (by assumption) ?rest108
    case hy108 => (intro w hSw; (try dsimp only at hSw); have ecpb0 := hSw.cell cpb0 id; have ecpb1 := hSw.cell cpb1 id; have ecpb2 := hSw.cell cpb2 id; have ecpb3 := hSw.cell cpb3 id; have ecpb4 := hSw.cell cpb4 id; have ecpb5 := hSw.cell cpb5 id; have ecpb6 := hSw.cell cpb6 id; have ecpb7 := hSw.cell cpb7 id; have ecpb8 := hSw.cell cpb8 id; have ecpb9 := hSw.cell cpb9 id; have ecqb0 := hSw.cell cqb0 id; have ecqb1 := hSw.cell cqb1 id; have ecqb2 := hSw.cell cqb2 id; have ecqb3 := hSw.cell cqb3 id; have ecqb4 := hSw.cell cqb4 id; have ecqb5 := hSw.cell cqb5 id; have ecqb6 := hSw.cell cqb6 id; have ecqb7 := hSw.cell cqb7 id; have ecqb8 := hSw.cell cqb8 id; have ecqb9 := hSw.cell cqb9 id; obtain ⟨a1, a2, a3, a4⟩ := HWA.out; obtain ⟨a5, a6, a7, a8⟩ := HWB.out; obtain ⟨d1, d2, d3, d4⟩ := HBD.out; have d5 : (i1 : Int) ≤ (j1 : Int) := (by omega); have d6 : (j1 : Int) ≤ (c : Int) := (by omega); have d7 : (i2 : Int) ≤ (j2 : Int) := (by omega); have d8 : (j2 : Int) ≤ (d : Int) := (by omega); have d9 : ¬ c = i1 := (by omega); have d10 : ¬ d = i2 := (by omega); go_simp <;> with_reducible rfl)
    try simp only [Act.put, List.setIfInBounds_toArray, List.set_cons_zero, List.set_cons_succ]
    refine wpAnyH_take (i := 21) (oi := { dst := some 38, op := Go.Op.move (Go.Operand.tmp 6), type := 3, pos := "frag.go:89", after := #[{ on := 3, ground := Go.Ground.guard }], guard := some (3, true) }) (v := ?v109) rfl (by kernel_rfl) (by kernel_rfl) (by kernel_rfl) (fun _ _ _ h => h) (Or.inl ⟨by rfl, ?hy109⟩) (by assumption) ?rest109
    case hy109 => (intro w hSw; (try dsimp only at hSw); have ecpb0 := hSw.cell cpb0 id; have ecpb1 := hSw.cell cpb1 id; have ecpb2 := hSw.cell cpb2 id; have ecpb3 := hSw.cell cpb3 id; have ecpb4 := hSw.cell cpb4 id; have ecpb5 := hSw.cell cpb5 id; have ecpb6 := hSw.cell cpb6 id; have ecpb7 := hSw.cell cpb7 id; have ecpb8 := hSw.cell cpb8 id; have ecpb9 := hSw.cell cpb9 id; have ecqb0 := hSw.cell cqb0 id; have ecqb1 := hSw.cell cqb1 id; have ecqb2 := hSw.cell cqb2 id; have ecqb3 := hSw.cell cqb3 id; have ecqb4 := hSw.cell cqb4 id; have ecqb5 := hSw.cell cqb5 id; have ecqb6 := hSw.cell cqb6 id; have ecqb7 := hSw.cell cqb7 id; have ecqb8 := hSw.cell cqb8 id; have ecqb9 := hSw.cell cqb9 id; obtain ⟨a1, a2, a3, a4⟩ := HWA.out; obtain ⟨a5, a6, a7, a8⟩ := HWB.out; obtain ⟨d1, d2, d3, d4⟩ := HBD.out; have d5 : (i1 : Int) ≤ (j1 : Int) := (by omega); have d6 : (j1 : Int) ≤ (c : Int) := (by omega); have d7 : (i2 : Int) ≤ (j2 : Int) := (by omega); have d8 : (j2 : Int) ≤ (d : Int) := (by omega); have d9 : ¬ c = i1 := (by omega); have d10 : ¬ d = i2 := (by omega); go_simp <;> with_reducible rfl)
    try simp only [Act.put, List.setIfInBounds_toArray, List.set_cons_zero, List.set_cons_succ]
    refine wpAnyH_take (i := 22) (oi := { dst := some 39, op := Go.Op.fieldAddr 27 (Go.Operand.tmp 3) 4, type := 0, pos := "frag.go:89", after := #[{ on := 3, ground := Go.Ground.guard }], guard := some (3, true) }) (v := ?v110) rfl (by kernel_rfl) (by kernel_rfl) (by kernel_rfl) (fun _ _ _ h => h) (Or.inl ⟨by rfl, ?hy110⟩) (by assumption) ?rest110
    case hy110 => (intro w hSw; (try dsimp only at hSw); have ecpb0 := hSw.cell cpb0 id; have ecpb1 := hSw.cell cpb1 id; have ecpb2 := hSw.cell cpb2 id; have ecpb3 := hSw.cell cpb3 id; have ecpb4 := hSw.cell cpb4 id; have ecpb5 := hSw.cell cpb5 id; have ecpb6 := hSw.cell cpb6 id; have ecpb7 := hSw.cell cpb7 id; have ecpb8 := hSw.cell cpb8 id; have ecpb9 := hSw.cell cpb9 id; have ecqb0 := hSw.cell cqb0 id; have ecqb1 := hSw.cell cqb1 id; have ecqb2 := hSw.cell cqb2 id; have ecqb3 := hSw.cell cqb3 id; have ecqb4 := hSw.cell cqb4 id; have ecqb5 := hSw.cell cqb5 id; have ecqb6 := hSw.cell cqb6 id; have ecqb7 := hSw.cell cqb7 id; have ecqb8 := hSw.cell cqb8 id; have ecqb9 := hSw.cell cqb9 id; obtain ⟨a1, a2, a3, a4⟩ := HWA.out; obtain ⟨a5, a6, a7, a8⟩ := HWB.out; obtain ⟨d1, d2, d3, d4⟩ := HBD.out; have d5 : (i1 : Int) ≤ (j1 : Int) := (by omega); have d6 : (j1 : Int) ≤ (c : Int) := (by omega); have d7 : (i2 : Int) ≤ (j2 : Int) := (by omega); have d8 : (j2 : Int) ≤ (d : Int) := (by omega); have d9 : ¬ c = i1 := (by omega); have d10 : ¬ d = i2 := (by omega); go_simp <;> with_reducible rfl)
    try simp only [Act.put, List.setIfInBounds_toArray, List.set_cons_zero, List.set_cons_succ]
    refine wpAnyH_take (i := 23) (oi := { dst := some 40, op := Go.Op.load 3 (Go.Operand.tmp 39), type := 3, pos := "frag.go:89", after := #[{ on := 22, ground := Go.Ground.data }, { on := 3, ground := Go.Ground.guard }], guard := some (3, true) }) (v := ?v111) rfl (by kernel_rfl) (by kernel_rfl) (by kernel_rfl) (fun _ _ _ h => h) (Or.inl ⟨by rfl, ?hy111⟩) (by assumption) ?rest111
    case hy111 => (intro w hSw; (try dsimp only at hSw); have ecpb0 := hSw.cell cpb0 id; have ecpb1 := hSw.cell cpb1 id; have ecpb2 := hSw.cell cpb2 id; have ecpb3 := hSw.cell cpb3 id; have ecpb4 := hSw.cell cpb4 id; have ecpb5 := hSw.cell cpb5 id; have ecpb6 := hSw.cell cpb6 id; have ecpb7 := hSw.cell cpb7 id; have ecpb8 := hSw.cell cpb8 id; have ecpb9 := hSw.cell cpb9 id; have ecqb0 := hSw.cell cqb0 id; have ecqb1 := hSw.cell cqb1 id; have ecqb2 := hSw.cell cqb2 id; have ecqb3 := hSw.cell cqb3 id; have ecqb4 := hSw.cell cqb4 id; have ecqb5 := hSw.cell cqb5 id; have ecqb6 := hSw.cell cqb6 id; have ecqb7 := hSw.cell cqb7 id; have ecqb8 := hSw.cell cqb8 id; have ecqb9 := hSw.cell cqb9 id; obtain ⟨a1, a2, a3, a4⟩ := HWA.out; obtain ⟨a5, a6, a7, a8⟩ := HWB.out; obtain ⟨d1, d2, d3, d4⟩ := HBD.out; have d5 : (i1 : Int) ≤ (j1 : Int) := (by omega); have d6 : (j1 : Int) ≤ (c : Int) := (by omega); have d7 : (i2 : Int) ≤ (j2 : Int) := (by omega); have d8 : (j2 : Int) ≤ (d : Int) := (by omega); have d9 : ¬ c = i1 := (by omega); have d10 : ¬ d = i2 := (by omega); go_simp <;> with_reducible rfl)
    try simp only [Act.put, List.setIfInBounds_toArray, List.set_cons_zero, List.set_cons_succ]
    refine wpAnyH_take (i := 24) (oi := { dst := some 41, op := Go.Op.binOp Go.BinOp.sub 3 (Go.Operand.tmp 38) (Go.Operand.tmp 40) 3, type := 3, pos := "frag.go:89", after := #[{ on := 21, ground := Go.Ground.data }, { on := 23, ground := Go.Ground.data }, { on := 3, ground := Go.Ground.guard }], guard := some (3, true) }) (v := ?v112) rfl (by kernel_rfl) (by kernel_rfl) (by kernel_rfl) (fun _ _ _ h => h) (Or.inl ⟨by rfl, ?hy112⟩) (by assumption) ?rest112
    case hy112 => (intro w hSw; (try dsimp only at hSw); have ecpb0 := hSw.cell cpb0 id; have ecpb1 := hSw.cell cpb1 id; have ecpb2 := hSw.cell cpb2 id; have ecpb3 := hSw.cell cpb3 id; have ecpb4 := hSw.cell cpb4 id; have ecpb5 := hSw.cell cpb5 id; have ecpb6 := hSw.cell cpb6 id; have ecpb7 := hSw.cell cpb7 id; have ecpb8 := hSw.cell cpb8 id; have ecpb9 := hSw.cell cpb9 id; have ecqb0 := hSw.cell cqb0 id; have ecqb1 := hSw.cell cqb1 id; have ecqb2 := hSw.cell cqb2 id; have ecqb3 := hSw.cell cqb3 id; have ecqb4 := hSw.cell cqb4 id; have ecqb5 := hSw.cell cqb5 id; have ecqb6 := hSw.cell cqb6 id; have ecqb7 := hSw.cell cqb7 id; have ecqb8 := hSw.cell cqb8 id; have ecqb9 := hSw.cell cqb9 id; obtain ⟨a1, a2, a3, a4⟩ := HWA.out; obtain ⟨a5, a6, a7, a8⟩ := HWB.out; obtain ⟨d1, d2, d3, d4⟩ := HBD.out; have d5 : (i1 : Int) ≤ (j1 : Int) := (by omega); have d6 : (j1 : Int) ≤ (c : Int) := (by omega); have d7 : (i2 : Int) ≤ (j2 : Int) := (by omega); have d8 : (j2 : Int) ≤ (d : Int) := (by omega); have d9 : ¬ c = i1 := (by omega); have d10 : ¬ d = i2 := (by omega); go_simp <;> with_reducible rfl)
    try simp only [Act.put, List.setIfInBounds_toArray, List.set_cons_zero, List.set_cons_succ]
    refine wpAnyH_take (i := 25) (oi := { dst := some 42, op := Go.Op.slice 25 (Go.Operand.tmp 33) (some (Go.Operand.tmp 37)) (some (Go.Operand.tmp 41)) none, type := 25, pos := "frag.go:89", after := #[{ on := 16, ground := Go.Ground.data }, { on := 20, ground := Go.Ground.data }, { on := 24, ground := Go.Ground.data }, { on := 3, ground := Go.Ground.guard }], guard := some (3, true) }) (v := ?v113) rfl (by kernel_rfl) (by kernel_rfl) (by kernel_rfl) (fun _ _ _ h => h) (Or.inl ⟨by rfl, ?hy113⟩) (by assumption) ?rest113
    case hy113 => (intro w hSw; (try dsimp only at hSw); have ecpb0 := hSw.cell cpb0 id; have ecpb1 := hSw.cell cpb1 id; have ecpb2 := hSw.cell cpb2 id; have ecpb3 := hSw.cell cpb3 id; have ecpb4 := hSw.cell cpb4 id; have ecpb5 := hSw.cell cpb5 id; have ecpb6 := hSw.cell cpb6 id; have ecpb7 := hSw.cell cpb7 id; have ecpb8 := hSw.cell cpb8 id; have ecpb9 := hSw.cell cpb9 id; have ecqb0 := hSw.cell cqb0 id; have ecqb1 := hSw.cell cqb1 id; have ecqb2 := hSw.cell cqb2 id; have ecqb3 := hSw.cell cqb3 id; have ecqb4 := hSw.cell cqb4 id; have ecqb5 := hSw.cell cqb5 id; have ecqb6 := hSw.cell cqb6 id; have ecqb7 := hSw.cell cqb7 id; have ecqb8 := hSw.cell cqb8 id; have ecqb9 := hSw.cell cqb9 id; obtain ⟨a1, a2, a3, a4⟩ := HWA.out; obtain ⟨a5, a6, a7, a8⟩ := HWB.out; obtain ⟨d1, d2, d3, d4⟩ := HBD.out; have d5 : (i1 : Int) ≤ (j1 : Int) := (by omega); have d6 : (j1 : Int) ≤ (c : Int) := (by omega); have d7 : (i2 : Int) ≤ (j2 : Int) := (by omega); have d8 : (j2 : Int) ≤ (d : Int) := (by omega); have d9 : ¬ c = i1 := (by omega); have d10 : ¬ d = i2 := (by omega); go_simp <;> with_reducible rfl)
    try simp only [Act.put, List.setIfInBounds_toArray, List.set_cons_zero, List.set_cons_succ]
    refine wpAnyH_ready (rs := [26]) (by kernel_rfl) (by simp) ?_
    refine AllReadyH.cons (o := { dst := some 43, op := Go.Op.call { callee := Go.Callee.value (Go.Operand.func 41), args := #[Go.Operand.tmp 31, Go.Operand.tmp 42], argTypes := #[25, 25] }, type := 4, pos := "frag.go:89", after := #[{ on := 14, ground := Go.Ground.data }, { on := 25, ground := Go.Ground.data }, { on := 3, ground := Go.Ground.chain }, { on := 3, ground := Go.Ground.guard }], guard := some (3, true) }) rfl (fun K hK => ?_) AllReadyH.nil
    go_simp
    refine (HEQ.out _ (HX0c.out.trans (by assumption))).mono ?_
    rintro e wn ⟨rfl, rfl⟩
    refine hK.out _ _ (by assumption) (fun _ => ?_)
    refine wpAnyH_take (i := 27) (oi := { dst := some 44, op := Go.Op.unOp Go.UnOp.not 4 (Go.Operand.tmp 43), type := 4, pos := "frag.go:89", after := #[{ on := 26, ground := Go.Ground.data }, { on := 3, ground := Go.Ground.guard }], guard := some (3, true) }) (v := ?v114) rfl (by kernel_rfl) (by kernel_rfl) (by kernel_rfl) (fun _ _ _ h => h) (Or.inl ⟨by rfl, ?hy114⟩) (by assumption) ?rest114
    case hy114 => (intro w hSw; (try dsimp only at hSw); have ecpb0 := hSw.cell cpb0 id; have ecpb1 := hSw.cell cpb1 id; have ecpb2 := hSw.cell cpb2 id; have ecpb3 := hSw.cell cpb3 id; have ecpb4 := hSw.cell cpb4 id; have ecpb5 := hSw.cell cpb5 id; have ecpb6 := hSw.cell cpb6 id; have ecpb7 := hSw.cell cpb7 id; have ecpb8 := hSw.cell cpb8 id; have ecpb9 := hSw.cell cpb9 id; have ecqb0 := hSw.cell cqb0 id; have ecqb1 := hSw.cell cqb1 id; have ecqb2 := hSw.cell cqb2 id; have ecqb3 := hSw.cell cqb3 id; have ecqb4 := hSw.cell cqb4 id; have ecqb5 := hSw.cell cqb5 id; have ecqb6 := hSw.cell cqb6 id; have ecqb7 := hSw.cell cqb7 id; have ecqb8 := hSw.cell cqb8 id; have ecqb9 := hSw.cell cqb9 id; obtain ⟨a1, a2, a3, a4⟩ := HWA.out; obtain ⟨a5, a6, a7, a8⟩ := HWB.out; obtain ⟨d1, d2, d3, d4⟩ := HBD.out; have d5 : (i1 : Int) ≤ (j1 : Int) := (by omega); have d6 : (j1 : Int) ≤ (c : Int) := (by omega); have d7 : (i2 : Int) ≤ (j2 : Int) := (by omega); have d8 : (j2 : Int) ≤ (d : Int) := (by omega); have d9 : ¬ c = i1 := (by omega); have d10 : ¬ d = i2 := (by omega); go_simp <;> with_reducible rfl)
    try simp only [Act.put, List.setIfInBounds_toArray, List.set_cons_zero, List.set_cons_succ]
    refine wpAnyH_take (i := 28) (oi := { dst := some 45, op := Go.Op.pick (Go.Operand.tmp 20) (Go.Operand.tmp 44) (Go.Operand.const (Go.Value.bool false)), type := 4, pos := "frag.go:89", after := #[{ on := 3, ground := Go.Ground.data }, { on := 27, ground := Go.Ground.data }], guard := none }) (v := ?v115) rfl (by kernel_rfl) (by kernel_rfl) (by kernel_rfl) (fun _ _ _ h => h) (Or.inl ⟨by rfl, ?hy115⟩) (by assumption) ?rest115
    case hy115 => (intro w hSw; (try dsimp only at hSw); have ecpb0 := hSw.cell cpb0 id; have ecpb1 := hSw.cell cpb1 id; have ecpb2 := hSw.cell cpb2 id; have ecpb3 := hSw.cell cpb3 id; have ecpb4 := hSw.cell cpb4 id; have ecpb5 := hSw.cell cpb5 id; have ecpb6 := hSw.cell cpb6 id; have ecpb7 := hSw.cell cpb7 id; have ecpb8 := hSw.cell cpb8 id; have ecpb9 := hSw.cell cpb9 id; have ecqb0 := hSw.cell cqb0 id; have ecqb1 := hSw.cell cqb1 id; have ecqb2 := hSw.cell cqb2 id; have ecqb3 := hSw.cell cqb3 id; have ecqb4 := hSw.cell cqb4 id; have ecqb5 := hSw.cell cqb5 id; have ecqb6 := hSw.cell cqb6 id; have ecqb7 := hSw.cell cqb7 id; have ecqb8 := hSw.cell cqb8 id; have ecqb9 := hSw.cell cqb9 id; obtain ⟨a1, a2, a3, a4⟩ := HWA.out; obtain ⟨a5, a6, a7, a8⟩ := HWB.out; obtain ⟨d1, d2, d3, d4⟩ := HBD.out; have d5 : (i1 : Int) ≤ (j1 : Int) := (by omega); have d6 : (j1 : Int) ≤ (c : Int) := (by omega); have d7 : (i2 : Int) ≤ (j2 : Int) := (by omega); have d8 : (j2 : Int) ≤ (d : Int) := (by omega); have d9 : ¬ c = i1 := (by omega); have d10 : ¬ d = i2 := (by omega); go_simp <;> with_reducible rfl)
    try simp only [Act.put, List.setIfInBounds_toArray, List.set_cons_zero, List.set_cons_succ]
    refine wpAnyH_done (by kernel_rfl) ?_ _
    clear cpb0 cpb1 cpb2 cpb3 cpb4 cpb5 cpb6 cpb7 cpb8 cpb9 cqb0 cqb1 cqb2 cqb3 cqb4 cqb5 cqb6 cqb7 cqb8 cqb9 hlt
    generalize wc.drew = wd at hS0 ⊢
    have hx := hS0
    clear hS0
    have HX_wd := Lib.hid hx
    clear hx
    replace B_pb := Lib.hid ((HX_wd.out.block pb (row_lt B_pb.out) id).trans B_pb.out)
    replace B_qb := Lib.hid ((HX_wd.out.block qb (row_lt B_qb.out) id).trans B_qb.out)
    have cpb0 := row_cell (k := 0) (v := .int .u8 xtos) B_pb.out rfl
    have cpb1 := row_cell (k := 1) (v := .int .u16 xid) B_pb.out rfl
    have cpb2 := row_cell (k := 2) (v := .bool xdf) B_pb.out rfl
    have cpb3 := row_cell (k := 3) (v := .bool xmf) B_pb.out rfl
    have cpb4 := row_cell (k := 4) (v := .int .i64 xoff) B_pb.out rfl
    have cpb5 := row_cell (k := 5) (v := .int .u8 xttl) B_pb.out rfl
    have cpb6 := row_cell (k := 6) (v := .int .u8 xpr) B_pb.out rfl
    have cpb7 := row_cell (k := 7) (v := .int .u32 xsrc) B_pb.out rfl
    have cpb8 := row_cell (k := 8) (v := .int .u32 xdst) B_pb.out rfl
    have cpb9 := row_cell (k := 9) (v := .slice (some ⟨b1, o1, none⟩) xb.length c) B_pb.out rfl
    have cqb0 := row_cell (k := 0) (v := .int .u8 ytos) B_qb.out rfl
    have cqb1 := row_cell (k := 1) (v := .int .u16 yid) B_qb.out rfl
    have cqb2 := row_cell (k := 2) (v := .bool ydf) B_qb.out rfl
    have cqb3 := row_cell (k := 3) (v := .bool ymf) B_qb.out rfl
    have cqb4 := row_cell (k := 4) (v := .int .i64 yoff) B_qb.out rfl
    have cqb5 := row_cell (k := 5) (v := .int .u8 yttl) B_qb.out rfl
    have cqb6 := row_cell (k := 6) (v := .int .u8 ypr) B_qb.out rfl
    have cqb7 := row_cell (k := 7) (v := .int .u32 ysrc) B_qb.out rfl
    have cqb8 := row_cell (k := 8) (v := .int .u32 ydst) B_qb.out rfl
    have cqb9 := row_cell (k := 9) (v := .slice (some ⟨b2, o2, none⟩) yb.length d) B_qb.out rfl
    go_wp2_with fail
    refine (H3.out wd).mono ?_
    rintro e we ⟨rfl, hx⟩
    clear cpb0 cpb1 cpb2 cpb3 cpb4 cpb5 cpb6 cpb7 cpb8 cpb9 cqb0 cqb1 cqb2 cqb3 cqb4 cqb5 cqb6 cqb7 cqb8 cqb9
    have HX_we := Lib.hid hx
    clear hx
    replace B_pb := Lib.hid ((HX_we.out.block pb (row_lt B_pb.out) id).trans B_pb.out)
    replace B_qb := Lib.hid ((HX_we.out.block qb (row_lt B_qb.out) id).trans B_qb.out)
    have cpb0 := row_cell (k := 0) (v := .int .u8 xtos) B_pb.out rfl
    have cpb1 := row_cell (k := 1) (v := .int .u16 xid) B_pb.out rfl
    have cpb2 := row_cell (k := 2) (v := .bool xdf) B_pb.out rfl
    have cpb3 := row_cell (k := 3) (v := .bool xmf) B_pb.out rfl
    have cpb4 := row_cell (k := 4) (v := .int .i64 xoff) B_pb.out rfl
    have cpb5 := row_cell (k := 5) (v := .int .u8 xttl) B_pb.out rfl
    have cpb6 := row_cell (k := 6) (v := .int .u8 xpr) B_pb.out rfl
    have cpb7 := row_cell (k := 7) (v := .int .u32 xsrc) B_pb.out rfl
    have cpb8 := row_cell (k := 8) (v := .int .u32 xdst) B_pb.out rfl
    have cpb9 := row_cell (k := 9) (v := .slice (some ⟨b1, o1, none⟩) xb.length c) B_pb.out rfl
    have cqb0 := row_cell (k := 0) (v := .int .u8 ytos) B_qb.out rfl
    have cqb1 := row_cell (k := 1) (v := .int .u16 yid) B_qb.out rfl
    have cqb2 := row_cell (k := 2) (v := .bool ydf) B_qb.out rfl
    have cqb3 := row_cell (k := 3) (v := .bool ymf) B_qb.out rfl
    have cqb4 := row_cell (k := 4) (v := .int .i64 yoff) B_qb.out rfl
    have cqb5 := row_cell (k := 5) (v := .int .u8 yttl) B_qb.out rfl
    have cqb6 := row_cell (k := 6) (v := .int .u8 ypr) B_qb.out rfl
    have cqb7 := row_cell (k := 7) (v := .int .u32 ysrc) B_qb.out rfl
    have cqb8 := row_cell (k := 8) (v := .int .u32 ydst) B_qb.out rfl
    have cqb9 := row_cell (k := 9) (v := .slice (some ⟨b2, o2, none⟩) yb.length d) B_qb.out rfl
    cases r1 with
    | true =>
      go_wp2_with fail
      go_ret
      exact ⟨rfl, ((((HX_w1.out.trans HX_w2.out).trans HX_wc.out).trans HX_wd.out).trans HX_we.out)⟩
    | false =>
      go_wp2_with fail
      refine (H4.out we).mono ?_
      rintro e wf ⟨rfl, hx⟩
      have HX_wf := Lib.hid hx
      clear hx
      go_wp2_with fail
      go_ret
      exact ⟨rfl, (((((HX_w1.out.trans HX_w2.out).trans HX_wc.out).trans HX_wd.out).trans HX_we.out).trans HX_wf.out)⟩
theorem fights_any (P Q : Nat → Prop) (p q : Pk) (A B : Option Addr) (c d : Nat) (w : World) (hp : p.sm) (hq : q.sm) (hrp : RB w P (.slice A p.b.length c) p.b) (hrq : RB w Q (.slice B q.b.length d) q.b) :
    Calls Tryd.prog 31 #[pkv p (.slice A p.b.length c), pkv q (.slice B q.b.length d)] w fun e w' => e = .returned (.bool (fightsB p q)) ∧ Ex (fun _ => False) w w' := by
  unfold fightsB
  by_cases h : fro p q < til p q
  · by_cases h2 : p.cut (fro p q) (til p q) = q.cut (fro p q) (til p q)
    · rw [decide_eq_true h, decide_eq_true h2]
      exact fights_eq P Q p q A B c d w hp hq hrp hrq h h2
    · rw [decide_eq_true h, decide_eq_false h2]
      exact fights_ne P Q p q A B c d w hp hq hrp hrq h h2
  · rw [decide_eq_false h]
    exact fights_no P Q p q A B c d w hp hq hrp hrq h
end Go.Proofs.YtabjihchcmjdmaaDoor
