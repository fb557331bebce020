/-
  The walk of Ipv4Tells. By an AI agent.
-/
import Derived.Test.YtfcfpkhcpijkfaaDoorShown05
import Derived.Test.YtfcfpkhcpijkfaaDoorStr
import Derived.Test.YtfcfpkhcpijkfaaDoorBoth05
import Derived.Deep.DeepCutAuto
import Derived.Deep.CutBlock
import Derived.HandedShaped
namespace Go.Proofs.YtfcfpkhcpijkfaaDoor
open Go.RowKit

set_option maxRecDepth 100000 in
set_option maxHeartbeats 16000000 in
theorem tells05_any (p : Pk) (A : Option Addr) (c : Nat) (B : Option Addr) (nb cb : Nat) (r : List UInt8) (w : World) (ok : p.ok) (hp : RB w (fun _ => True) (.slice A p.b.length c) p.b) (hr : RB w (fun _ => True) (.slice B nb cb) r) (hg : ET w) :
    Calls Tryd.prog 8 #[.slice B nb cb, pkv p (.slice A p.b.length c)] w fun e w' => e = .returned (.bool true) ∧ Ex (fun _ => False) w w' := by
  obtain ⟨xtos, xid, xdf, xmf, xoff, xttl, xpr, xsrc, xdst, xb⟩ := p
  simp only at hp
  obtain rfl : nb = r.length := by obtain ⟨_, _, _, e, _⟩ := hr; injection e
  obtain ⟨i0, hi, hz0, hz1, hz2⟩ := info_parts Tryd.info5
  have HG := Lib.hid hg
  have HP := Lib.hid hp
  have OKP := Lib.hid ok
  obtain ⟨s, hk, hk1, hk2, hs1⟩ : ∃ l1 : List UInt8, (if 3000 < (r.length : Int) then (3000 : Int) else (r.length : Int)) = (l1.length : Int) ∧ l1.length ≤ r.length ∧ l1.length ≤ 3000 ∧ Hid (l1 = r.take 3000) := by
    refine ⟨r.take 3000, ?_, by simp; omega, by simp; omega, rfl⟩
    rw [List.length_take]; split <;> omega
  have hki : (s.length : Int) ≤ (r.length : Int) := by omega
  have hrc : r.length ≤ cb := by obtain ⟨_, _, _, e, h, _⟩ := hr; injection e with _ _ e3; rw [e3]; exact h
  have hkc : s.length ≤ cb := by omega
  have hrt := hr.take 3000
  rw [← hs1.out] at hrt
  have HR := Lib.hid hrt
  clear hp ok hg hr hrt
  show Calls Tryd.prog 8 #[.slice B r.length cb, .agg #[.int .u8 xtos, .int .u16 xid, .bool xdf, .bool xmf, .int .i64 xoff, .int .u8 xttl, .int .u8 xpr, .int .u32 xsrc, .int .u32 xdst, .slice A xb.length c]] w _
  go_enter Tryd.func8, Tryd.ntmps8
  go_upto_region 1 with fail
  have hx : Ex (fun _ => False) w (w.alloc (.cells #[.int .u8 xtos, .int .u16 xid, .bool xdf, .bool xmf, .int .i64 xoff, .int .u8 xttl, .int .u8 xpr, .int .u32 xsrc, .int .u32 xdst, .slice A xb.length c] 51)) := (Ex.refl _ w).alloc _
  have hb : (w.alloc (.cells #[.int .u8 xtos, .int .u16 xid, .bool xdf, .bool xmf, .int .i64 xoff, .int .u8 xttl, .int .u8 xpr, .int .u32 xsrc, .int .u32 xdst, .slice A xb.length c] 51)).heap[w.heap.size]? = some (.cells #[.int .u8 xtos, .int .u16 xid, .bool xdf, .bool xmf, .int .i64 xoff, .int .u8 xttl, .int .u8 xpr, .int .u32 xsrc, .int .u32 xdst, .slice A xb.length c] 51) := heap_alloc_new w _
  obtain ⟨bp, hbp⟩ : ∃ bp, bp = w.heap.size := ⟨_, rfl⟩
  have hb_bp : w.heap.size ≤ bp := by omega
  rw [← hbp] at hb
  try simp only [← hbp]
  generalize w.alloc (.cells #[.int .u8 xtos, .int .u16 xid, .bool xdf, .bool xmf, .int .i64 xoff, .int .u8 xttl, .int .u8 xpr, .int .u32 xsrc, .int .u32 xdst, .slice A xb.length c] 51) = w1 at hx hb ⊢
  clear hbp
  have HX_w1 := Lib.hid hx
  clear hx
  have B_bp := Lib.hid hb
  clear hb
  have hlp := row_lt B_bp.out
  go_wp2_with fail
  refine (shown5_any w1 (HG.out.keep HX_w1.out id)).mono ?_
  rintro e w2 ⟨rfl, hx⟩
  have hz12 := hx.size
  have HX_w2 := Lib.hid hx
  clear hx
  have hrw := (RB.keep HR.out (HX_w1.out.trans HX_w2.out) (fun _ _ _ => id))
  have HRW := Lib.hid hrw
  clear hrw
  go_upto_region 3 with (at_builtin; refine wpList_append_ob i0 22 Tryd.underlying22 hi hz0 hz1 hz2 rfl (.tmp 17) (.tmp 22) rfl w2.heap.size (.slice (some ⟨w2.heap.size, 0, none⟩) 0 0) [] rfl (fun _ => True) (.slice B s.length cb) s rfl (OB.lit w2 w2.heap.size [] (Nat.le_refl _) (by simp)) (HRW.out.alloc _) (by simp; omega) (by simp) ?_; intro A3 c3 w3 ho3 hg3 hn3 hb3; have hx3 : Ex (fun _ => False) w2 w3 := ((Ex.refl _ w2).alloc _).grown hg3 (fun k hk => .inr (by obtain rfl := Option.some.inj hk; exact Nat.le_refl _)))
  cases A3 with
  | none => exact absurd (hn3.1 rfl).1 (by simp)
  | some A3 =>
    have hx := hx3
    have ho : OB w3 w2.heap.size (.slice (some A3) s.length c3) s := by simpa using ho3
    obtain ⟨g3, rfl, hb_g3, hg3'⟩ := ho.plain
    clear hx3 hg3 hn3 hb3 ho3 hk
    try simp only [List.length_nil, Nat.zero_add]
    have HX_w3 := Lib.hid hx
    clear hx
    have hb3 : RB w3 (fun j => j = g3) (.slice (some ⟨g3, 0, none⟩) s.length c3) s := ho.rb.mono (fun k _ h => by have := h.1; injection this with this; exact this.symm)
    have HB3 := Lib.hid hb3
    clear hb3
    have HO := Lib.hid ho
    clear ho
    have hcv := HO.out.rb.str (Pr := Tryd.prog) 22 9 5 Tryd.underlying22 Tryd.underlying5 Tryd.underlying9
    go_upto_region 4 with fail
    clear hcv
    go_wp2_with fail
    refine (parse_tv _ (some ⟨g3, 0, none⟩) s.length c3 s w3 HO.out.rb (fun h => by cases h) (by omega)).mono ?_
    rintro e w4 ⟨A4, g4, o4, v4, rfl, hg4, hb4, hf4, htv, hx⟩
    have hql := rpk_len s
    have hqo := rpk_ok s
    obtain ⟨Q, hQ⟩ : ∃ Q, rpk s = Q := ⟨_, rfl⟩
    obtain ⟨T, hT⟩ : ∃ T, rsays s = T := ⟨_, rfl⟩
    rw [hQ] at hb4 hf4 hql hqo ⊢
    rw [hT] at htv
    have hrs := fun w => rparse_any s w (by omega)
    rw [hQ, hT] at hrs
    have HRS := Lib.hid hrs
    have OKQ := Lib.hid hqo
    obtain ⟨qtos, qid, qdf, qmf, qoff, qttl, qpr, qsrc, qdst, qb⟩ := Q
    have hql' : qb.length ≤ s.length := hql
    have hv : pkv (⟨qtos, qid, qdf, qmf, qoff, qttl, qpr, qsrc, qdst, qb⟩ : Pk) (.slice A4 (⟨qtos, qid, qdf, qmf, qoff, qttl, qpr, qsrc, qdst, qb⟩ : Pk).b.length (⟨qtos, qid, qdf, qmf, qoff, qttl, qpr, qsrc, qdst, qb⟩ : Pk).b.length) = .agg #[.int .u8 qtos, .int .u16 qid, .bool qdf, .bool qmf, .int .i64 qoff, .int .u8 qttl, .int .u8 qpr, .int .u32 qsrc, .int .u32 qdst, .slice A4 qb.length qb.length] := rfl
    rw [hv]
    have hb4' : RB w4 (fun j => j = g4) (.slice A4 qb.length qb.length) qb := hb4
    have hf4' : qb ≠ [] → A4 = some ⟨g4, o4, none⟩ ∧ ∀ x, w4.frozen? ⟨g4, x, none⟩ = false := hf4
    have HF4 := Lib.hid hf4'
    clear hv hb4 hf4 hf4' hrs hqo hql hQ hT
    have HX_w4 := Lib.hid hx
    clear hx
    have HB0 := Lib.hid hb4'
    have HB4 := Lib.hid hb4'
    clear hb4'
    have TV4 := Lib.hid htv
    clear htv
    go_upto_region 5 with fail
    have hx : Ex (fun _ => False) w4 (w4.alloc (.cells #[.int .u8 qtos, .int .u16 qid, .bool qdf, .bool qmf, .int .i64 qoff, .int .u8 qttl, .int .u8 qpr, .int .u32 qsrc, .int .u32 qdst, .slice A4 qb.length qb.length] 51)) := (Ex.refl _ w4).alloc _
    have hb : (w4.alloc (.cells #[.int .u8 qtos, .int .u16 qid, .bool qdf, .bool qmf, .int .i64 qoff, .int .u8 qttl, .int .u8 qpr, .int .u32 qsrc, .int .u32 qdst, .slice A4 qb.length qb.length] 51)).heap[w4.heap.size]? = some (.cells #[.int .u8 qtos, .int .u16 qid, .bool qdf, .bool qmf, .int .i64 qoff, .int .u8 qttl, .int .u8 qpr, .int .u32 qsrc, .int .u32 qdst, .slice A4 qb.length qb.length] 51) := heap_alloc_new w4 _
    obtain ⟨xb0, hxb0⟩ : ∃ xb0, xb0 = w4.heap.size := ⟨_, rfl⟩
    have hb_xb0 : w4.heap.size ≤ xb0 := by omega
    rw [← hxb0] at hb
    try simp only [← hxb0]
    generalize w4.alloc (.cells #[.int .u8 qtos, .int .u16 qid, .bool qdf, .bool qmf, .int .i64 qoff, .int .u8 qttl, .int .u8 qpr, .int .u32 qsrc, .int .u32 qdst, .slice A4 qb.length qb.length] 51) = w5 at hx hb ⊢
    clear hxb0
    have HX_w5 := Lib.hid hx
    clear hx
    have B_xb0 := Lib.hid hb
    clear hb
    go_wp2_with fail
    refine (HRS.out w5).mono ?_
    rintro e w6 ⟨rfl, hx⟩
    have HX_w6 := Lib.hid hx
    clear hx
    have hv : rpv (⟨qtos, qid, qdf, qmf, qoff, qttl, qpr, qsrc, qdst, qb⟩ : Pk) = .agg #[.int .u32 qtos, .int .u32 qid, .bool qdf, .bool qmf, .int .i64 qoff, .int .u32 qttl, .int .u32 qpr, .int .u32 qsrc, .int .u32 qdst, .string (bs qb)] := rfl
    rw [hv]
    go_upto_region 6 with fail
    have hx : Ex (fun _ => False) w6 (w6.alloc (.cells #[.int .u32 qtos, .int .u32 qid, .bool qdf, .bool qmf, .int .i64 qoff, .int .u32 qttl, .int .u32 qpr, .int .u32 qsrc, .int .u32 qdst, .string (bs qb)] 55)) := (Ex.refl _ w6).alloc _
    have hb : (w6.alloc (.cells #[.int .u32 qtos, .int .u32 qid, .bool qdf, .bool qmf, .int .i64 qoff, .int .u32 qttl, .int .u32 qpr, .int .u32 qsrc, .int .u32 qdst, .string (bs qb)] 55)).heap[w6.heap.size]? = some (.cells #[.int .u32 qtos, .int .u32 qid, .bool qdf, .bool qmf, .int .i64 qoff, .int .u32 qttl, .int .u32 qpr, .int .u32 qsrc, .int .u32 qdst, .string (bs qb)] 55) := heap_alloc_new w6 _
    obtain ⟨yb, hyb⟩ : ∃ yb, yb = w6.heap.size := ⟨_, rfl⟩
    have hb_yb : w6.heap.size ≤ yb := by omega
    rw [← hyb] at hb
    try simp only [← hyb]
    generalize w6.alloc (.cells #[.int .u32 qtos, .int .u32 qid, .bool qdf, .bool qmf, .int .i64 qoff, .int .u32 qttl, .int .u32 qpr, .int .u32 qsrc, .int .u32 qdst, .string (bs qb)] 55) = w7 at hx hb ⊢
    clear hyb
    have HX_w7 := Lib.hid hx
    clear hx
    have B_yb := Lib.hid hb
    clear hb
    clear hv
    replace TV4 := Lib.hid (TV4.out.keep ((HX_w5.out.trans HX_w6.out).trans HX_w7.out))
    replace HB4 := Lib.hid (RB.keep HB4.out ((HX_w5.out.trans HX_w6.out).trans HX_w7.out) (fun _ _ _ => id))
    replace B_xb0 := Lib.hid (((HX_w6.out.trans HX_w7.out).block xb0 (row_lt B_xb0.out) id).trans B_xb0.out)
    have cx0 := row_cell (k := 0) (v := .int .u8 qtos) B_xb0.out rfl
    have cx1 := row_cell (k := 1) (v := .int .u16 qid) B_xb0.out rfl
    have cx2 := row_cell (k := 2) (v := .bool qdf) B_xb0.out rfl
    have cx3 := row_cell (k := 3) (v := .bool qmf) B_xb0.out rfl
    have cx4 := row_cell (k := 4) (v := .int .i64 qoff) B_xb0.out rfl
    have cx5 := row_cell (k := 5) (v := .int .u8 qttl) B_xb0.out rfl
    have cx6 := row_cell (k := 6) (v := .int .u8 qpr) B_xb0.out rfl
    have cx7 := row_cell (k := 7) (v := .int .u32 qsrc) B_xb0.out rfl
    have cx8 := row_cell (k := 8) (v := .int .u32 qdst) B_xb0.out rfl
    have cx9 := row_cell (k := 9) (v := .slice A4 qb.length qb.length) B_xb0.out rfl
    have cy0 := row_cell (k := 0) (v := .int .u32 qtos) B_yb.out rfl
    have cy1 := row_cell (k := 1) (v := .int .u32 qid) B_yb.out rfl
    have cy2 := row_cell (k := 2) (v := .bool qdf) B_yb.out rfl
    have cy3 := row_cell (k := 3) (v := .bool qmf) B_yb.out rfl
    have cy4 := row_cell (k := 4) (v := .int .i64 qoff) B_yb.out rfl
    have cy5 := row_cell (k := 5) (v := .int .u32 qttl) B_yb.out rfl
    have cy6 := row_cell (k := 6) (v := .int .u32 qpr) B_yb.out rfl
    have cy7 := row_cell (k := 7) (v := .int .u32 qsrc) B_yb.out rfl
    have cy8 := row_cell (k := 8) (v := .int .u32 qdst) B_yb.out rfl
    have cy9 := row_cell (k := 9) (v := .string (bs qb)) B_yb.out rfl
    have z1 : ∀ w, (binOp .neq 55 (rpv (⟨qtos, qid, qdf, qmf, qoff, qttl, qpr, qsrc, qdst, qb⟩ : Pk)) (.agg #[.int .u32 qtos, .int .u32 qid, .bool qdf, .bool qmf, .int .i64 qoff, .int .u32 qttl, .int .u32 qpr, .int .u32 qsrc, .int .u32 qdst, .string (bs qb)])).run Tryd.prog w = .ok (.bool false) w := fun w => by have h := rpv_neq (⟨qtos, qid, qdf, qmf, qoff, qttl, qpr, qsrc, qdst, qb⟩ : Pk) (⟨qtos, qid, qdf, qmf, qoff, qttl, qpr, qsrc, qdst, qb⟩ : Pk) w; rw [Pk.eqB_self] at h; exact h
    have z2 : ∀ w, (eqGuard .neq 55 (.tmp 42) (.tmp 43) (rpv (⟨qtos, qid, qdf, qmf, qoff, qttl, qpr, qsrc, qdst, qb⟩ : Pk)) (.agg #[.int .u32 qtos, .int .u32 qid, .bool qdf, .bool qmf, .int .i64 qoff, .int .u32 qttl, .int .u32 qpr, .int .u32 qsrc, .int .u32 qdst, .string (bs qb)])).run Tryd.prog w = .ok () w := fun w => rpv_guard .neq (.tmp 42) (.tmp 43) (⟨qtos, qid, qdf, qmf, qoff, qttl, qpr, qsrc, qdst, qb⟩ : Pk) (⟨qtos, qid, qdf, qmf, qoff, qttl, qpr, qsrc, qdst, qb⟩ : Pk) w
    have Z1 := Lib.hid z1
    have Z2 := Lib.hid z2
    clear z1 z2
    have hS0 : Ex (fun _ => False) w7 w7.drew := (Ex.refl _ w7).drew
    refine wp_region_held_drew (S := fun W => Ex (fun _ => False) w7 W) (by kernel_rfl) hS0 (fun _ => ?_)
    refine wpAnyH_take (i := 0) (oi := { dst := some 36, op := Go.Op.move (Go.Operand.tmp 8), type := 29, pos := "law.go:54", after := #[], guard := none }) (v := ?v1) rfl (by kernel_rfl) (by kernel_rfl) (by kernel_rfl) (fun _ _ _ h => h) (Or.inl ⟨by rfl, ?hy1⟩) (by assumption) ?rest1
    case hy1 => (intro w hSw; (try dsimp only at hSw); have ecx0 := hSw.cell cx0 id; have ecx1 := hSw.cell cx1 id; have ecx2 := hSw.cell cx2 id; have ecx3 := hSw.cell cx3 id; have ecx4 := hSw.cell cx4 id; have ecx5 := hSw.cell cx5 id; have ecx6 := hSw.cell cx6 id; have ecx7 := hSw.cell cx7 id; have ecx8 := hSw.cell cx8 id; have ecx9 := hSw.cell cx9 id; have ecy0 := hSw.cell cy0 id; have ecy1 := hSw.cell cy1 id; have ecy2 := hSw.cell cy2 id; have ecy3 := hSw.cell cy3 id; have ecy4 := hSw.cell cy4 id; have ecy5 := hSw.cell cy5 id; have ecy6 := hSw.cell cy6 id; have ecy7 := hSw.cell cy7 id; have ecy8 := hSw.cell cy8 id; have ecy9 := hSw.cell cy9 id; have z1 := Z1.out; have z2 := Z2.out; go_simp <;> with_reducible rfl)
    try simp only [Act.put, List.setIfInBounds_toArray, List.set_cons_zero, List.set_cons_succ]
    refine wpAnyH_take (i := 2) (oi := { dst := some 38, op := Go.Op.move (Go.Operand.tmp 10), type := 9, pos := "law.go:54", after := #[], guard := none }) (v := ?v2) rfl (by kernel_rfl) (by kernel_rfl) (by kernel_rfl) (fun _ _ _ h => h) (Or.inl ⟨by rfl, ?hy2⟩) (by assumption) ?rest2
    case hy2 => (intro w hSw; (try dsimp only at hSw); have ecx0 := hSw.cell cx0 id; have ecx1 := hSw.cell cx1 id; have ecx2 := hSw.cell cx2 id; have ecx3 := hSw.cell cx3 id; have ecx4 := hSw.cell cx4 id; have ecx5 := hSw.cell cx5 id; have ecx6 := hSw.cell cx6 id; have ecx7 := hSw.cell cx7 id; have ecx8 := hSw.cell cx8 id; have ecx9 := hSw.cell cx9 id; have ecy0 := hSw.cell cy0 id; have ecy1 := hSw.cell cy1 id; have ecy2 := hSw.cell cy2 id; have ecy3 := hSw.cell cy3 id; have ecy4 := hSw.cell cy4 id; have ecy5 := hSw.cell cy5 id; have ecy6 := hSw.cell cy6 id; have ecy7 := hSw.cell cy7 id; have ecy8 := hSw.cell cy8 id; have ecy9 := hSw.cell cy9 id; have z1 := Z1.out; have z2 := Z2.out; go_simp <;> with_reducible rfl)
    try simp only [Act.put, List.setIfInBounds_toArray, List.set_cons_zero, List.set_cons_succ]
    refine wpAnyH_ready (rs := [1]) (by kernel_rfl) (by simp) ?_
    refine AllReadyH.cons (o := { dst := some 37, op := Go.Op.call { callee := Go.Callee.value (Go.Operand.func 26), args := #[Go.Operand.tmp 36], argTypes := #[29] }, type := 9, pos := "law.go:54", after := #[{ on := 0, ground := Go.Ground.data }], guard := none }) rfl (fun K hK => ?_) AllReadyH.nil
    go_simp
    refine (told_tv (TV4.out.keep hS0)).mono ?_
    rintro e w8 ⟨rfl, hx⟩
    have hS1 := hS0.trans hx
    clear hx
    refine hK.out _ _ hS1 (fun _ => ?_)
    refine wpAnyH_take (i := 3) (oi := { dst := some 39, op := Go.Op.binOp Go.BinOp.neq 9 (Go.Operand.tmp 37) (Go.Operand.tmp 38) 9, type := 4, pos := "law.go:54", after := #[{ on := 1, ground := Go.Ground.data }, { on := 2, ground := Go.Ground.data }], guard := none }) (v := ?v3) rfl (by kernel_rfl) (by kernel_rfl) (by kernel_rfl) (fun _ _ _ h => h) (Or.inl ⟨by rfl, ?hy3⟩) (by assumption) ?rest3
    case hy3 => (intro w hSw; (try dsimp only at hSw); have ecx0 := hSw.cell cx0 id; have ecx1 := hSw.cell cx1 id; have ecx2 := hSw.cell cx2 id; have ecx3 := hSw.cell cx3 id; have ecx4 := hSw.cell cx4 id; have ecx5 := hSw.cell cx5 id; have ecx6 := hSw.cell cx6 id; have ecx7 := hSw.cell cx7 id; have ecx8 := hSw.cell cx8 id; have ecx9 := hSw.cell cx9 id; have ecy0 := hSw.cell cy0 id; have ecy1 := hSw.cell cy1 id; have ecy2 := hSw.cell cy2 id; have ecy3 := hSw.cell cy3 id; have ecy4 := hSw.cell cy4 id; have ecy5 := hSw.cell cy5 id; have ecy6 := hSw.cell cy6 id; have ecy7 := hSw.cell cy7 id; have ecy8 := hSw.cell cy8 id; have ecy9 := hSw.cell cy9 id; have z1 := Z1.out; have z2 := Z2.out; go_simp <;> with_reducible rfl)
    try simp only [Act.put, List.setIfInBounds_toArray, List.set_cons_zero, List.set_cons_succ]
    refine wpAnyH_take (i := 4) (oi := { dst := some 40, op := Go.Op.move (Go.Operand.tmp 39), type := 4, pos := "law.go:54", after := #[{ on := 3, ground := Go.Ground.data }, { on := 1, ground := Go.Ground.chain }], guard := none }) (v := ?v4) rfl (by kernel_rfl) (by kernel_rfl) (by kernel_rfl) (fun _ _ _ h => h) (Or.inl ⟨by rfl, ?hy4⟩) (by assumption) ?rest4
    case hy4 => (intro w hSw; (try dsimp only at hSw); have ecx0 := hSw.cell cx0 id; have ecx1 := hSw.cell cx1 id; have ecx2 := hSw.cell cx2 id; have ecx3 := hSw.cell cx3 id; have ecx4 := hSw.cell cx4 id; have ecx5 := hSw.cell cx5 id; have ecx6 := hSw.cell cx6 id; have ecx7 := hSw.cell cx7 id; have ecx8 := hSw.cell cx8 id; have ecx9 := hSw.cell cx9 id; have ecy0 := hSw.cell cy0 id; have ecy1 := hSw.cell cy1 id; have ecy2 := hSw.cell cy2 id; have ecy3 := hSw.cell cy3 id; have ecy4 := hSw.cell cy4 id; have ecy5 := hSw.cell cy5 id; have ecy6 := hSw.cell cy6 id; have ecy7 := hSw.cell cy7 id; have ecy8 := hSw.cell cy8 id; have ecy9 := hSw.cell cy9 id; have z1 := Z1.out; have z2 := Z2.out; go_simp <;> with_reducible rfl)
    try simp only [Act.put, List.setIfInBounds_toArray, List.set_cons_zero, List.set_cons_succ]
    refine wpAnyH_take (i := 5) (oi := { dst := some 41, op := Go.Op.load 51 (Go.Operand.tmp 7), type := 51, pos := "law.go:54", after := #[{ on := 4, ground := Go.Ground.guard }], guard := some (4, false) }) (v := ?v5) rfl (by kernel_rfl) (by kernel_rfl) (by kernel_rfl) (fun _ _ _ h => h) (Or.inl ⟨by rfl, ?hy5⟩) (by assumption) ?rest5
    case hy5 => (intro w hSw; (try dsimp only at hSw); have ecx0 := hSw.cell cx0 id; have ecx1 := hSw.cell cx1 id; have ecx2 := hSw.cell cx2 id; have ecx3 := hSw.cell cx3 id; have ecx4 := hSw.cell cx4 id; have ecx5 := hSw.cell cx5 id; have ecx6 := hSw.cell cx6 id; have ecx7 := hSw.cell cx7 id; have ecx8 := hSw.cell cx8 id; have ecx9 := hSw.cell cx9 id; have ecy0 := hSw.cell cy0 id; have ecy1 := hSw.cell cy1 id; have ecy2 := hSw.cell cy2 id; have ecy3 := hSw.cell cy3 id; have ecy4 := hSw.cell cy4 id; have ecy5 := hSw.cell cy5 id; have ecy6 := hSw.cell cy6 id; have ecy7 := hSw.cell cy7 id; have ecy8 := hSw.cell cy8 id; have ecy9 := hSw.cell cy9 id; have z1 := Z1.out; have z2 := Z2.out; go_simp <;> with_reducible rfl)
    try simp only [Act.put, List.setIfInBounds_toArray, List.set_cons_zero, List.set_cons_succ]
    refine wpAnyH_take (i := 7) (oi := { dst := some 43, op := Go.Op.load 55 (Go.Operand.tmp 9), type := 55, pos := "law.go:54", after := #[{ on := 4, ground := Go.Ground.guard }], guard := some (4, false) }) (v := ?v6) rfl (by kernel_rfl) (by kernel_rfl) (by kernel_rfl) (fun _ _ _ h => h) (Or.inl ⟨by rfl, ?hy6⟩) (by assumption) ?rest6
    case hy6 => (intro w hSw; (try dsimp only at hSw); have ecx0 := hSw.cell cx0 id; have ecx1 := hSw.cell cx1 id; have ecx2 := hSw.cell cx2 id; have ecx3 := hSw.cell cx3 id; have ecx4 := hSw.cell cx4 id; have ecx5 := hSw.cell cx5 id; have ecx6 := hSw.cell cx6 id; have ecx7 := hSw.cell cx7 id; have ecx8 := hSw.cell cx8 id; have ecx9 := hSw.cell cx9 id; have ecy0 := hSw.cell cy0 id; have ecy1 := hSw.cell cy1 id; have ecy2 := hSw.cell cy2 id; have ecy3 := hSw.cell cy3 id; have ecy4 := hSw.cell cy4 id; have ecy5 := hSw.cell cy5 id; have ecy6 := hSw.cell cy6 id; have ecy7 := hSw.cell cy7 id; have ecy8 := hSw.cell cy8 id; have ecy9 := hSw.cell cy9 id; have z1 := Z1.out; have z2 := Z2.out; go_simp <;> with_reducible rfl)
    try simp only [Act.put, List.setIfInBounds_toArray, List.set_cons_zero, List.set_cons_succ]
    refine wpAnyH_ready (rs := [6]) (by kernel_rfl) (by simp) ?_
    refine AllReadyH.cons (o := { dst := some 42, op := Go.Op.call { callee := Go.Callee.value (Go.Operand.func 27), args := #[Go.Operand.tmp 41], argTypes := #[51] }, type := 55, pos := "law.go:54", after := #[{ on := 5, ground := Go.Ground.data }, { on := 4, ground := Go.Ground.chain }, { on := 4, ground := Go.Ground.guard }], guard := some (4, false) }) rfl (fun K hK => ?_) AllReadyH.nil
    go_simp
    refine (of5_any _ (⟨qtos, qid, qdf, qmf, qoff, qttl, qpr, qsrc, qdst, qb⟩ : Pk) A4 qb.length _ OKQ.out (HB4.out.keep hS1 (fun _ _ _ => id))).mono ?_
    rintro e w9 ⟨rfl, hx⟩
    have hS2 := hS1.trans hx
    clear hx
    refine hK.out _ _ hS2 (fun _ => ?_)
    refine wpAnyH_take (i := 8) (oi := { dst := some 44, op := Go.Op.binOp Go.BinOp.neq 55 (Go.Operand.tmp 42) (Go.Operand.tmp 43) 55, type := 4, pos := "law.go:54", after := #[{ on := 6, ground := Go.Ground.data }, { on := 7, ground := Go.Ground.data }, { on := 4, ground := Go.Ground.guard }], guard := some (4, false) }) (v := ?v7) rfl (by kernel_rfl) (by kernel_rfl) (by kernel_rfl) (fun _ _ _ h => h) (Or.inl ⟨by rfl, ?hy7⟩) (by assumption) ?rest7
    case hy7 => (intro w hSw; (try dsimp only at hSw); have ecx0 := hSw.cell cx0 id; have ecx1 := hSw.cell cx1 id; have ecx2 := hSw.cell cx2 id; have ecx3 := hSw.cell cx3 id; have ecx4 := hSw.cell cx4 id; have ecx5 := hSw.cell cx5 id; have ecx6 := hSw.cell cx6 id; have ecx7 := hSw.cell cx7 id; have ecx8 := hSw.cell cx8 id; have ecx9 := hSw.cell cx9 id; have ecy0 := hSw.cell cy0 id; have ecy1 := hSw.cell cy1 id; have ecy2 := hSw.cell cy2 id; have ecy3 := hSw.cell cy3 id; have ecy4 := hSw.cell cy4 id; have ecy5 := hSw.cell cy5 id; have ecy6 := hSw.cell cy6 id; have ecy7 := hSw.cell cy7 id; have ecy8 := hSw.cell cy8 id; have ecy9 := hSw.cell cy9 id; have z1 := Z1.out; have z2 := Z2.out; go_simp <;> with_reducible rfl)
    try simp only [Act.put, List.setIfInBounds_toArray, List.set_cons_zero, List.set_cons_succ]
    refine wpAnyH_take (i := 9) (oi := { dst := some 45, op := Go.Op.pick (Go.Operand.tmp 40) (Go.Operand.const (Go.Value.bool true)) (Go.Operand.tmp 44), type := 4, pos := "law.go:54", after := #[{ on := 4, ground := Go.Ground.data }, { on := 8, ground := Go.Ground.data }], guard := none }) (v := ?v8) rfl (by kernel_rfl) (by kernel_rfl) (by kernel_rfl) (fun _ _ _ h => h) (Or.inl ⟨by rfl, ?hy8⟩) (by assumption) ?rest8
    case hy8 => (intro w hSw; (try dsimp only at hSw); have ecx0 := hSw.cell cx0 id; have ecx1 := hSw.cell cx1 id; have ecx2 := hSw.cell cx2 id; have ecx3 := hSw.cell cx3 id; have ecx4 := hSw.cell cx4 id; have ecx5 := hSw.cell cx5 id; have ecx6 := hSw.cell cx6 id; have ecx7 := hSw.cell cx7 id; have ecx8 := hSw.cell cx8 id; have ecx9 := hSw.cell cx9 id; have ecy0 := hSw.cell cy0 id; have ecy1 := hSw.cell cy1 id; have ecy2 := hSw.cell cy2 id; have ecy3 := hSw.cell cy3 id; have ecy4 := hSw.cell cy4 id; have ecy5 := hSw.cell cy5 id; have ecy6 := hSw.cell cy6 id; have ecy7 := hSw.cell cy7 id; have ecy8 := hSw.cell cy8 id; have ecy9 := hSw.cell cy9 id; have z1 := Z1.out; have z2 := Z2.out; go_simp <;> with_reducible rfl)
    try simp only [Act.put, List.setIfInBounds_toArray, List.set_cons_zero, List.set_cons_succ]
    refine wpAnyH_done (by kernel_rfl) ?_ _
    have hx := hS2
    clear hS0 hS1 hS2 cx0 cx1 cx2 cx3 cx4 cx5 cx6 cx7 cx8 cx9 cy0 cy1 cy2 cy3 cy4 cy5 cy6 cy7 cy8 cy9
    have HX_w9 := Lib.hid hx
    clear hx
    replace B_xb0 := Lib.hid ((HX_w9.out.block xb0 (row_lt B_xb0.out) id).trans B_xb0.out)
    replace HB4 := Lib.hid (RB.keep HB4.out HX_w9.out (fun _ _ _ => id))
    have hb_g4 := hg4
    have hlt4 : qb ≠ [] → g4 < w4.heap.size ∧ A4 = some ⟨g4, o4, none⟩ := fun hn => by
      have hp := List.length_pos_iff.2 hn
      obtain ⟨_, A', c', e', _, hcell⟩ := HB0.out
      obtain ⟨b', off', hA', hb', hc'⟩ := hcell 0 hp
      subst hb'
      exact ⟨World.block_lt_of_cell? w4 _ hc', (HF4.out hn).1⟩
    have hf9 : qb ≠ [] → ∀ x, w9.frozen? ⟨g4, x, none⟩ = false := fun hn x => ((((HX_w5.out.trans HX_w6.out).trans HX_w7.out).trans HX_w9.out).frozen (p := ⟨g4, x, none⟩) (hlt4 hn).1 id).trans ((HF4.out hn).2 x)
    have hc9 : ∀ x, x < qb.length → ∃ m, w9.cell? ⟨g4, o4 + x, none⟩ = some (.int .u8 m) := fun x hx => by
      obtain ⟨_, A', c', e', _, hcell⟩ := HB4.out
      injection e' with e1 e2 e3
      subst e1
      obtain ⟨b', off', hA', hb', hc'⟩ := hcell x hx
      have hA2 := (hlt4 (by intro h; rw [h] at hx; exact absurd hx (by simp))).2
      rw [hA2] at hA'
      injection hA' with hA'
      injection hA' with h1 h2
      subst h1 h2
      exact ⟨_, hc'⟩
    have HLT4 := Lib.hid hlt4
    have HF9 := Lib.hid hf9
    have HC9 := Lib.hid hc9
    have hx0 := Lib.hid (Ex.refl (fun x => qb ≠ [] ∧ x = g4) w9)
    clear hlt4 hf9 hc9
    have hz49 := (((HX_w5.out.trans HX_w6.out).trans HX_w7.out).trans HX_w9.out).size
    go_wp2_with fail
    go_loopw [11] (fun i wl => ∃ j : Nat, j ≤ qb.length ∧ i = .int .i64 (j : Int) ∧ Hid (∀ x, x < qb.length → ∃ m, wl.cell? ⟨g4, o4 + x, none⟩ = some (.int .u8 m)) ∧ Hid (qb ≠ [] → ∀ x, wl.frozen? ⟨g4, x, none⟩ = false) ∧ Hid (Ex (fun x => qb ≠ [] ∧ x = g4) w9 wl)) (fun i _ => qb.length - (intOf i).toNat)
    case atStart => exact ⟨0, by omega, rfl, HC9, HF9, hx0⟩
    case round =>
      clear hx0
      obtain ⟨j, hj, rfl, hcj, hfj, hxj⟩ := hrel
      have hbx := (hxj.out.block xb0 (row_lt B_xb0.out) (fun h => by have := (HLT4.out h.1).1; have := h.2; omega)).trans B_xb0.out
      have c9 := row_cell (k := 9) (v := .slice A4 qb.length qb.length) hbx rfl
      clear hbx
      by_cases dj : j < qb.length
      ·
        have hne : qb ≠ [] := by intro h; rw [h] at dj; exact absurd dj (by simp)
        have hA := (HLT4.out hne).2
        rw [hA] at c9
        obtain ⟨m0, hm0⟩ := hcj.out j dj
        have hfz := hfj.out hne (o4 + j)
        go_wp2_with fail
        go_roundw
        case rel => exact ⟨j + 1, by omega, by go_num, Lib.hid (fun x hx => someInt_setCell (hcj.out x hx) _ _), Lib.hid (fun hn x => (World.frozen?_setCell _ _ _ _).trans (hfj.out hn x)), Lib.hid (hxj.out.setCell (p := ⟨g4, o4 + j, none⟩) (.inl ⟨hne, rfl⟩) _)⟩
        case measure => simp [intOf]; omega
      ·
        have hx : Ex (fun x => x = g4) w9 wr := hxj.out.mono (fun _ _ h => h.2)
        clear hcj hfj hxj
        have HX_wr := Lib.hid hx
        clear hx
        have hsz3 := HX_w4.out.size
        have hsz03 := (HX_w2.out.trans HX_w3.out).size
        have ne_bp_g4 : bp ≠ g4 := by omega
        have ne_g3_g4 : g3 ≠ g4 := by omega
        have ne_bp_g3 : bp ≠ g3 := by omega
        replace B_bp := Lib.hid (((((((((HX_w2.out.trans HX_w3.out).trans HX_w4.out).trans HX_w5.out).trans HX_w6.out).trans HX_w7.out).trans HX_w9.out).andThen HX_wr.out (fun i hi e => by have := (HX_w2.out.trans HX_w3.out).size; have := hb_g4; omega)).block bp (row_lt B_bp.out) id).trans B_bp.out)
        have cbp0 := row_cell (k := 0) (v := .int .u8 xtos) B_bp.out rfl
        have cbp1 := row_cell (k := 1) (v := .int .u16 xid) B_bp.out rfl
        have cbp2 := row_cell (k := 2) (v := .bool xdf) B_bp.out rfl
        have cbp3 := row_cell (k := 3) (v := .bool xmf) B_bp.out rfl
        have cbp4 := row_cell (k := 4) (v := .int .i64 xoff) B_bp.out rfl
        have cbp5 := row_cell (k := 5) (v := .int .u8 xttl) B_bp.out rfl
        have cbp6 := row_cell (k := 6) (v := .int .u8 xpr) B_bp.out rfl
        have cbp7 := row_cell (k := 7) (v := .int .u32 xsrc) B_bp.out rfl
        have cbp8 := row_cell (k := 8) (v := .int .u32 xdst) B_bp.out rfl
        have cbp9 := row_cell (k := 9) (v := .slice A xb.length c) B_bp.out rfl
        have fbp0 := row_frozen B_bp.out 0
        have fbp1 := row_frozen B_bp.out 1
        have fbp2 := row_frozen B_bp.out 2
        have fbp3 := row_frozen B_bp.out 3
        have fbp4 := row_frozen B_bp.out 4
        have fbp5 := row_frozen B_bp.out 5
        have fbp6 := row_frozen B_bp.out 6
        have fbp7 := row_frozen B_bp.out 7
        have fbp8 := row_frozen B_bp.out 8
        have fbp9 := row_frozen B_bp.out 9
        go_wp2_with fail
        refine (few5_any _ (⟨xtos, xid, xdf, xmf, xoff, xttl, xpr, xsrc, xdst, xb⟩ : Pk) A c wr (RB.keep HP.out ((((((((HX_w1.out.trans HX_w2.out).trans HX_w3.out).trans HX_w4.out).trans HX_w5.out).trans HX_w6.out).trans HX_w7.out).trans HX_w9.out).andThen HX_wr.out (fun i hi e => by have := ((HX_w1.out.trans HX_w2.out).trans HX_w3.out).size; have := hb_g4; omega)) (fun _ _ _ => id))).mono ?_
        rintro e wf ⟨xA, xc, rfl, ho, hx⟩
        obtain ⟨xl, hxl⟩ : ∃ l, l = xb.take 3000 := ⟨_, rfl⟩
        have hfw : (⟨xtos, xid, xdf, xmf, xoff, xttl, xpr, xsrc, xdst, xb⟩ : Pk).few 3000 = (⟨xtos, xid, xdf, xmf, xoff, xttl, xpr, xsrc, xdst, xl⟩ : Pk) := by rw [hxl]; rfl
        rw [hfw] at ho ⊢
        have hxn : xl.length ≤ 3000 := by rw [hxl, List.length_take]; omega
        have hv : pkv (⟨xtos, xid, xdf, xmf, xoff, xttl, xpr, xsrc, xdst, xl⟩ : Pk) (.slice (some xA) (⟨xtos, xid, xdf, xmf, xoff, xttl, xpr, xsrc, xdst, xl⟩ : Pk).b.length xc) = .agg #[.int .u8 xtos, .int .u16 xid, .bool xdf, .bool xmf, .int .i64 xoff, .int .u8 xttl, .int .u8 xpr, .int .u32 xsrc, .int .u32 xdst, .slice (some xA) xl.length xc] := rfl
        rw [hv]
        have ho' : OB wf wr.heap.size (.slice (some xA) xl.length xc) xl := ho
        clear hv hfw hxl ho cbp0 cbp1 cbp2 cbp3 cbp4 cbp5 cbp6 cbp7 cbp8 cbp9 fbp0 fbp1 fbp2 fbp3 fbp4 fbp5 fbp6 fbp7 fbp8 fbp9
        have HX_wf := Lib.hid hx
        clear hx
        have HO_x := Lib.hid ho'
        clear ho'
        have hbl_bp := row_lt B_bp.out
        replace B_bp := Lib.hid ((HX_wf.out.block bp (row_lt B_bp.out) id).trans B_bp.out)
        have cbp0 := row_cell (k := 0) (v := .int .u8 xtos) B_bp.out rfl
        have cbp1 := row_cell (k := 1) (v := .int .u16 xid) B_bp.out rfl
        have cbp2 := row_cell (k := 2) (v := .bool xdf) B_bp.out rfl
        have cbp3 := row_cell (k := 3) (v := .bool xmf) B_bp.out rfl
        have cbp4 := row_cell (k := 4) (v := .int .i64 xoff) B_bp.out rfl
        have cbp5 := row_cell (k := 5) (v := .int .u8 xttl) B_bp.out rfl
        have cbp6 := row_cell (k := 6) (v := .int .u8 xpr) B_bp.out rfl
        have cbp7 := row_cell (k := 7) (v := .int .u32 xsrc) B_bp.out rfl
        have cbp8 := row_cell (k := 8) (v := .int .u32 xdst) B_bp.out rfl
        have cbp9 := row_cell (k := 9) (v := .slice A xb.length c) B_bp.out rfl
        have fbp0 := row_frozen B_bp.out 0
        have fbp1 := row_frozen B_bp.out 1
        have fbp2 := row_frozen B_bp.out 2
        have fbp3 := row_frozen B_bp.out 3
        have fbp4 := row_frozen B_bp.out 4
        have fbp5 := row_frozen B_bp.out 5
        have fbp6 := row_frozen B_bp.out 6
        have fbp7 := row_frozen B_bp.out 7
        have fbp8 := row_frozen B_bp.out 8
        have fbp9 := row_frozen B_bp.out 9
        go_upto_region 13 with fail
        have r0 : (wf.setCell ⟨bp, 0, none⟩ (.int .u8 xtos)).heap[bp]? = some (.cells #[.int .u8 xtos, .int .u16 xid, .bool xdf, .bool xmf, .int .i64 xoff, .int .u8 xttl, .int .u8 xpr, .int .u32 xsrc, .int .u32 xdst, .slice A xb.length c] 51) := row_set B_bp.out 0 (.int .u8 xtos)
        have r1 : ((wf.setCell ⟨bp, 0, none⟩ (.int .u8 xtos)).setCell ⟨bp, 1, none⟩ (.int .u16 xid)).heap[bp]? = some (.cells #[.int .u8 xtos, .int .u16 xid, .bool xdf, .bool xmf, .int .i64 xoff, .int .u8 xttl, .int .u8 xpr, .int .u32 xsrc, .int .u32 xdst, .slice A xb.length c] 51) := row_set r0 1 (.int .u16 xid)
        clear r0
        have r2 : (((wf.setCell ⟨bp, 0, none⟩ (.int .u8 xtos)).setCell ⟨bp, 1, none⟩ (.int .u16 xid)).setCell ⟨bp, 2, none⟩ (.bool xdf)).heap[bp]? = some (.cells #[.int .u8 xtos, .int .u16 xid, .bool xdf, .bool xmf, .int .i64 xoff, .int .u8 xttl, .int .u8 xpr, .int .u32 xsrc, .int .u32 xdst, .slice A xb.length c] 51) := row_set r1 2 (.bool xdf)
        clear r1
        have r3 : ((((wf.setCell ⟨bp, 0, none⟩ (.int .u8 xtos)).setCell ⟨bp, 1, none⟩ (.int .u16 xid)).setCell ⟨bp, 2, none⟩ (.bool xdf)).setCell ⟨bp, 3, none⟩ (.bool xmf)).heap[bp]? = some (.cells #[.int .u8 xtos, .int .u16 xid, .bool xdf, .bool xmf, .int .i64 xoff, .int .u8 xttl, .int .u8 xpr, .int .u32 xsrc, .int .u32 xdst, .slice A xb.length c] 51) := row_set r2 3 (.bool xmf)
        clear r2
        have r4 : (((((wf.setCell ⟨bp, 0, none⟩ (.int .u8 xtos)).setCell ⟨bp, 1, none⟩ (.int .u16 xid)).setCell ⟨bp, 2, none⟩ (.bool xdf)).setCell ⟨bp, 3, none⟩ (.bool xmf)).setCell ⟨bp, 4, none⟩ (.int .i64 xoff)).heap[bp]? = some (.cells #[.int .u8 xtos, .int .u16 xid, .bool xdf, .bool xmf, .int .i64 xoff, .int .u8 xttl, .int .u8 xpr, .int .u32 xsrc, .int .u32 xdst, .slice A xb.length c] 51) := row_set r3 4 (.int .i64 xoff)
        clear r3
        have r5 : ((((((wf.setCell ⟨bp, 0, none⟩ (.int .u8 xtos)).setCell ⟨bp, 1, none⟩ (.int .u16 xid)).setCell ⟨bp, 2, none⟩ (.bool xdf)).setCell ⟨bp, 3, none⟩ (.bool xmf)).setCell ⟨bp, 4, none⟩ (.int .i64 xoff)).setCell ⟨bp, 5, none⟩ (.int .u8 xttl)).heap[bp]? = some (.cells #[.int .u8 xtos, .int .u16 xid, .bool xdf, .bool xmf, .int .i64 xoff, .int .u8 xttl, .int .u8 xpr, .int .u32 xsrc, .int .u32 xdst, .slice A xb.length c] 51) := row_set r4 5 (.int .u8 xttl)
        clear r4
        have r6 : (((((((wf.setCell ⟨bp, 0, none⟩ (.int .u8 xtos)).setCell ⟨bp, 1, none⟩ (.int .u16 xid)).setCell ⟨bp, 2, none⟩ (.bool xdf)).setCell ⟨bp, 3, none⟩ (.bool xmf)).setCell ⟨bp, 4, none⟩ (.int .i64 xoff)).setCell ⟨bp, 5, none⟩ (.int .u8 xttl)).setCell ⟨bp, 6, none⟩ (.int .u8 xpr)).heap[bp]? = some (.cells #[.int .u8 xtos, .int .u16 xid, .bool xdf, .bool xmf, .int .i64 xoff, .int .u8 xttl, .int .u8 xpr, .int .u32 xsrc, .int .u32 xdst, .slice A xb.length c] 51) := row_set r5 6 (.int .u8 xpr)
        clear r5
        have r7 : ((((((((wf.setCell ⟨bp, 0, none⟩ (.int .u8 xtos)).setCell ⟨bp, 1, none⟩ (.int .u16 xid)).setCell ⟨bp, 2, none⟩ (.bool xdf)).setCell ⟨bp, 3, none⟩ (.bool xmf)).setCell ⟨bp, 4, none⟩ (.int .i64 xoff)).setCell ⟨bp, 5, none⟩ (.int .u8 xttl)).setCell ⟨bp, 6, none⟩ (.int .u8 xpr)).setCell ⟨bp, 7, none⟩ (.int .u32 xsrc)).heap[bp]? = some (.cells #[.int .u8 xtos, .int .u16 xid, .bool xdf, .bool xmf, .int .i64 xoff, .int .u8 xttl, .int .u8 xpr, .int .u32 xsrc, .int .u32 xdst, .slice A xb.length c] 51) := row_set r6 7 (.int .u32 xsrc)
        clear r6
        have r8 : (((((((((wf.setCell ⟨bp, 0, none⟩ (.int .u8 xtos)).setCell ⟨bp, 1, none⟩ (.int .u16 xid)).setCell ⟨bp, 2, none⟩ (.bool xdf)).setCell ⟨bp, 3, none⟩ (.bool xmf)).setCell ⟨bp, 4, none⟩ (.int .i64 xoff)).setCell ⟨bp, 5, none⟩ (.int .u8 xttl)).setCell ⟨bp, 6, none⟩ (.int .u8 xpr)).setCell ⟨bp, 7, none⟩ (.int .u32 xsrc)).setCell ⟨bp, 8, none⟩ (.int .u32 xdst)).heap[bp]? = some (.cells #[.int .u8 xtos, .int .u16 xid, .bool xdf, .bool xmf, .int .i64 xoff, .int .u8 xttl, .int .u8 xpr, .int .u32 xsrc, .int .u32 xdst, .slice A xb.length c] 51) := row_set r7 8 (.int .u32 xdst)
        clear r7
        have r9 : ((((((((((wf.setCell ⟨bp, 0, none⟩ (.int .u8 xtos)).setCell ⟨bp, 1, none⟩ (.int .u16 xid)).setCell ⟨bp, 2, none⟩ (.bool xdf)).setCell ⟨bp, 3, none⟩ (.bool xmf)).setCell ⟨bp, 4, none⟩ (.int .i64 xoff)).setCell ⟨bp, 5, none⟩ (.int .u8 xttl)).setCell ⟨bp, 6, none⟩ (.int .u8 xpr)).setCell ⟨bp, 7, none⟩ (.int .u32 xsrc)).setCell ⟨bp, 8, none⟩ (.int .u32 xdst)).setCell ⟨bp, 9, none⟩ (.slice (some xA) xl.length xc)).heap[bp]? = some (.cells #[.int .u8 xtos, .int .u16 xid, .bool xdf, .bool xmf, .int .i64 xoff, .int .u8 xttl, .int .u8 xpr, .int .u32 xsrc, .int .u32 xdst, .slice (some xA) xl.length xc] 51) := row_set r8 9 (.slice (some xA) xl.length xc)
        clear r8
        have hx : Ex (fun j => j = bp) wf ((((((((((wf.setCell ⟨bp, 0, none⟩ (.int .u8 xtos)).setCell ⟨bp, 1, none⟩ (.int .u16 xid)).setCell ⟨bp, 2, none⟩ (.bool xdf)).setCell ⟨bp, 3, none⟩ (.bool xmf)).setCell ⟨bp, 4, none⟩ (.int .i64 xoff)).setCell ⟨bp, 5, none⟩ (.int .u8 xttl)).setCell ⟨bp, 6, none⟩ (.int .u8 xpr)).setCell ⟨bp, 7, none⟩ (.int .u32 xsrc)).setCell ⟨bp, 8, none⟩ (.int .u32 xdst)).setCell ⟨bp, 9, none⟩ (.slice (some xA) xl.length xc)) := (((((((((((Ex.refl (fun j => j = bp) wf).setCell (p := ⟨bp, 0, none⟩) (.inl rfl) (.int .u8 xtos)).setCell (p := ⟨bp, 1, none⟩) (.inl rfl) (.int .u16 xid)).setCell (p := ⟨bp, 2, none⟩) (.inl rfl) (.bool xdf)).setCell (p := ⟨bp, 3, none⟩) (.inl rfl) (.bool xmf)).setCell (p := ⟨bp, 4, none⟩) (.inl rfl) (.int .i64 xoff)).setCell (p := ⟨bp, 5, none⟩) (.inl rfl) (.int .u8 xttl)).setCell (p := ⟨bp, 6, none⟩) (.inl rfl) (.int .u8 xpr)).setCell (p := ⟨bp, 7, none⟩) (.inl rfl) (.int .u32 xsrc)).setCell (p := ⟨bp, 8, none⟩) (.inl rfl) (.int .u32 xdst)).setCell (p := ⟨bp, 9, none⟩) (.inl rfl) (.slice (some xA) xl.length xc))
        clear cbp0 cbp1 cbp2 cbp3 cbp4 cbp5 cbp6 cbp7 cbp8 cbp9 fbp0 fbp1 fbp2 fbp3 fbp4 fbp5 fbp6 fbp7 fbp8 fbp9
        generalize ((((((((((wf.setCell ⟨bp, 0, none⟩ (.int .u8 xtos)).setCell ⟨bp, 1, none⟩ (.int .u16 xid)).setCell ⟨bp, 2, none⟩ (.bool xdf)).setCell ⟨bp, 3, none⟩ (.bool xmf)).setCell ⟨bp, 4, none⟩ (.int .i64 xoff)).setCell ⟨bp, 5, none⟩ (.int .u8 xttl)).setCell ⟨bp, 6, none⟩ (.int .u8 xpr)).setCell ⟨bp, 7, none⟩ (.int .u32 xsrc)).setCell ⟨bp, 8, none⟩ (.int .u32 xdst)).setCell ⟨bp, 9, none⟩ (.slice (some xA) xl.length xc)) = wg at r9 hx ⊢
        replace B_bp := Lib.hid r9
        clear r9
        have HX_wg := Lib.hid hx
        clear hx
        clear c9
        have cbp0 := row_cell (k := 0) (v := .int .u8 xtos) B_bp.out rfl
        have cbp1 := row_cell (k := 1) (v := .int .u16 xid) B_bp.out rfl
        have cbp2 := row_cell (k := 2) (v := .bool xdf) B_bp.out rfl
        have cbp3 := row_cell (k := 3) (v := .bool xmf) B_bp.out rfl
        have cbp4 := row_cell (k := 4) (v := .int .i64 xoff) B_bp.out rfl
        have cbp5 := row_cell (k := 5) (v := .int .u8 xttl) B_bp.out rfl
        have cbp6 := row_cell (k := 6) (v := .int .u8 xpr) B_bp.out rfl
        have cbp7 := row_cell (k := 7) (v := .int .u32 xsrc) B_bp.out rfl
        have cbp8 := row_cell (k := 8) (v := .int .u32 xdst) B_bp.out rfl
        have cbp9 := row_cell (k := 9) (v := .slice (some xA) xl.length xc) B_bp.out rfl
        have okl : (⟨xtos, xid, xdf, xmf, xoff, xttl, xpr, xsrc, xdst, xl⟩ : Pk).ok := OKP.out
        have hT2a := fun w => right_tv (⟨xtos, xid, xdf, xmf, xoff, xttl, xpr, xsrc, xdst, xl⟩ : Pk) (some xA) xc w (by show xl.length ≤ _; omega)
        have hT2b := fun P w ok hr => bytes_tv P (⟨xtos, xid, xdf, xmf, xoff, xttl, xpr, xsrc, xdst, xl⟩ : Pk) (some xA) xc w ok hr (by show xl.length ≤ _; omega)
        have hT2c := fun w => rfbytes_any (⟨xtos, xid, xdf, xmf, xoff, xttl, xpr, xsrc, xdst, xl⟩ : Pk) w (by show xl.length ≤ _; omega)
        obtain ⟨T2, hT2⟩ : ∃ T, rtx [lay5] (⟨xtos, xid, xdf, xmf, xoff, xttl, xpr, xsrc, xdst, xl⟩ : Pk).right = T := ⟨_, rfl⟩
        rw [hT2] at hT2a hT2b hT2c
        clear hT2
        have HRI := Lib.hid hT2a
        have HBY := Lib.hid hT2b
        have HRB := Lib.hid hT2c
        clear hT2a hT2b hT2c
        go_wp2_with fail
        refine (HBY.out _ wg okl (OB.keepB HO_x.out HX_wg.out (by omega)).rb).mono ?_
        rintro e wb ⟨AB, lB, cB, vB, rfl, hbB, heB, htB, hx⟩
        clear okl cbp0 cbp1 cbp2 cbp3 cbp4 cbp5 cbp6 cbp7 cbp8 cbp9
        have HX_wb := Lib.hid hx
        clear hx
        have HBB := Lib.hid hbB
        have TVB := Lib.hid htB
        clear hbB htB
        have HEB := Lib.hid heB
        clear heB
        replace B_bp := Lib.hid ((HX_wb.out.block bp (row_lt B_bp.out) id).trans B_bp.out)
        have cbp0 := row_cell (k := 0) (v := .int .u8 xtos) B_bp.out rfl
        have cbp1 := row_cell (k := 1) (v := .int .u16 xid) B_bp.out rfl
        have cbp2 := row_cell (k := 2) (v := .bool xdf) B_bp.out rfl
        have cbp3 := row_cell (k := 3) (v := .bool xmf) B_bp.out rfl
        have cbp4 := row_cell (k := 4) (v := .int .i64 xoff) B_bp.out rfl
        have cbp5 := row_cell (k := 5) (v := .int .u8 xttl) B_bp.out rfl
        have cbp6 := row_cell (k := 6) (v := .int .u8 xpr) B_bp.out rfl
        have cbp7 := row_cell (k := 7) (v := .int .u32 xsrc) B_bp.out rfl
        have cbp8 := row_cell (k := 8) (v := .int .u32 xdst) B_bp.out rfl
        have cbp9 := row_cell (k := 9) (v := .slice (some xA) xl.length xc) B_bp.out rfl
        go_upto_region 14 with fail
        go_wp2_with fail
        refine (of5_any _ (⟨xtos, xid, xdf, xmf, xoff, xttl, xpr, xsrc, xdst, xl⟩ : Pk) (some xA) xc _ OKP.out (OB.keep (OB.keepB HO_x.out HX_wg.out (by omega)) HX_wb.out (fun _ _ _ _ => id)).rb).mono ?_
        rintro e wo ⟨rfl, hx⟩
        clear cbp0 cbp1 cbp2 cbp3 cbp4 cbp5 cbp6 cbp7 cbp8 cbp9
        have HX_wo := Lib.hid hx
        clear hx
        go_wp2_with fail
        refine (HRB.out wo OKP.out).mono ?_
        rintro e wq ⟨rfl, hx⟩
        rw [HEB.out]
        have HX_wq := Lib.hid hx
        clear hx
        go_upto_region 15 with fail
        replace HB3 := Lib.hid (RB.keep (RB.keep (RB.keep HB3.out ((((((HX_w4.out.trans HX_w5.out).trans HX_w6.out).trans HX_w7.out).trans HX_w9.out).andThen HX_wr.out (fun i hi e => by have := hb_g4; omega)).trans HX_wf.out) (fun _ _ _ => id)) HX_wg.out (fun k _ hk e => ne_bp_g3.symm (hk.symm.trans e))) ((HX_wb.out.trans HX_wo.out).trans HX_wq.out) (fun _ _ _ => id))
        replace HBB := Lib.hid (RB.keep HBB.out (HX_wo.out.trans HX_wq.out) (fun _ _ _ => id))
        replace TVB := Lib.hid (TVB.out.keep (HX_wo.out.trans HX_wq.out))
        replace HO_x := Lib.hid (OB.keep (OB.keepB HO_x.out HX_wg.out (by omega)) ((HX_wb.out.trans HX_wo.out).trans HX_wq.out) (fun _ _ _ _ => id))
        replace B_bp := Lib.hid (((HX_wo.out.trans HX_wq.out).block bp (row_lt B_bp.out) id).trans B_bp.out)
        have cbp0 := row_cell (k := 0) (v := .int .u8 xtos) B_bp.out rfl
        have cbp1 := row_cell (k := 1) (v := .int .u16 xid) B_bp.out rfl
        have cbp2 := row_cell (k := 2) (v := .bool xdf) B_bp.out rfl
        have cbp3 := row_cell (k := 3) (v := .bool xmf) B_bp.out rfl
        have cbp4 := row_cell (k := 4) (v := .int .i64 xoff) B_bp.out rfl
        have cbp5 := row_cell (k := 5) (v := .int .u8 xttl) B_bp.out rfl
        have cbp6 := row_cell (k := 6) (v := .int .u8 xpr) B_bp.out rfl
        have cbp7 := row_cell (k := 7) (v := .int .u32 xsrc) B_bp.out rfl
        have cbp8 := row_cell (k := 8) (v := .int .u32 xdst) B_bp.out rfl
        have cbp9 := row_cell (k := 9) (v := .slice (some xA) xl.length xc) B_bp.out rfl
        have hsT : (T2.toList == T2.toList) = true := by simp
        have hsS : ((bs s).toList == (bs s).toList) = true := by simp
        have hsL : ((bs lB).toList == (bs lB).toList) = true := by simp
        have hq3 := HB3.out.str (Pr := Tryd.prog) 22 9 5 Tryd.underlying22 Tryd.underlying5 Tryd.underlying9
        have hqB := HBB.out.str (Pr := Tryd.prog) 22 9 5 Tryd.underlying22 Tryd.underlying5 Tryd.underlying9
        go_wp2_with fail
        refine (told_tv TVB.out).mono ?_
        rintro e wt ⟨rfl, hx⟩
        clear hq3 hqB cbp0 cbp1 cbp2 cbp3 cbp4 cbp5 cbp6 cbp7 cbp8 cbp9
        have HX_wt := Lib.hid hx
        clear hx
        replace B_bp := Lib.hid ((HX_wt.out.block bp (row_lt B_bp.out) id).trans B_bp.out)
        have cbp0 := row_cell (k := 0) (v := .int .u8 xtos) B_bp.out rfl
        have cbp1 := row_cell (k := 1) (v := .int .u16 xid) B_bp.out rfl
        have cbp2 := row_cell (k := 2) (v := .bool xdf) B_bp.out rfl
        have cbp3 := row_cell (k := 3) (v := .bool xmf) B_bp.out rfl
        have cbp4 := row_cell (k := 4) (v := .int .i64 xoff) B_bp.out rfl
        have cbp5 := row_cell (k := 5) (v := .int .u8 xttl) B_bp.out rfl
        have cbp6 := row_cell (k := 6) (v := .int .u8 xpr) B_bp.out rfl
        have cbp7 := row_cell (k := 7) (v := .int .u32 xsrc) B_bp.out rfl
        have cbp8 := row_cell (k := 8) (v := .int .u32 xdst) B_bp.out rfl
        have cbp9 := row_cell (k := 9) (v := .slice (some xA) xl.length xc) B_bp.out rfl
        go_wp2_with fail
        refine (HRI.out _).mono ?_
        rintro e wu ⟨v7, rfl, ht7, hx⟩
        have TV7 := Lib.hid ht7
        clear ht7 cbp0 cbp1 cbp2 cbp3 cbp4 cbp5 cbp6 cbp7 cbp8 cbp9
        have HX_wu := Lib.hid hx
        clear hx
        go_wp2_with fail
        refine (told_tv TV7.out).mono ?_
        rintro e wv ⟨rfl, hx⟩
        have HX_wv := Lib.hid hx
        clear hx
        go_wp2_with fail
        go_ret
        exact ⟨rfl, ((((((((((((((((HX_w1.out.trans HX_w2.out).trans HX_w3.out).trans HX_w4.out).trans HX_w5.out).trans HX_w6.out).trans HX_w7.out).trans HX_w9.out).andThen HX_wr.out (fun i hi e => by have := ((HX_w1.out.trans HX_w2.out).trans HX_w3.out).size; have := hb_g4; omega)).trans HX_wf.out).andThen HX_wg.out (fun i hi e => by have := hb_bp; omega)).trans HX_wb.out).trans HX_wo.out).trans HX_wq.out).trans HX_wt.out).trans HX_wu.out).trans HX_wv.out)⟩
end Go.Proofs.YtfcfpkhcpijkfaaDoor
