/-
  The walk of UdpTells. By an AI agent.
-/
import Derived.Test.YtfcfpkhcpijkfaaDoorUnlike06
import Derived.Test.YtfcfpkhcpijkfaaDoorBoth06
import Derived.Deep.DeepCutAuto
import Derived.Deep.CutBlock
import Derived.HandedShaped
namespace Go.Proofs.YtfcfpkhcpijkfaaDoor
open Go.RowKit

set_option maxRecDepth 100000 in
set_option maxHeartbeats 16000000 in
theorem tells06_any (m : Dg) (A : Option Addr) (c : Nat) (B : Option Addr) (nb cb : Nat) (r : List UInt8) (s0 t0 : Int) (w : World) (ok : m.ok) (hm : RB w (fun _ => True) (.slice A m.b.length c) m.b) (hr : RB w (fun _ => True) (.slice B nb cb) r) (hs : 0 ≤ s0 ∧ s0 < 4294967296) (ht : 0 ≤ t0 ∧ t0 < 4294967296) (hg : ET w) :
    Calls Tryd.prog 3 #[.slice B nb cb, dgv m (.slice A m.b.length c), .int .u32 s0, .int .u32 t0] w fun e w' => e = .returned (.bool true) ∧ Ex (fun _ => False) w w' := by
  obtain ⟨xsrc, xdst, xpl, xb⟩ := m
  simp only at hm
  obtain rfl : nb = r.length := by obtain ⟨_, _, _, e, _⟩ := hr; injection e
  obtain ⟨i0, hi, hz0, hz1, hz2⟩ := info_parts Tryd.info5
  obtain ⟨s, hk, hk1, hk2, hs1⟩ := ud_cut r
  obtain ⟨xl, gk, gk1, gk2, hxl⟩ := ud_cut xb
  have hrc : r.length ≤ cb := by obtain ⟨_, _, _, e, h, _⟩ := hr; injection e with _ _ e3; rw [e3]; exact h
  have hmc : xb.length ≤ c := by obtain ⟨_, _, _, e, h, _⟩ := hm; injection e with _ _ e3; rw [e3]; exact h
  have hki : (s.length : Int) ≤ (r.length : Int) := by omega
  have hkc : s.length ≤ cb := by omega
  have gki : (xl.length : Int) ≤ (xb.length : Int) := by omega
  have gkc : xl.length ≤ c := by omega
  have hrt := hr.take 3000
  rw [← hs1] at hrt
  have hmt := hm.take 3000
  rw [← hxl] at hmt
  have okx : (⟨xsrc, xdst, xpl, xl⟩ : Dg).ok := ok
  have HR := Lib.hid hrt
  have HM := Lib.hid hmt
  have OKX := Lib.hid okx
  have HS := Lib.hid hs
  have HT := Lib.hid ht
  have HG := Lib.hid hg
  have HGK := Lib.hid gk
  clear hm hr hrt hmt hs ht hg ok okx hs1 hxl hrc hmc gk
  show Calls Tryd.prog 3 #[.slice B r.length cb, .agg #[.int .u16 xsrc, .int .u16 xdst, .bool xpl, .slice A xb.length c], .int .u32 s0, .int .u32 t0] w _
  go_enter Tryd.func3, Tryd.ntmps3
  go_upto_region 1 with fail
  have hx : Ex (fun _ => False) w (w.alloc (.cells #[.int .u16 xsrc, .int .u16 xdst, .bool xpl, .slice A xb.length c] 25)) := (Ex.refl _ w).alloc _
  have hb : (w.alloc (.cells #[.int .u16 xsrc, .int .u16 xdst, .bool xpl, .slice A xb.length c] 25)).heap[w.heap.size]? = some (.cells #[.int .u16 xsrc, .int .u16 xdst, .bool xpl, .slice A xb.length c] 25) := heap_alloc_new w _
  obtain ⟨bp, hbp⟩ : ∃ bp, bp = w.heap.size := ⟨_, rfl⟩
  have hb_bp : w.heap.size ≤ bp := by omega
  rw [← hbp] at hb
  try simp only [← hbp]
  generalize w.alloc (.cells #[.int .u16 xsrc, .int .u16 xdst, .bool xpl, .slice A xb.length c] 25) = w1 at hx hb ⊢
  clear hbp
  have HX_w1 := Lib.hid hx
  clear hx
  have B_bp := Lib.hid hb
  clear hb
  have hlp := row_lt B_bp.out
  go_wp2_with fail
  refine (shown6_any w1 (HG.out.keep HX_w1.out id)).mono ?_
  rintro e w2 ⟨rfl, hx⟩
  have hz12 := hx.size
  have HX_w2 := Lib.hid hx
  clear hx
  have hrw := (RB.keep HR.out (HX_w1.out.trans HX_w2.out) (fun _ _ _ => id))
  have HRW := Lib.hid hrw
  clear hrw
  go_upto_region 3 with (at_builtin; refine wpList_append_ob i0 22 Tryd.underlying22 hi hz0 hz1 hz2 rfl (.tmp 21) (.tmp 26) rfl w2.heap.size (.slice (some ⟨w2.heap.size, 0, none⟩) 0 0) [] rfl (fun _ => True) (.slice B s.length cb) s rfl (OB.lit w2 w2.heap.size [] (Nat.le_refl _) (by simp)) (HRW.out.alloc _) (by simp; omega) (by simp) ?_; intro A3 c3 w3 ho3 hg3 hn3 hb3; have hx3 : Ex (fun _ => False) w2 w3 := ((Ex.refl _ w2).alloc _).grown hg3 (fun k hk => .inr (by obtain rfl := Option.some.inj hk; exact Nat.le_refl _)))
  cases A3 with
  | none => exact absurd (hn3.1 rfl).1 (by simp)
  | some A3 =>
    have hx := hx3
    have ho : OB w3 w2.heap.size (.slice (some A3) s.length c3) s := by simpa using ho3
    obtain ⟨g3, rfl, hb_g3, hg3'⟩ := ho.plain
    clear hx3 hg3 hn3 hb3 ho3 hk hki hkc hk1
    try simp only [List.length_nil, Nat.zero_add]
    have HX_w3 := Lib.hid hx
    clear hx
    have hb3 : RB w3 (fun j => j = g3) (.slice (some ⟨g3, 0, none⟩) s.length c3) s := ho.rb.mono (fun k _ h => by have := h.1; injection this with this; exact this.symm)
    have HB3 := Lib.hid hb3
    clear hb3
    have HO := Lib.hid ho
    clear ho
    have hcv := HO.out.rb.str (Pr := Tryd.prog) 22 9 5 Tryd.underlying22 Tryd.underlying5 Tryd.underlying9
    go_upto_region 4 with fail
    clear hcv
    go_wp2_with fail
    refine (uparse_tv _ (some ⟨g3, 0, none⟩) s.length c3 s s0 t0 w3 HO.out.rb (fun h => by cases h) (by omega) HS.out HT.out).mono ?_
    rintro e w4 ⟨A4, v4, rfl, hb4, hwr, htv, hx⟩
    have hql := udg_len s s0 t0
    have hqo := udg_ok s s0 t0
    obtain ⟨Q, hQ⟩ : ∃ Q, udg s s0 t0 = Q := ⟨_, rfl⟩
    obtain ⟨T, hT⟩ : ∃ T, usays s s0 t0 = T := ⟨_, rfl⟩
    rw [hQ] at hb4 hwr hql hqo ⊢
    rw [hT] at htv
    have hrs := fun w => rparse6_any s s0 t0 w (by omega) HS.out HT.out
    rw [hQ, hT] at hrs
    have HRS := Lib.hid hrs
    have OKQ := Lib.hid hqo
    obtain ⟨qsrc, qdst, qpl, qb⟩ := Q
    have hql' : qb.length ≤ s.length := hql
    have hv : dgv (⟨qsrc, qdst, qpl, qb⟩ : Dg) (.slice A4 (⟨qsrc, qdst, qpl, qb⟩ : Dg).b.length (⟨qsrc, qdst, qpl, qb⟩ : Dg).b.length) = .agg #[.int .u16 qsrc, .int .u16 qdst, .bool qpl, .slice A4 qb.length qb.length] := rfl
    rw [hv]
    have hb4' : RB w4 (fun j => w3.heap.size ≤ j) (.slice A4 qb.length qb.length) qb := hb4
    obtain ⟨g4, o4, hg4, hf4⟩ : ∃ g o, w3.heap.size ≤ g ∧ (qb ≠ [] → A4 = some ⟨g, o, none⟩ ∧ g < w4.heap.size ∧ ∀ x, w4.frozen? ⟨g, x, none⟩ = false) := by
      by_cases hn : qb = []
      · exact ⟨w3.heap.size, 0, Nat.le_refl _, fun h => absurd hn h⟩
      · obtain ⟨g, o, h1, h2, h3, h4⟩ := hwr hn
        exact ⟨g, o, h2, fun _ => ⟨h1, h3, h4⟩⟩
    have HF4 := Lib.hid hf4
    clear hv hb4 hf4 hwr hrs hqo hql hQ hT
    have HX_w4 := Lib.hid hx
    clear hx
    have HB4 := Lib.hid hb4'
    clear hb4'
    have TV4 := Lib.hid htv
    clear htv
    go_upto_region 5 with fail
    have hx : Ex (fun _ => False) w4 (w4.alloc (.cells #[.int .u16 qsrc, .int .u16 qdst, .bool qpl, .slice A4 qb.length qb.length] 25)) := (Ex.refl _ w4).alloc _
    have hb : (w4.alloc (.cells #[.int .u16 qsrc, .int .u16 qdst, .bool qpl, .slice A4 qb.length qb.length] 25)).heap[w4.heap.size]? = some (.cells #[.int .u16 qsrc, .int .u16 qdst, .bool qpl, .slice A4 qb.length qb.length] 25) := heap_alloc_new w4 _
    obtain ⟨xb0, hxb0⟩ : ∃ xb0, xb0 = w4.heap.size := ⟨_, rfl⟩
    have hb_xb0 : w4.heap.size ≤ xb0 := by omega
    rw [← hxb0] at hb
    try simp only [← hxb0]
    generalize w4.alloc (.cells #[.int .u16 qsrc, .int .u16 qdst, .bool qpl, .slice A4 qb.length qb.length] 25) = w5 at hx hb ⊢
    clear hxb0
    have HX_w5 := Lib.hid hx
    clear hx
    have B_xb0 := Lib.hid hb
    clear hb
    go_wp2_with fail
    refine (HRS.out w5).mono ?_
    rintro e w6 ⟨rfl, hx⟩
    have HX_w6 := Lib.hid hx
    clear hx
    have hv : rdv (⟨qsrc, qdst, qpl, qb⟩ : Dg) = .agg #[.int .u32 qsrc, .int .u32 qdst, .bool qpl, .string (bs qb)] := rfl
    rw [hv]
    go_upto_region 6 with fail
    have hx : Ex (fun _ => False) w6 (w6.alloc (.cells #[.int .u32 qsrc, .int .u32 qdst, .bool qpl, .string (bs qb)] 34)) := (Ex.refl _ w6).alloc _
    have hb : (w6.alloc (.cells #[.int .u32 qsrc, .int .u32 qdst, .bool qpl, .string (bs qb)] 34)).heap[w6.heap.size]? = some (.cells #[.int .u32 qsrc, .int .u32 qdst, .bool qpl, .string (bs qb)] 34) := heap_alloc_new w6 _
    obtain ⟨yb, hyb⟩ : ∃ yb, yb = w6.heap.size := ⟨_, rfl⟩
    have hb_yb : w6.heap.size ≤ yb := by omega
    rw [← hyb] at hb
    try simp only [← hyb]
    generalize w6.alloc (.cells #[.int .u32 qsrc, .int .u32 qdst, .bool qpl, .string (bs qb)] 34) = w7 at hx hb ⊢
    clear hyb
    have HX_w7 := Lib.hid hx
    clear hx
    have B_yb := Lib.hid hb
    clear hb
    clear hv
    replace TV4 := Lib.hid (TV4.out.keep ((HX_w5.out.trans HX_w6.out).trans HX_w7.out))
    replace HB4 := Lib.hid (RB.keep HB4.out ((HX_w5.out.trans HX_w6.out).trans HX_w7.out) (fun _ _ _ => id))
    replace B_xb0 := Lib.hid (((HX_w6.out.trans HX_w7.out).block xb0 (row_lt B_xb0.out) id).trans B_xb0.out)
    have cx0 := row_cell (k := 0) (v := .int .u16 qsrc) B_xb0.out rfl
    have cx1 := row_cell (k := 1) (v := .int .u16 qdst) B_xb0.out rfl
    have cx2 := row_cell (k := 2) (v := .bool qpl) B_xb0.out rfl
    have cx3 := row_cell (k := 3) (v := .slice A4 qb.length qb.length) B_xb0.out rfl
    have cy0 := row_cell (k := 0) (v := .int .u32 qsrc) B_yb.out rfl
    have cy1 := row_cell (k := 1) (v := .int .u32 qdst) B_yb.out rfl
    have cy2 := row_cell (k := 2) (v := .bool qpl) B_yb.out rfl
    have cy3 := row_cell (k := 3) (v := .string (bs qb)) B_yb.out rfl
    have z1 : ∀ w, (binOp .neq 34 (rdv (⟨qsrc, qdst, qpl, qb⟩ : Dg)) (.agg #[.int .u32 qsrc, .int .u32 qdst, .bool qpl, .string (bs qb)])).run Tryd.prog w = .ok (.bool false) w := fun w => by have h := rdv_neq (⟨qsrc, qdst, qpl, qb⟩ : Dg) (⟨qsrc, qdst, qpl, qb⟩ : Dg) w; rw [Dg.eqB_self] at h; exact h
    have z2 : ∀ w, (eqGuard .neq 34 (.tmp 50) (.tmp 51) (rdv (⟨qsrc, qdst, qpl, qb⟩ : Dg)) (.agg #[.int .u32 qsrc, .int .u32 qdst, .bool qpl, .string (bs qb)])).run Tryd.prog w = .ok () w := fun w => rdv_guard .neq (.tmp 50) (.tmp 51) (⟨qsrc, qdst, qpl, qb⟩ : Dg) (⟨qsrc, qdst, qpl, qb⟩ : Dg) w
    have Z1 := Lib.hid z1
    have Z2 := Lib.hid z2
    clear z1 z2
    have hS0 : Ex (fun _ => False) w7 w7.drew := (Ex.refl _ w7).drew
    refine wp_region_held_drew (S := fun W => Ex (fun _ => False) w7 W) (by kernel_rfl) hS0 (fun _ => ?_)
    refine wpAnyH_take (i := 0) (oi := { dst := some 44, op := Go.Op.move (Go.Operand.tmp 12), type := 29, pos := "law.go:44", after := #[], guard := none }) (v := ?v1) rfl (by kernel_rfl) (by kernel_rfl) (by kernel_rfl) (fun _ _ _ h => h) (Or.inl ⟨by rfl, ?hy1⟩) (by assumption) ?rest1
    case hy1 => (intro w hSw; (try dsimp only at hSw); have ecx0 := hSw.cell cx0 id; have ecx1 := hSw.cell cx1 id; have ecx2 := hSw.cell cx2 id; have ecx3 := hSw.cell cx3 id; have ecy0 := hSw.cell cy0 id; have ecy1 := hSw.cell cy1 id; have ecy2 := hSw.cell cy2 id; have ecy3 := hSw.cell cy3 id; have z1 := Z1.out; have z2 := Z2.out; go_simp <;> with_reducible rfl)
    try simp only [Act.put, List.setIfInBounds_toArray, List.set_cons_zero, List.set_cons_succ]
    refine wpAnyH_take (i := 2) (oi := { dst := some 46, op := Go.Op.move (Go.Operand.tmp 14), type := 9, pos := "law.go:44", after := #[], guard := none }) (v := ?v2) rfl (by kernel_rfl) (by kernel_rfl) (by kernel_rfl) (fun _ _ _ h => h) (Or.inl ⟨by rfl, ?hy2⟩) (by assumption) ?rest2
    case hy2 => (intro w hSw; (try dsimp only at hSw); have ecx0 := hSw.cell cx0 id; have ecx1 := hSw.cell cx1 id; have ecx2 := hSw.cell cx2 id; have ecx3 := hSw.cell cx3 id; have ecy0 := hSw.cell cy0 id; have ecy1 := hSw.cell cy1 id; have ecy2 := hSw.cell cy2 id; have ecy3 := hSw.cell cy3 id; have z1 := Z1.out; have z2 := Z2.out; go_simp <;> with_reducible rfl)
    try simp only [Act.put, List.setIfInBounds_toArray, List.set_cons_zero, List.set_cons_succ]
    refine wpAnyH_ready (rs := [1]) (by kernel_rfl) (by simp) ?_
    refine AllReadyH.cons (o := { dst := some 45, op := Go.Op.call { callee := Go.Callee.value (Go.Operand.func 18), args := #[Go.Operand.tmp 44], argTypes := #[29] }, type := 9, pos := "law.go:44", after := #[{ on := 0, ground := Go.Ground.data }], guard := none }) rfl (fun K hK => ?_) AllReadyH.nil
    go_simp
    refine (told6_tv (TV4.out.keep hS0)).mono ?_
    rintro e w8 ⟨rfl, hx⟩
    have hS1 := hS0.trans hx
    clear hx
    refine hK.out _ _ hS1 (fun _ => ?_)
    refine wpAnyH_take (i := 3) (oi := { dst := some 47, op := Go.Op.binOp Go.BinOp.neq 9 (Go.Operand.tmp 45) (Go.Operand.tmp 46) 9, type := 4, pos := "law.go:44", after := #[{ on := 1, ground := Go.Ground.data }, { on := 2, ground := Go.Ground.data }], guard := none }) (v := ?v3) rfl (by kernel_rfl) (by kernel_rfl) (by kernel_rfl) (fun _ _ _ h => h) (Or.inl ⟨by rfl, ?hy3⟩) (by assumption) ?rest3
    case hy3 => (intro w hSw; (try dsimp only at hSw); have ecx0 := hSw.cell cx0 id; have ecx1 := hSw.cell cx1 id; have ecx2 := hSw.cell cx2 id; have ecx3 := hSw.cell cx3 id; have ecy0 := hSw.cell cy0 id; have ecy1 := hSw.cell cy1 id; have ecy2 := hSw.cell cy2 id; have ecy3 := hSw.cell cy3 id; have z1 := Z1.out; have z2 := Z2.out; go_simp <;> with_reducible rfl)
    try simp only [Act.put, List.setIfInBounds_toArray, List.set_cons_zero, List.set_cons_succ]
    refine wpAnyH_take (i := 4) (oi := { dst := some 48, op := Go.Op.move (Go.Operand.tmp 47), type := 4, pos := "law.go:44", after := #[{ on := 3, ground := Go.Ground.data }, { on := 1, ground := Go.Ground.chain }], guard := none }) (v := ?v4) rfl (by kernel_rfl) (by kernel_rfl) (by kernel_rfl) (fun _ _ _ h => h) (Or.inl ⟨by rfl, ?hy4⟩) (by assumption) ?rest4
    case hy4 => (intro w hSw; (try dsimp only at hSw); have ecx0 := hSw.cell cx0 id; have ecx1 := hSw.cell cx1 id; have ecx2 := hSw.cell cx2 id; have ecx3 := hSw.cell cx3 id; have ecy0 := hSw.cell cy0 id; have ecy1 := hSw.cell cy1 id; have ecy2 := hSw.cell cy2 id; have ecy3 := hSw.cell cy3 id; have z1 := Z1.out; have z2 := Z2.out; go_simp <;> with_reducible rfl)
    try simp only [Act.put, List.setIfInBounds_toArray, List.set_cons_zero, List.set_cons_succ]
    refine wpAnyH_take (i := 5) (oi := { dst := some 49, op := Go.Op.load 25 (Go.Operand.tmp 11), type := 25, pos := "law.go:44", after := #[{ on := 4, ground := Go.Ground.guard }], guard := some (4, false) }) (v := ?v5) rfl (by kernel_rfl) (by kernel_rfl) (by kernel_rfl) (fun _ _ _ h => h) (Or.inl ⟨by rfl, ?hy5⟩) (by assumption) ?rest5
    case hy5 => (intro w hSw; (try dsimp only at hSw); have ecx0 := hSw.cell cx0 id; have ecx1 := hSw.cell cx1 id; have ecx2 := hSw.cell cx2 id; have ecx3 := hSw.cell cx3 id; have ecy0 := hSw.cell cy0 id; have ecy1 := hSw.cell cy1 id; have ecy2 := hSw.cell cy2 id; have ecy3 := hSw.cell cy3 id; have z1 := Z1.out; have z2 := Z2.out; go_simp <;> with_reducible rfl)
    try simp only [Act.put, List.setIfInBounds_toArray, List.set_cons_zero, List.set_cons_succ]
    refine wpAnyH_take (i := 7) (oi := { dst := some 51, op := Go.Op.load 34 (Go.Operand.tmp 13), type := 34, pos := "law.go:44", after := #[{ on := 4, ground := Go.Ground.guard }], guard := some (4, false) }) (v := ?v6) rfl (by kernel_rfl) (by kernel_rfl) (by kernel_rfl) (fun _ _ _ h => h) (Or.inl ⟨by rfl, ?hy6⟩) (by assumption) ?rest6
    case hy6 => (intro w hSw; (try dsimp only at hSw); have ecx0 := hSw.cell cx0 id; have ecx1 := hSw.cell cx1 id; have ecx2 := hSw.cell cx2 id; have ecx3 := hSw.cell cx3 id; have ecy0 := hSw.cell cy0 id; have ecy1 := hSw.cell cy1 id; have ecy2 := hSw.cell cy2 id; have ecy3 := hSw.cell cy3 id; have z1 := Z1.out; have z2 := Z2.out; go_simp <;> with_reducible rfl)
    try simp only [Act.put, List.setIfInBounds_toArray, List.set_cons_zero, List.set_cons_succ]
    refine wpAnyH_ready (rs := [6]) (by kernel_rfl) (by simp) ?_
    refine AllReadyH.cons (o := { dst := some 50, op := Go.Op.call { callee := Go.Callee.value (Go.Operand.func 19), args := #[Go.Operand.tmp 49], argTypes := #[25] }, type := 34, pos := "law.go:44", after := #[{ on := 5, ground := Go.Ground.data }, { on := 4, ground := Go.Ground.chain }, { on := 4, ground := Go.Ground.guard }], guard := some (4, false) }) rfl (fun K hK => ?_) AllReadyH.nil
    go_simp
    refine (of6_any _ (⟨qsrc, qdst, qpl, qb⟩ : Dg) A4 qb.length _ OKQ.out (HB4.out.keep hS1 (fun _ _ _ => id))).mono ?_
    rintro e w9 ⟨rfl, hx⟩
    have hS2 := hS1.trans hx
    clear hx
    refine hK.out _ _ hS2 (fun _ => ?_)
    refine wpAnyH_take (i := 8) (oi := { dst := some 52, op := Go.Op.binOp Go.BinOp.neq 34 (Go.Operand.tmp 50) (Go.Operand.tmp 51) 34, type := 4, pos := "law.go:44", after := #[{ on := 6, ground := Go.Ground.data }, { on := 7, ground := Go.Ground.data }, { on := 4, ground := Go.Ground.guard }], guard := some (4, false) }) (v := ?v7) rfl (by kernel_rfl) (by kernel_rfl) (by kernel_rfl) (fun _ _ _ h => h) (Or.inl ⟨by rfl, ?hy7⟩) (by assumption) ?rest7
    case hy7 => (intro w hSw; (try dsimp only at hSw); have ecx0 := hSw.cell cx0 id; have ecx1 := hSw.cell cx1 id; have ecx2 := hSw.cell cx2 id; have ecx3 := hSw.cell cx3 id; have ecy0 := hSw.cell cy0 id; have ecy1 := hSw.cell cy1 id; have ecy2 := hSw.cell cy2 id; have ecy3 := hSw.cell cy3 id; have z1 := Z1.out; have z2 := Z2.out; go_simp <;> with_reducible rfl)
    try simp only [Act.put, List.setIfInBounds_toArray, List.set_cons_zero, List.set_cons_succ]
    refine wpAnyH_take (i := 9) (oi := { dst := some 53, op := Go.Op.pick (Go.Operand.tmp 48) (Go.Operand.const (Go.Value.bool true)) (Go.Operand.tmp 52), type := 4, pos := "law.go:44", after := #[{ on := 4, ground := Go.Ground.data }, { on := 8, ground := Go.Ground.data }], guard := none }) (v := ?v8) rfl (by kernel_rfl) (by kernel_rfl) (by kernel_rfl) (fun _ _ _ h => h) (Or.inl ⟨by rfl, ?hy8⟩) (by assumption) ?rest8
    case hy8 => (intro w hSw; (try dsimp only at hSw); have ecx0 := hSw.cell cx0 id; have ecx1 := hSw.cell cx1 id; have ecx2 := hSw.cell cx2 id; have ecx3 := hSw.cell cx3 id; have ecy0 := hSw.cell cy0 id; have ecy1 := hSw.cell cy1 id; have ecy2 := hSw.cell cy2 id; have ecy3 := hSw.cell cy3 id; have z1 := Z1.out; have z2 := Z2.out; go_simp <;> with_reducible rfl)
    try simp only [Act.put, List.setIfInBounds_toArray, List.set_cons_zero, List.set_cons_succ]
    refine wpAnyH_done (by kernel_rfl) ?_ _
    have hx := hS2
    clear hS0 hS1 hS2 cx0 cx1 cx2 cx3 cy0 cy1 cy2 cy3
    have HX_w9 := Lib.hid hx
    clear hx
    replace B_xb0 := Lib.hid ((HX_w9.out.block xb0 (row_lt B_xb0.out) id).trans B_xb0.out)
    replace HB4 := Lib.hid (RB.keep HB4.out HX_w9.out (fun _ _ _ => id))
    have hb_g4 := hg4
    have hlt4 : qb ≠ [] → g4 < w4.heap.size ∧ A4 = some ⟨g4, o4, none⟩ := fun hn => ⟨(HF4.out hn).2.1, (HF4.out hn).1⟩
    have hf9 : qb ≠ [] → ∀ x, w9.frozen? ⟨g4, x, none⟩ = false := fun hn x => ((((HX_w5.out.trans HX_w6.out).trans HX_w7.out).trans HX_w9.out).frozen (p := ⟨g4, x, none⟩) (hlt4 hn).1 id).trans ((HF4.out hn).2.2 x)
    have hc9 : ∀ x, x < qb.length → ∃ m, w9.cell? ⟨g4, o4 + x, none⟩ = some (.int .u8 m) := fun x hx => by
      obtain ⟨_, A', c', e', _, hcell⟩ := HB4.out
      injection e' with e1 e2 e3
      subst e1
      obtain ⟨b', off', hA', hb', hc'⟩ := hcell x hx
      have hA2 := (hlt4 (by intro h; rw [h] at hx; exact absurd hx (by simp))).2
      rw [hA2] at hA'
      injection hA' with hA'
      injection hA' with h1 h2
      subst h1 h2
      exact ⟨_, hc'⟩
    have HLT4 := Lib.hid hlt4
    have HF9 := Lib.hid hf9
    have HC9 := Lib.hid hc9
    have hx0 := Lib.hid (Ex.refl (fun x => qb ≠ [] ∧ x = g4) w9)
    clear hlt4 hf9 hc9
    have hz49 := (((HX_w5.out.trans HX_w6.out).trans HX_w7.out).trans HX_w9.out).size
    go_wp2_with fail
    go_loopw [15] (fun i wl => ∃ j : Nat, j ≤ qb.length ∧ i = .int .i64 (j : Int) ∧ Hid (∀ x, x < qb.length → ∃ m, wl.cell? ⟨g4, o4 + x, none⟩ = some (.int .u8 m)) ∧ Hid (qb ≠ [] → ∀ x, wl.frozen? ⟨g4, x, none⟩ = false) ∧ Hid (Ex (fun x => qb ≠ [] ∧ x = g4) w9 wl)) (fun i _ => qb.length - (intOf i).toNat)
    case atStart => exact ⟨0, by omega, rfl, HC9, HF9, hx0⟩
    case round =>
      clear hx0
      obtain ⟨j, hj, rfl, hcj, hfj, hxj⟩ := hrel
      have hbx := (hxj.out.block xb0 (row_lt B_xb0.out) (fun h => by have := (HLT4.out h.1).1; have := h.2; omega)).trans B_xb0.out
      have c9 := row_cell (k := 3) (v := .slice A4 qb.length qb.length) hbx rfl
      clear hbx
      by_cases dj : j < qb.length
      ·
        have hne : qb ≠ [] := by intro h; rw [h] at dj; exact absurd dj (by simp)
        have hA := (HLT4.out hne).2
        rw [hA] at c9
        obtain ⟨m0, hm0⟩ := hcj.out j dj
        have hfz := hfj.out hne (o4 + j)
        go_wp2_with fail
        go_roundw
        case rel => exact ⟨j + 1, by omega, by go_num, Lib.hid (fun x hx => someInt_setCell (hcj.out x hx) _ _), Lib.hid (fun hn x => (World.frozen?_setCell _ _ _ _).trans (hfj.out hn x)), Lib.hid (hxj.out.setCell (p := ⟨g4, o4 + j, none⟩) (.inl ⟨hne, rfl⟩) _)⟩
        case measure => simp [intOf]; omega
      ·
        have hx : Ex (fun x => x = g4) w9 wr := hxj.out.mono (fun _ _ h => h.2)
        clear hcj hfj hxj
        have HX_wr := Lib.hid hx
        clear hx
        have hsz3 := HX_w4.out.size
        have hsz03 := (HX_w2.out.trans HX_w3.out).size
        have ne_bp_g4 : bp ≠ g4 := by omega
        have ne_g3_g4 : g3 ≠ g4 := by omega
        have ne_bp_g3 : bp ≠ g3 := by omega
        replace B_bp := Lib.hid (((((((((HX_w2.out.trans HX_w3.out).trans HX_w4.out).trans HX_w5.out).trans HX_w6.out).trans HX_w7.out).trans HX_w9.out).andThen HX_wr.out (fun i hi e => by have := (HX_w2.out.trans HX_w3.out).size; have := hb_g4; omega)).block bp (row_lt B_bp.out) id).trans B_bp.out)
        have cbp3 := row_cell (k := 3) (v := .slice A xb.length c) B_bp.out rfl
        have fbp3 := row_frozen B_bp.out 3
        have hlbr := row_lt B_bp.out
        have hmw := (RB.keep HM.out ((((((((HX_w1.out.trans HX_w2.out).trans HX_w3.out).trans HX_w4.out).trans HX_w5.out).trans HX_w6.out).trans HX_w7.out).trans HX_w9.out).andThen HX_wr.out (fun i hi e => by have := ((HX_w1.out.trans HX_w2.out).trans HX_w3.out).size; have := hb_g4; omega)) (fun _ _ _ => id))
        have HMW := Lib.hid hmw
        have hk := HGK.out
        have hal : Ex (fun _ => False) wr (wr.alloc (.cells #[] 5)) := (Ex.refl _ wr).alloc _
        have qa3 := hal.cell cbp3 id
        clear hmw
        go_upto_region 13 with (at_builtin; refine wpList_append_ob i0 22 Tryd.underlying22 hi hz0 hz1 hz2 rfl (.tmp 65) (.tmp 72) rfl wr.heap.size (.slice (some ⟨wr.heap.size, 0, none⟩) 0 0) [] rfl (fun _ => True) (.slice A xl.length c) xl rfl (OB.lit wr wr.heap.size [] (Nat.le_refl _) (by simp)) (HMW.out.alloc _) (by simp; omega) (by simp) ?_; intro A5 c5 wf ho5 hg5 hn5 hb5; have hx5 : Ex (fun _ => False) wr wf := ((Ex.refl _ wr).alloc _).grown hg5 (fun k hk => .inr (by obtain rfl := Option.some.inj hk; exact Nat.le_refl _)); have qb3 := hx5.cell cbp3 id; have qf3 : wf.frozen? ⟨bp, 3, none⟩ = false := (hx5.frozen (p := ⟨bp, 3, none⟩) hlbr id).trans fbp3)
        cases A5 with
        | none => exact absurd (hn5.1 rfl).1 (by simp)
        | some A5 =>
          have hx := hx5
          have ho : OB wf wr.heap.size (.slice (some A5) xl.length c5) xl := by simpa using ho5
          clear hx5 hg5 hn5 hb5 ho5 hk qa3 qb3 qf3 hal gki gkc gk1 cbp3 fbp3 c9
          try simp only [List.length_nil, Nat.zero_add]
          have HX_wf := Lib.hid hx
          clear hx
          have HO_x := Lib.hid ho
          clear ho
          have hlbf := hlbr
          replace B_bp := Lib.hid ((HX_wf.out.block bp (row_lt B_bp.out) id).trans B_bp.out)
          have hb : (wf.setCell ⟨bp, 3, none⟩ (.slice (some A5) xl.length c5)).heap[bp]? = some (.cells #[.int .u16 xsrc, .int .u16 xdst, .bool xpl, .slice (some A5) xl.length c5] 25) := (row_set B_bp.out 3 (.slice (some A5) xl.length c5))
          have hx : Ex (fun j => j = bp) wf (wf.setCell ⟨bp, 3, none⟩ (.slice (some A5) xl.length c5)) := ((Ex.refl (fun j => j = bp) wf).setCell (p := ⟨bp, 3, none⟩) (.inl rfl) (.slice (some A5) xl.length c5))
          generalize (wf.setCell ⟨bp, 3, none⟩ (.slice (some A5) xl.length c5)) = wg at hx hb ⊢
          clear B_bp
          have HX_wg := Lib.hid hx
          clear hx
          have B_bp := Lib.hid hb
          clear hb
          have cbp0 := row_cell (k := 0) (v := .int .u16 xsrc) B_bp.out rfl
          have cbp1 := row_cell (k := 1) (v := .int .u16 xdst) B_bp.out rfl
          have cbp2 := row_cell (k := 2) (v := .bool xpl) B_bp.out rfl
          have cbp3 := row_cell (k := 3) (v := .slice (some A5) xl.length c5) B_bp.out rfl
          have hbo := fun P w hr => dBytes_ok P (⟨xsrc, xdst, xpl, xl⟩ : Dg) s0 t0 (some A5) c5 w OKX.out HS.out HT.out hr (by show xl.length ≤ _; omega)
          have hrb := fun w => rBytes6_ok (⟨xsrc, xdst, xpl, xl⟩ : Dg) s0 t0 w OKX.out HS.out HT.out (by show xl.length ≤ _; omega)
          obtain ⟨lB, hlB⟩ : ∃ l, l = db (⟨xsrc, xdst, xpl, xl⟩ : Dg) s0 t0 := ⟨_, rfl⟩
          have hlBl : lB.length = 8 + xl.length := by rw [hlB]; exact db_len _ _ _
          rw [← hlB] at hbo hrb
          have hbo : ∀ P w, RB w P (.slice (some A5) xl.length c5) xl → Calls Tryd.prog 20 #[.agg #[.int .u16 xsrc, .int .u16 xdst, .bool xpl, .slice (some A5) xl.length c5], .int .u32 s0, .int .u32 t0] w (fun e w' => ∃ A' c', e = .returned (.tuple #[.slice (some A') lB.length c', .nilIface]) ∧ OB w' w.heap.size (.slice (some A') lB.length c') lB ∧ Ex (fun _ => False) w w') := fun P w hr => by
            rw [hlBl]; exact hbo P w hr
          have HBO := Lib.hid hbo
          have HRB := Lib.hid hrb
          clear hbo hrb hlB hlBl
          go_wp2_with fail
          refine (HBO.out _ wg (OB.keepB HO_x.out HX_wg.out (by omega)).rb).mono ?_
          rintro e wb ⟨AB, cB, rfl, hoB, hx⟩
          clear cbp0 cbp1 cbp2 cbp3
          have HX_wb := Lib.hid hx
          clear hx
          have HBB := Lib.hid hoB
          clear hoB
          replace B_bp := Lib.hid ((HX_wb.out.block bp (row_lt B_bp.out) id).trans B_bp.out)
          have cbp0 := row_cell (k := 0) (v := .int .u16 xsrc) B_bp.out rfl
          have cbp1 := row_cell (k := 1) (v := .int .u16 xdst) B_bp.out rfl
          have cbp2 := row_cell (k := 2) (v := .bool xpl) B_bp.out rfl
          have cbp3 := row_cell (k := 3) (v := .slice (some A5) xl.length c5) B_bp.out rfl
          go_upto_region 14 with fail
          go_wp2_with fail
          refine (of6_any _ (⟨xsrc, xdst, xpl, xl⟩ : Dg) (some A5) c5 _ OKX.out (OB.keep (OB.keepB HO_x.out HX_wg.out (by omega)) HX_wb.out (fun _ _ _ _ => id)).rb).mono ?_
          rintro e wo ⟨rfl, hx⟩
          clear cbp0 cbp1 cbp2 cbp3
          have HX_wo := Lib.hid hx
          clear hx
          go_wp2_with fail
          refine (HRB.out wo).mono ?_
          rintro e wq ⟨rfl, hx⟩
          have HX_wq := Lib.hid hx
          clear hx
          go_upto_region 15 with fail
          replace HB3 := Lib.hid (RB.keep (RB.keep (RB.keep HB3.out ((((((HX_w4.out.trans HX_w5.out).trans HX_w6.out).trans HX_w7.out).trans HX_w9.out).andThen HX_wr.out (fun i hi e => by have := hb_g4; omega)).trans HX_wf.out) (fun _ _ _ => id)) HX_wg.out (fun k _ hk e => ne_bp_g3.symm (hk.symm.trans e))) ((HX_wb.out.trans HX_wo.out).trans HX_wq.out) (fun _ _ _ => id))
          replace HBB := Lib.hid (OB.keep HBB.out (HX_wo.out.trans HX_wq.out) (fun _ _ _ _ => id))
          have hsS : ((bs s).toList == (bs s).toList) = true := by simp
          have hsL : ((bs lB).toList == (bs lB).toList) = true := by simp
          have hq3 := HB3.out.str (Pr := Tryd.prog) 22 9 5 Tryd.underlying22 Tryd.underlying5 Tryd.underlying9
          have hqB := HBB.out.rb.str (Pr := Tryd.prog) 22 9 5 Tryd.underlying22 Tryd.underlying5 Tryd.underlying9
          go_wp2_with fail
          refine (told6_nil wq).mono ?_
          rintro e wt ⟨rfl, hwt⟩
          have hx : Ex (fun _ => False) wq wt := by rw [← hwt]; exact Ex.refl _ wq
          clear hq3 hqB hwt
          have HX_wt := Lib.hid hx
          clear hx
          go_wp2_with fail
          go_ret
          exact ⟨rfl, ((((((((((((((HX_w1.out.trans HX_w2.out).trans HX_w3.out).trans HX_w4.out).trans HX_w5.out).trans HX_w6.out).trans HX_w7.out).trans HX_w9.out).andThen HX_wr.out (fun i hi e => by have := ((HX_w1.out.trans HX_w2.out).trans HX_w3.out).size; have := hb_g4; omega)).trans HX_wf.out).andThen HX_wg.out (fun i hi e => by have := hb_bp; omega)).trans HX_wb.out).trans HX_wo.out).trans HX_wq.out).trans HX_wt.out)⟩
end Go.Proofs.YtfcfpkhcpijkfaaDoor
