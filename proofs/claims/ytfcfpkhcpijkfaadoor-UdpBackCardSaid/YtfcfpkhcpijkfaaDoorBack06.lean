/-
  The walk of UdpBack. By an AI agent.
-/
import Derived.Test.YtfcfpkhcpijkfaaDoorUnlike06
import Derived.Deep.DeepCutAuto
import Derived.Deep.CutBlock
import Derived.HandedShaped
namespace Go.Proofs.YtfcfpkhcpijkfaaDoor
open Go.RowKit

theorem ud_cut50 (b : List UInt8) : ∃ l1 : List UInt8, (if 50 < (b.length : Int) then (50 : Int) else (b.length : Int)) = (l1.length : Int) ∧ l1.length ≤ b.length ∧ l1.length ≤ 50 ∧ l1 = b.take 50 := by
  refine ⟨b.take 50, ?_, by simp; omega, by simp; omega, rfl⟩
  rw [List.length_take]; split <;> omega
set_option maxRecDepth 100000 in
set_option maxHeartbeats 32000000 in
theorem back06_any (m : Dg) (A : Option Addr) (c : Nat) (s t : Int) (B : Option Addr) (nb cb : Nat) (r : List UInt8) (cut : Int) (w : World) (ok : m.ok) (hm : RB w (fun _ => True) (.slice A m.b.length c) m.b) (hs : 0 ≤ s ∧ s < 4294967296) (ht : 0 ≤ t ∧ t < 4294967296) (hr : RB w (fun _ => True) (.slice B nb cb) r) (hg : ET w) :
    Calls Tryd.prog 4 #[dgv m (.slice A m.b.length c), .int .u32 s, .int .u32 t, .slice B nb cb, .int .i64 cut] w fun e w' => e = .returned (.bool true) ∧ Ex (fun _ => False) w w' := by
  obtain ⟨xsrc, xdst, xpl, xb0⟩ := m
  simp only at hm
  obtain rfl : nb = r.length := by obtain ⟨_, _, _, e, _⟩ := hr; injection e
  obtain ⟨i0, hi, hz0, hz1, hz2⟩ := info_parts Tryd.info5
  have hmc : xb0.length ≤ c := by obtain ⟨_, _, _, e, h, _⟩ := hm; injection e with _ _ e3; rw [e3]; exact h
  have hrc : r.length ≤ cb := by obtain ⟨_, _, _, e, h, _⟩ := hr; injection e with _ _ e3; rw [e3]; exact h
  obtain ⟨xl, hk0, hk1, hk2, hxl⟩ := ud_cut xb0
  obtain ⟨r1, gk, gk1, gk2, hrl⟩ := ud_cut50 r
  have hki : (xl.length : Int) ≤ (xb0.length : Int) := by omega
  have hkc : xl.length ≤ c := by omega
  have gki : (r1.length : Int) ≤ (r.length : Int) := by omega
  have gkc : r1.length ≤ cb := by omega
  have hm1 := hm.take 3000
  have hr1 := hr.take 50
  rw [← hxl] at hm1
  rw [← hrl] at hr1
  have okx : (⟨xsrc, xdst, xpl, xl⟩ : Dg).ok := ok
  have HM := Lib.hid hm1
  have HR := Lib.hid hr1
  have OKX := Lib.hid okx
  have HS := Lib.hid hs
  have HT := Lib.hid ht
  have HG := Lib.hid hg
  have HGK := Lib.hid gk
  have a1 := and_i64 cut
  obtain ⟨n1, hn1⟩ : ∃ n : Nat, cut % 65536 = (n : Int) := ⟨(cut % 65536).toNat, by omega⟩
  rw [hn1] at a1
  have A1 := Lib.hid a1
  clear hm hm1 hr hr1 ok okx hxl hrl hmc hrc hs ht hg gk a1 hn1
  show Calls Tryd.prog 4 #[.agg #[.int .u16 xsrc, .int .u16 xdst, .bool xpl, .slice A xb0.length c], .int .u32 s, .int .u32 t, .slice B r.length cb, .int .i64 cut] w _
  go_enter Tryd.func4, Tryd.ntmps4
  go_upto_region 1 with fail
  have hx : Ex (fun _ => False) w (w.alloc (.cells #[.int .u16 xsrc, .int .u16 xdst, .bool xpl, .slice A xb0.length c] 25)) := (Ex.refl _ w).alloc _
  have hb : (w.alloc (.cells #[.int .u16 xsrc, .int .u16 xdst, .bool xpl, .slice A xb0.length c] 25)).heap[w.heap.size]? = some (.cells #[.int .u16 xsrc, .int .u16 xdst, .bool xpl, .slice A xb0.length c] 25) := heap_alloc_new w _
  obtain ⟨db_, hdb_⟩ : ∃ db_, db_ = w.heap.size := ⟨_, rfl⟩
  have hb_db_ : w.heap.size ≤ db_ := by omega
  rw [← hdb_] at hb
  try simp only [← hdb_]
  generalize w.alloc (.cells #[.int .u16 xsrc, .int .u16 xdst, .bool xpl, .slice A xb0.length c] 25) = w1 at hx hb ⊢
  clear hdb_
  have HX_w1 := Lib.hid hx
  clear hx
  have B_db_ := Lib.hid hb
  clear hb
  go_wp2_with fail
  refine (shown6_any w1 (HG.out.keep HX_w1.out id)).mono ?_
  rintro e w2 ⟨rfl, hx⟩
  have HX_w2 := Lib.hid hx
  clear hx
  have cdb_3 := row_cell (k := 3) (v := .slice A xb0.length c) ((HX_w2.out.block db_ (row_lt B_db_.out) id).trans B_db_.out) rfl
  have fdb_3 := row_frozen ((HX_w2.out.block db_ (row_lt B_db_.out) id).trans B_db_.out) 3
  go_upto_region 3 with fail
  replace B_db_ := Lib.hid ((HX_w2.out.block db_ (row_lt B_db_.out) id).trans B_db_.out)
  have hb : (w2.setCell ⟨db_, 3, none⟩ (.slice A xl.length c)).heap[db_]? = some (.cells #[.int .u16 xsrc, .int .u16 xdst, .bool xpl, .slice A xl.length c] 25) := (row_set B_db_.out 3 (.slice A xl.length c))
  have hx : Ex (fun j => j = db_) w2 (w2.setCell ⟨db_, 3, none⟩ (.slice A xl.length c)) := ((Ex.refl (fun j => j = db_) w2).setCell (p := ⟨db_, 3, none⟩) (.inl rfl) (.slice A xl.length c))
  clear cdb_3 fdb_3 hk0 hki hkc hk1
  generalize (w2.setCell ⟨db_, 3, none⟩ (.slice A xl.length c)) = w3 at hx hb ⊢
  clear B_db_
  have HX_w3 := Lib.hid hx
  clear hx
  have B_db_ := Lib.hid hb
  clear hb
  have cdb_0 := row_cell (k := 0) (v := .int .u16 xsrc) B_db_.out rfl
  have cdb_1 := row_cell (k := 1) (v := .int .u16 xdst) B_db_.out rfl
  have cdb_2 := row_cell (k := 2) (v := .bool xpl) B_db_.out rfl
  have cdb_3 := row_cell (k := 3) (v := .slice A xl.length c) B_db_.out rfl
  go_wp2_with fail
  refine (dBytes_ok _ (⟨xsrc, xdst, xpl, xl⟩ : Dg) s t A c w3 OKX.out HS.out HT.out (RB.keep HM.out ((HX_w1.out.trans HX_w2.out).andThen HX_w3.out (fun i hi e => by have := hb_db_; omega)) (fun _ _ _ => id)) (by show xl.length ≤ _; omega)).mono ?_
  rintro e w4 ⟨A4, c5, rfl, ho, hx⟩
  obtain ⟨g5, rfl, hb_g5, hg5⟩ := ho.plain
  have hpa := db_back OKX.out s t (by show xl.length ≤ _; omega) r1
  have hpb := db_back OKX.out s t (by show xl.length ≤ _; omega) []
  rw [List.append_nil] at hpb
  have hct := fun s' t' k hk => db_cut (d := (⟨xsrc, xdst, xpl, xl⟩ : Dg)) s t s' t' (by show xl.length ≤ _; omega) k hk
  have hl : (db (⟨xsrc, xdst, xpl, xl⟩ : Dg) s t).length = 8 + xl.length := db_len (⟨xsrc, xdst, xpl, xl⟩ : Dg) s t
  have ho' : OB w4 w3.heap.size (.slice (some ⟨g5, 0, none⟩) (8 + xl.length) c5) (db (⟨xsrc, xdst, xpl, xl⟩ : Dg) s t) := ho
  have e8 : 8 + (⟨xsrc, xdst, xpl, xl⟩ : Dg).b.length = 8 + xl.length := rfl
  rw [e8]
  obtain ⟨M5, hM5⟩ : ∃ M, M = db (⟨xsrc, xdst, xpl, xl⟩ : Dg) s t := ⟨_, rfl⟩
  rw [← hM5] at ho' hpa hpb hl
  have hct : ∀ s' t' k, k < M5.length → ∃ r, (r = [lay6, lay1] ∨ r = [lay6]) ∧ uerr (M5.take k) s' t' = some (r, 2) := fun s' t' k hk => by
    subst hM5; exact hct s' t' k hk
  have hl2 : 8 + xl.length = M5.length := hl.symm
  rw [hl2] at ho' ⊢
  have hm8 : 8 ≤ M5.length := by omega
  have hm3 : M5.length ≤ 3008 := by omega
  have HPA := Lib.hid (And.intro hpa.1 hpa.2.2)
  have HPB := Lib.hid hpb
  have HCT := Lib.hid hct
  have hne : (8 : Int) + (xl.length : Int) = (M5.length : Int) := by omega
  clear ho e8 hpa hpb hct hl hl2 hM5 cdb_0 cdb_1 cdb_2 cdb_3
  have HX_w4 := Lib.hid hx
  clear hx
  have HO5 := Lib.hid ho'
  clear ho'
  have hldb := row_lt B_db_.out
  replace HR := Lib.hid (RB.keep HR.out (((HX_w1.out.trans HX_w2.out).andThen HX_w3.out (fun i hi e => by have := hb_db_; omega)).trans HX_w4.out) (fun _ _ _ => id))
  have cdb_3 := row_cell (k := 3) (v := .slice A xl.length c) ((HX_w4.out.block db_ (row_lt B_db_.out) id).trans B_db_.out) rfl
  go_upto_region 6 with fail
  clear hne cdb_3
  have hk := HGK.out
  clear gk1
  go_cut [14, 15] (fun x f wx => ∃ (xb : Nat) (A9 : Option Addr), x = .pointer (some ⟨xb, 0, none⟩) ∧ f = .nilIface ∧ Hid (wx.heap[xb]? = some (.cells #[.int .u16 xsrc, .int .u16 xdst, .bool xpl, .slice A9 xl.length xl.length] 25)) ∧ Hid (RB wx (fun _ => True) (.slice A9 xl.length xl.length) xl) ∧ Hid (Ex (fun _ => False) w4 wx))
  case first =>
    have hS0 : Ex (fun _ => False) w4 w4.drew := (Ex.refl _ w4).drew
    refine wp_region_held_drew (S := fun W => Ex (fun _ => False) w4 W) (by kernel_rfl) hS0 (fun _ => ?_)
    generalize w4.drew = wd at hS0 ⊢
    have HX_wd := Lib.hid hS0
    refine wpAnyH_take (i := 1) (oi := { dst := some 49, op := Go.Op.move (Go.Operand.tmp 12), type := 22, pos := "law.go:64", after := #[], guard := none }) (v := ?v1) rfl (by kernel_rfl) (by kernel_rfl) (by kernel_rfl) (fun _ _ _ h => h) (Or.inl ⟨by rfl, ?hy1⟩) (by assumption) ?rest1
    case hy1 => (intro w hSw; (try dsimp only at hSw); go_simp <;> with_reducible rfl)
    try simp only [Act.put, List.setIfInBounds_toArray, List.set_cons_zero, List.set_cons_succ]
    refine wpAnyH_take (i := 3) (oi := { dst := some 51, op := Go.Op.move (Go.Operand.tmp 3), type := 22, pos := "law.go:64", after := #[], guard := none }) (v := ?v2) rfl (by kernel_rfl) (by kernel_rfl) (by kernel_rfl) (fun _ _ _ h => h) (Or.inl ⟨by rfl, ?hy2⟩) (by assumption) ?rest2
    case hy2 => (intro w hSw; (try dsimp only at hSw); go_simp <;> with_reducible rfl)
    try simp only [Act.put, List.setIfInBounds_toArray, List.set_cons_zero, List.set_cons_succ]
    refine wpAnyH_take (i := 4) (oi := { dst := some 52, op := Go.Op.move (Go.Operand.tmp 3), type := 22, pos := "law.go:64", after := #[], guard := none }) (v := ?v3) rfl (by kernel_rfl) (by kernel_rfl) (by kernel_rfl) (fun _ _ _ h => h) (Or.inl ⟨by rfl, ?hy3⟩) (by assumption) ?rest3
    case hy3 => (intro w hSw; (try dsimp only at hSw); go_simp <;> with_reducible rfl)
    try simp only [Act.put, List.setIfInBounds_toArray, List.set_cons_zero, List.set_cons_succ]
    refine wpAnyH_take (i := 5) (oi := { dst := some 53, op := Go.Op.call { callee := Go.Callee.builtin Go.Builtin.len, args := #[Go.Operand.tmp 52], argTypes := #[22] }, type := 3, pos := "law.go:64", after := #[{ on := 4, ground := Go.Ground.data }], guard := none }) (v := ?v4) rfl (by kernel_rfl) (by kernel_rfl) (by kernel_rfl) (fun _ _ _ h => h) (Or.inl ⟨by rfl, ?hy4⟩) (by assumption) ?rest4
    case hy4 => (intro w hSw; (try dsimp only at hSw); go_simp <;> with_reducible rfl)
    try simp only [Act.put, List.setIfInBounds_toArray, List.set_cons_zero, List.set_cons_succ]
    refine wpAnyH_take (i := 6) (oi := { dst := some 54, op := Go.Op.call { callee := Go.Callee.builtin Go.Builtin.min, args := #[Go.Operand.tmp 53, Go.Operand.const (Go.Value.int Go.IntKind.i64 50)], argTypes := #[3, 3] }, type := 3, pos := "law.go:64", after := #[{ on := 5, ground := Go.Ground.data }], guard := none }) (v := ?v5) rfl (by kernel_rfl) (by kernel_rfl) (by kernel_rfl) (fun _ _ _ h => h) (Or.inl ⟨by rfl, ?hy5⟩) (by assumption) ?rest5
    case hy5 => (intro w hSw; (try dsimp only at hSw); go_simp <;> with_reducible rfl)
    try simp only [Act.put, List.setIfInBounds_toArray, List.set_cons_zero, List.set_cons_succ]
    refine wpAnyH_take (i := 7) (oi := { dst := some 55, op := Go.Op.slice 22 (Go.Operand.tmp 51) none (some (Go.Operand.tmp 54)) none, type := 22, pos := "law.go:64", after := #[{ on := 3, ground := Go.Ground.data }, { on := 6, ground := Go.Ground.data }], guard := none }) (v := ?v6) rfl (by kernel_rfl) (by kernel_rfl) (by kernel_rfl) (fun _ _ _ h => h) (Or.inl ⟨by rfl, ?hy6⟩) (by assumption) ?rest6
    case hy6 => (intro w hSw; (try dsimp only at hSw); go_simp <;> with_reducible rfl)
    try simp only [Act.put, List.setIfInBounds_toArray, List.set_cons_zero, List.set_cons_succ]
    refine wpAnyH_take (i := 9) (oi := { dst := some 57, op := Go.Op.move (Go.Operand.tmp 1), type := 26, pos := "law.go:64", after := #[], guard := none }) (v := ?v7) rfl (by kernel_rfl) (by kernel_rfl) (by kernel_rfl) (fun _ _ _ h => h) (Or.inl ⟨by rfl, ?hy7⟩) (by assumption) ?rest7
    case hy7 => (intro w hSw; (try dsimp only at hSw); go_simp <;> with_reducible rfl)
    try simp only [Act.put, List.setIfInBounds_toArray, List.set_cons_zero, List.set_cons_succ]
    refine wpAnyH_take (i := 10) (oi := { dst := some 58, op := Go.Op.move (Go.Operand.tmp 2), type := 26, pos := "law.go:64", after := #[], guard := none }) (v := ?v8) rfl (by kernel_rfl) (by kernel_rfl) (by kernel_rfl) (fun _ _ _ h => h) (Or.inl ⟨by rfl, ?hy8⟩) (by assumption) ?rest8
    case hy8 => (intro w hSw; (try dsimp only at hSw); go_simp <;> with_reducible rfl)
    try simp only [Act.put, List.setIfInBounds_toArray, List.set_cons_zero, List.set_cons_succ]
    refine wpAnyH_ready (rs := [0, 15]) (by kernel_rfl) (by simp) ?_
    refine AllReadyH.cons (o := { dst := some 48, op := Go.Op.buildSlice 22 0 #[], type := 22, pos := "law.go:64", after := #[], guard := none }) rfl (fun K hK => ?_) ?_
    ·
      go_simp
      have hx : Ex (fun _ => False) wd (wd.alloc (.cells #[] 5)) := (Ex.refl _ wd).alloc _
      have hsz := HX_wd.out.size
      have hob : OB (wd.alloc (.cells #[] 5)) w4.heap.size (.slice (some ⟨wd.heap.size, 0, none⟩) 0 0) [] := OB.lit wd w4.heap.size [] hsz (by simp)
      have hlt_b0 : wd.heap.size < (wd.alloc (.cells #[] 5)).heap.size := by simp
      obtain ⟨b0, hb0⟩ : ∃ b, b = wd.heap.size := ⟨_, rfl⟩
      have hb_b0 : wd.heap.size ≤ b0 := by omega
      rw [← hb0] at hob hlt_b0
      try simp only [← hb0]
      generalize wd.alloc (.cells #[] 5) = wa at hx hob hlt_b0 ⊢
      clear hb0
      have HX_wa := Lib.hid hx
      clear hx
      have HOa := Lib.hid hob
      clear hob hsz
      have hS : Ex (fun _ => False) w4 wa := (HX_wd.out.trans HX_wa.out)
      refine hK.out _ _ hS (fun _ => ?_)
      refine wpAnyH_ready (rs := [2, 15]) (by kernel_rfl) (by simp) ?_
      refine AllReadyH.cons (o := { dst := some 50, op := Go.Op.call { callee := Go.Callee.builtin Go.Builtin.append, args := #[Go.Operand.tmp 48, Go.Operand.tmp 49], argTypes := #[22, 22] }, type := 22, pos := "law.go:64", after := #[{ on := 0, ground := Go.Ground.data }, { on := 1, ground := Go.Ground.data }], guard := none }) rfl (fun K hK => ?_) ?_
      ·
        have hsz := (HX_wd.out.trans HX_wa.out).size
        refine step_append_ob i0 22 Tryd.underlying22 hi hz0 hz1 hz2 rfl (.tmp 48) (.tmp 49) rfl w4.heap.size (.slice (some ⟨b0, 0, none⟩) 0 0) [] rfl (fun _ => True) (.slice (some ⟨g5, 0, none⟩) M5.length c5) M5 rfl HOa.out (RB.any (OB.keep HO5.out (HX_wd.out.trans HX_wa.out) (fun _ _ _ _ => id)).rb) (by simp; omega) hsz ?_
        intro A2 c2 wb ho3 hg3 hn3 hb3
        try simp only [Act.put, List.setIfInBounds_toArray, List.set_cons_zero, List.set_cons_succ]
        have hs2 : ∃ a, A2 = some a := by
          cases A2 with
          | none => exact absurd (hn3.1 rfl).1 (by simp)
          | some a => exact ⟨a, rfl⟩
        obtain ⟨A2, rfl⟩ := hs2
        have ho : OB wb w4.heap.size (.slice (some A2) M5.length c2) M5 := by simpa using ho3
        try simp only [List.length_nil, Nat.zero_add]
        obtain ⟨g2, rfl, hb_g2, hlt_g2⟩ := ho.plain
        have hx : Ex (fun j => j = b0) wa wb := (Ex.refl _ wa).grown hg3 (fun k hk => .inl (by obtain rfl := Option.some.inj hk; rfl))
        have hg2 : g2 = b0 ∨ g2 = wa.heap.size := by
          rcases hb3 with h | h
          · exact .inl (Option.some.inj h)
          · exact .inr (Option.some.inj h)
        clear ho3 hg3 hn3 hb3
        have HX_wb := Lib.hid hx
        clear hx
        have HOb := Lib.hid ho
        clear ho hsz hg2
        have hS : Ex (fun _ => False) w4 wb := ((HX_wd.out.trans HX_wa.out).andThen HX_wb.out (fun i hi e => by have := HX_wd.out.size; have := hb_b0; omega))
        refine hK.out _ _ hS (fun _ => ?_)
        refine wpAnyH_ready (rs := [8, 15]) (by kernel_rfl) (by simp) ?_
        refine AllReadyH.cons (o := { dst := some 56, op := Go.Op.call { callee := Go.Callee.builtin Go.Builtin.append, args := #[Go.Operand.tmp 50, Go.Operand.tmp 55], argTypes := #[22, 22] }, type := 22, pos := "law.go:64", after := #[{ on := 2, ground := Go.Ground.data }, { on := 7, ground := Go.Ground.data }, { on := 2, ground := Go.Ground.chain }], guard := none }) rfl (fun K hK => ?_) ?_
        ·
          have hsz := ((HX_wd.out.trans HX_wa.out).andThen HX_wb.out (fun i hi e => by have := HX_wd.out.size; have := hb_b0; omega)).size
          refine step_append_ob i0 22 Tryd.underlying22 hi hz0 hz1 hz2 rfl (.tmp 50) (.tmp 55) rfl w4.heap.size (.slice (some ⟨g2, 0, none⟩) M5.length c2) M5 rfl (fun _ => True) (.slice B r1.length cb) r1 rfl HOb.out (RB.keep HR.out ((HX_wd.out.trans HX_wa.out).andThen HX_wb.out (fun i hi e => by have := HX_wd.out.size; have := hb_b0; omega)) (fun _ _ _ => id)) (by omega) hsz ?_
          intro A3 c3 wc ho3 hg3 hn3 hb3
          try simp only [Act.put, List.setIfInBounds_toArray, List.set_cons_zero, List.set_cons_succ]
          have hs2 : ∃ a, A3 = some a := by
            cases A3 with
            | none => exact absurd (hn3.1 rfl).1 (by simp)
            | some a => exact ⟨a, rfl⟩
          obtain ⟨A3, rfl⟩ := hs2
          have hx : Ex (fun j => j = g2) wb wc := (Ex.refl _ wb).grown hg3 (fun k hk => .inl (by obtain rfl := Option.some.inj hk; rfl))
          have HOc : Hid (OB wc w4.heap.size (.slice (some A3) (M5.length + r1.length) c3) (M5 ++ r1)) := Lib.hid ho3
          clear ho3 hg3 hn3 hb3
          have HX_wc := Lib.hid hx
          clear hx
          clear hsz
          have hS : Ex (fun _ => False) w4 wc := (((HX_wd.out.trans HX_wa.out).andThen HX_wb.out (fun i hi e => by have := HX_wd.out.size; have := hb_b0; omega)).andThen HX_wc.out (fun i hi e => by have := hb_g2; omega))
          refine hK.out _ _ hS (fun _ => ?_)
          refine wpAnyH_ready (rs := [11, 15]) (by kernel_rfl) (by simp) ?_
          refine AllReadyH.cons (o := { dst := some 59, op := Go.Op.call { callee := Go.Callee.value (Go.Operand.func 16), args := #[Go.Operand.tmp 56, Go.Operand.tmp 57, Go.Operand.tmp 58], argTypes := #[22, 32, 32] }, type := 30, pos := "law.go:64", after := #[{ on := 8, ground := Go.Ground.data }, { on := 9, ground := Go.Ground.data }, { on := 10, ground := Go.Ground.data }, { on := 8, ground := Go.Ground.chain }], guard := none }) rfl (fun K hK => ?_) ?_
          ·
            go_simp
            refine (uparse_yes _ (some A3) (M5.length + r1.length) c3 (M5 ++ r1) s t wc HOc.out.rb (fun h => by cases h) (by rw [List.length_append]; omega) HS.out HT.out HPA.out.1).mono ?_
            rintro e wp ⟨A9, rfl, hb9, hx⟩
            rw [HPA.out.2] at hb9 ⊢
            have hv : dgv (⟨xsrc, xdst, xpl, xl⟩ : Dg) (.slice A9 (⟨xsrc, xdst, xpl, xl⟩ : Dg).b.length (⟨xsrc, xdst, xpl, xl⟩ : Dg).b.length) = .agg #[.int .u16 xsrc, .int .u16 xdst, .bool xpl, .slice A9 xl.length xl.length] := rfl
            rw [hv]
            clear hv
            have hb9' : RB wp (fun j => wc.heap.size ≤ j) (.slice A9 xl.length xl.length) xl := hb9
            clear hb9
            have HX_wp := Lib.hid hx
            clear hx
            have HB9 := Lib.hid hb9'
            clear hb9'
            have hS : Ex (fun _ => False) w4 wp := ((((HX_wd.out.trans HX_wa.out).andThen HX_wb.out (fun i hi e => by have := HX_wd.out.size; have := hb_b0; omega)).andThen HX_wc.out (fun i hi e => by have := hb_g2; omega)).trans HX_wp.out)
            refine hK.out _ _ hS (fun _ => ?_)
            refine wpAnyH_take (i := 12) (oi := { dst := some 47, op := Go.Op.move (Go.Operand.tmp 59), type := 30, pos := "law.go:64", after := #[{ on := 11, ground := Go.Ground.data }], guard := none }) (v := ?v9) rfl (by kernel_rfl) (by kernel_rfl) (by kernel_rfl) (fun _ _ _ h => h) (Or.inl ⟨by rfl, ?hy9⟩) (by assumption) ?rest9
            case hy9 => (intro w hSw; (try dsimp only at hSw); go_simp <;> with_reducible rfl)
            try simp only [Act.put, List.setIfInBounds_toArray, List.set_cons_zero, List.set_cons_succ]
            refine wpAnyH_take (i := 13) (oi := { dst := some 60, op := Go.Op.extract (Go.Operand.tmp 47) 0, type := 25, pos := "law.go:64", after := #[{ on := 12, ground := Go.Ground.data }], guard := none }) (v := ?v10) rfl (by kernel_rfl) (by kernel_rfl) (by kernel_rfl) (fun _ _ _ h => h) (Or.inl ⟨by rfl, ?hy10⟩) (by assumption) ?rest10
            case hy10 => (intro w hSw; (try dsimp only at hSw); go_simp <;> with_reducible rfl)
            try simp only [Act.put, List.setIfInBounds_toArray, List.set_cons_zero, List.set_cons_succ]
            refine wpAnyH_take (i := 14) (oi := { dst := some 61, op := Go.Op.extract (Go.Operand.tmp 47) 1, type := 29, pos := "law.go:64", after := #[{ on := 12, ground := Go.Ground.data }, { on := 16, ground := Go.Ground.gcOnly Go.Departure.lateStores }], guard := none }) (v := ?v11) rfl (by kernel_rfl) (by kernel_rfl) (by kernel_rfl) (fun _ _ _ h => h) (Or.inl ⟨by rfl, ?hy11⟩) (by assumption) ?rest11
            case hy11 => (intro w hSw; (try dsimp only at hSw); go_simp <;> with_reducible rfl)
            try simp only [Act.put, List.setIfInBounds_toArray, List.set_cons_zero, List.set_cons_succ]
            refine wpAnyH_ready (rs := [15]) (by kernel_rfl) (by simp) ?_
            refine AllReadyH.cons (o := { dst := some 14, op := Go.Op.alloc 25, type := 0, pos := "law.go:64", after := #[], guard := none }) rfl (fun K hK => ?_) AllReadyH.nil
            go_simp
            have hx : Ex (fun _ => False) wp (wp.alloc (.cells #[.int .u16 0, .int .u16 0, .bool false, .slice none 0 0] 25)) := (Ex.refl _ wp).alloc _
            have hb : (wp.alloc (.cells #[.int .u16 0, .int .u16 0, .bool false, .slice none 0 0] 25)).heap[wp.heap.size]? = some (.cells #[.int .u16 0, .int .u16 0, .bool false, .slice none 0 0] 25) := heap_alloc_new wp _
            obtain ⟨xb, hxb⟩ : ∃ xb, xb = wp.heap.size := ⟨_, rfl⟩
            have hb_xb : wp.heap.size ≤ xb := by omega
            rw [← hxb] at hb
            try simp only [← hxb]
            generalize wp.alloc (.cells #[.int .u16 0, .int .u16 0, .bool false, .slice none 0 0] 25) = we at hx hb ⊢
            clear hxb
            have HX_we := Lib.hid hx
            clear hx
            have B_xb := Lib.hid hb
            clear hb
            have hS : Ex (fun _ => False) w4 we := (((((HX_wd.out.trans HX_wa.out).andThen HX_wb.out (fun i hi e => by have := HX_wd.out.size; have := hb_b0; omega)).andThen HX_wc.out (fun i hi e => by have := hb_g2; omega)).trans HX_wp.out).trans HX_we.out)
            refine hK.out _ _ hS (fun _ => ?_)
            refine wpAnyH_ready (rs := [16]) (by kernel_rfl) (by simp) ?_
            refine AllReadyH.cons (o := { dst := none, op := Go.Op.store 25 (Go.Operand.tmp 14) (Go.Operand.tmp 60), type := 0, pos := "law.go:64", after := #[{ on := 15, ground := Go.Ground.data }, { on := 13, ground := Go.Ground.data }, { on := 11, ground := Go.Ground.chain }, { on := 0, ground := Go.Ground.phase }, { on := 1, ground := Go.Ground.phase }, { on := 2, ground := Go.Ground.phase }, { on := 3, ground := Go.Ground.phase }, { on := 4, ground := Go.Ground.phase }, { on := 5, ground := Go.Ground.phase }, { on := 6, ground := Go.Ground.phase }, { on := 7, ground := Go.Ground.phase }, { on := 8, ground := Go.Ground.phase }, { on := 9, ground := Go.Ground.phase }, { on := 10, ground := Go.Ground.phase }, { on := 11, ground := Go.Ground.phase }, { on := 12, ground := Go.Ground.phase }, { on := 13, ground := Go.Ground.phase }, { on := 14, ground := Go.Ground.textOnly Go.Departure.lateStores }, { on := 15, ground := Go.Ground.phase }], guard := none }) rfl (fun K hK => ?_) AllReadyH.nil
            have cxb0 := row_cell (k := 0) (v := .int .u16 0) B_xb.out rfl
            have cxb1 := row_cell (k := 1) (v := .int .u16 0) B_xb.out rfl
            have cxb2 := row_cell (k := 2) (v := .bool false) B_xb.out rfl
            have cxb3 := row_cell (k := 3) (v := .slice none 0 0) B_xb.out rfl
            have fxb0 := row_frozen B_xb.out 0
            have fxb1 := row_frozen B_xb.out 1
            have fxb2 := row_frozen B_xb.out 2
            have fxb3 := row_frozen B_xb.out 3
            go_simp
            have r0 : (we.setCell ⟨xb, 0, none⟩ (.int .u16 xsrc)).heap[xb]? = some (.cells #[.int .u16 xsrc, .int .u16 0, .bool false, .slice none 0 0] 25) := row_set B_xb.out 0 (.int .u16 xsrc)
            have r1 : ((we.setCell ⟨xb, 0, none⟩ (.int .u16 xsrc)).setCell ⟨xb, 1, none⟩ (.int .u16 xdst)).heap[xb]? = some (.cells #[.int .u16 xsrc, .int .u16 xdst, .bool false, .slice none 0 0] 25) := row_set r0 1 (.int .u16 xdst)
            clear r0
            have r2 : (((we.setCell ⟨xb, 0, none⟩ (.int .u16 xsrc)).setCell ⟨xb, 1, none⟩ (.int .u16 xdst)).setCell ⟨xb, 2, none⟩ (.bool xpl)).heap[xb]? = some (.cells #[.int .u16 xsrc, .int .u16 xdst, .bool xpl, .slice none 0 0] 25) := row_set r1 2 (.bool xpl)
            clear r1
            have r3 : ((((we.setCell ⟨xb, 0, none⟩ (.int .u16 xsrc)).setCell ⟨xb, 1, none⟩ (.int .u16 xdst)).setCell ⟨xb, 2, none⟩ (.bool xpl)).setCell ⟨xb, 3, none⟩ (.slice A9 xl.length xl.length)).heap[xb]? = some (.cells #[.int .u16 xsrc, .int .u16 xdst, .bool xpl, .slice A9 xl.length xl.length] 25) := row_set r2 3 (.slice A9 xl.length xl.length)
            clear r2
            have hx : Ex (fun j => j = xb) we ((((we.setCell ⟨xb, 0, none⟩ (.int .u16 xsrc)).setCell ⟨xb, 1, none⟩ (.int .u16 xdst)).setCell ⟨xb, 2, none⟩ (.bool xpl)).setCell ⟨xb, 3, none⟩ (.slice A9 xl.length xl.length)) := (((((Ex.refl (fun j => j = xb) we).setCell (p := ⟨xb, 0, none⟩) (.inl rfl) (.int .u16 xsrc)).setCell (p := ⟨xb, 1, none⟩) (.inl rfl) (.int .u16 xdst)).setCell (p := ⟨xb, 2, none⟩) (.inl rfl) (.bool xpl)).setCell (p := ⟨xb, 3, none⟩) (.inl rfl) (.slice A9 xl.length xl.length))
            clear cxb0 cxb1 cxb2 cxb3 fxb0 fxb1 fxb2 fxb3
            generalize ((((we.setCell ⟨xb, 0, none⟩ (.int .u16 xsrc)).setCell ⟨xb, 1, none⟩ (.int .u16 xdst)).setCell ⟨xb, 2, none⟩ (.bool xpl)).setCell ⟨xb, 3, none⟩ (.slice A9 xl.length xl.length)) = wf at r3 hx ⊢
            replace B_xb := Lib.hid r3
            clear r3
            have HX_wf := Lib.hid hx
            clear hx
            have hS : Ex (fun _ => False) w4 wf := ((((((HX_wd.out.trans HX_wa.out).andThen HX_wb.out (fun i hi e => by have := HX_wd.out.size; have := hb_b0; omega)).andThen HX_wc.out (fun i hi e => by have := hb_g2; omega)).trans HX_wp.out).trans HX_we.out).andThen HX_wf.out (fun i hi e => by have := ((((HX_wd.out.trans HX_wa.out).andThen HX_wb.out (fun i hi e => by have := HX_wd.out.size; have := hb_b0; omega)).andThen HX_wc.out (fun i hi e => by have := hb_g2; omega)).trans HX_wp.out).size; have := hb_xb; omega))
            refine hK.out _ _ hS (fun _ => ?_)
            refine wpAnyH_take (i := 17) (oi := { dst := some 15, op := Go.Op.assign (Go.Operand.tmp 61), type := 29, pos := "law.go:64", after := #[{ on := 14, ground := Go.Ground.data }, { on := 16, ground := Go.Ground.chain }, { on := 0, ground := Go.Ground.phase }, { on := 1, ground := Go.Ground.phase }, { on := 2, ground := Go.Ground.phase }, { on := 3, ground := Go.Ground.phase }, { on := 4, ground := Go.Ground.phase }, { on := 5, ground := Go.Ground.phase }, { on := 6, ground := Go.Ground.phase }, { on := 7, ground := Go.Ground.phase }, { on := 8, ground := Go.Ground.phase }, { on := 9, ground := Go.Ground.phase }, { on := 10, ground := Go.Ground.phase }, { on := 11, ground := Go.Ground.phase }, { on := 12, ground := Go.Ground.phase }, { on := 13, ground := Go.Ground.phase }, { on := 14, ground := Go.Ground.phase }, { on := 15, ground := Go.Ground.phase }, { on := 16, ground := Go.Ground.phase }], guard := none }) (v := ?v12) rfl (by kernel_rfl) (by kernel_rfl) (by kernel_rfl) (fun _ _ _ h => h) (Or.inl ⟨by rfl, ?hy12⟩) (by assumption) ?rest12
            case hy12 => (intro w hSw; (try dsimp only at hSw); go_simp <;> with_reducible rfl)
            try simp only [Act.put, List.setIfInBounds_toArray, List.set_cons_zero, List.set_cons_succ]
            refine wpAnyH_done (by kernel_rfl) ?_ _
            go_wp2_with fail
            go_meet
            exact ⟨xb, A9, rfl, rfl, Lib.hid B_xb.out, Lib.hid (RB.any (RB.keep HB9.out (HX_we.out.andThen HX_wf.out (fun i hi e => by have := hb_xb; omega)) (fun _ _ _ => id))), Lib.hid ((((((HX_wd.out.trans HX_wa.out).andThen HX_wb.out (fun i hi e => by have := HX_wd.out.size; have := hb_b0; omega)).andThen HX_wc.out (fun i hi e => by have := hb_g2; omega)).trans HX_wp.out).trans HX_we.out).andThen HX_wf.out (fun i hi e => by have := ((((HX_wd.out.trans HX_wa.out).andThen HX_wb.out (fun i hi e => by have := HX_wd.out.size; have := hb_b0; omega)).andThen HX_wc.out (fun i hi e => by have := hb_g2; omega)).trans HX_wp.out).size; have := hb_xb; omega))⟩
          refine AllReadyH.cons (o := { dst := some 14, op := Go.Op.alloc 25, type := 0, pos := "law.go:64", after := #[], guard := none }) rfl (fun K hK => ?_) AllReadyH.nil
          go_simp
          have hx : Ex (fun _ => False) wc (wc.alloc (.cells #[.int .u16 0, .int .u16 0, .bool false, .slice none 0 0] 25)) := (Ex.refl _ wc).alloc _
          have hb : (wc.alloc (.cells #[.int .u16 0, .int .u16 0, .bool false, .slice none 0 0] 25)).heap[wc.heap.size]? = some (.cells #[.int .u16 0, .int .u16 0, .bool false, .slice none 0 0] 25) := heap_alloc_new wc _
          obtain ⟨xb, hxb⟩ : ∃ xb, xb = wc.heap.size := ⟨_, rfl⟩
          have hb_xb : wc.heap.size ≤ xb := by omega
          rw [← hxb] at hb
          try simp only [← hxb]
          generalize wc.alloc (.cells #[.int .u16 0, .int .u16 0, .bool false, .slice none 0 0] 25) = we at hx hb ⊢
          clear hxb
          have HX_we := Lib.hid hx
          clear hx
          have B_xb := Lib.hid hb
          clear hb
          have hS : Ex (fun _ => False) w4 we := ((((HX_wd.out.trans HX_wa.out).andThen HX_wb.out (fun i hi e => by have := HX_wd.out.size; have := hb_b0; omega)).andThen HX_wc.out (fun i hi e => by have := hb_g2; omega)).trans HX_we.out)
          refine hK.out _ _ hS (fun _ => ?_)
          refine wpAnyH_ready (rs := [11]) (by kernel_rfl) (by simp) ?_
          refine AllReadyH.cons (o := { dst := some 59, op := Go.Op.call { callee := Go.Callee.value (Go.Operand.func 16), args := #[Go.Operand.tmp 56, Go.Operand.tmp 57, Go.Operand.tmp 58], argTypes := #[22, 32, 32] }, type := 30, pos := "law.go:64", after := #[{ on := 8, ground := Go.Ground.data }, { on := 9, ground := Go.Ground.data }, { on := 10, ground := Go.Ground.data }, { on := 8, ground := Go.Ground.chain }], guard := none }) rfl (fun K hK => ?_) AllReadyH.nil
          go_simp
          refine (uparse_yes _ (some A3) (M5.length + r1.length) c3 (M5 ++ r1) s t we (OB.keep HOc.out HX_we.out (fun _ _ _ _ => id)).rb (fun h => by cases h) (by rw [List.length_append]; omega) HS.out HT.out HPA.out.1).mono ?_
          rintro e wp ⟨A9, rfl, hb9, hx⟩
          rw [HPA.out.2] at hb9 ⊢
          have hv : dgv (⟨xsrc, xdst, xpl, xl⟩ : Dg) (.slice A9 (⟨xsrc, xdst, xpl, xl⟩ : Dg).b.length (⟨xsrc, xdst, xpl, xl⟩ : Dg).b.length) = .agg #[.int .u16 xsrc, .int .u16 xdst, .bool xpl, .slice A9 xl.length xl.length] := rfl
          rw [hv]
          clear hv
          have hb9' : RB wp (fun j => we.heap.size ≤ j) (.slice A9 xl.length xl.length) xl := hb9
          clear hb9
          have hlxp := row_lt B_xb.out
          have HX_wp := Lib.hid hx
          clear hx
          have HB9 := Lib.hid hb9'
          clear hb9'
          have hS : Ex (fun _ => False) w4 wp := (((((HX_wd.out.trans HX_wa.out).andThen HX_wb.out (fun i hi e => by have := HX_wd.out.size; have := hb_b0; omega)).andThen HX_wc.out (fun i hi e => by have := hb_g2; omega)).trans HX_we.out).trans HX_wp.out)
          refine hK.out _ _ hS (fun _ => ?_)
          refine wpAnyH_take (i := 12) (oi := { dst := some 47, op := Go.Op.move (Go.Operand.tmp 59), type := 30, pos := "law.go:64", after := #[{ on := 11, ground := Go.Ground.data }], guard := none }) (v := ?v13) rfl (by kernel_rfl) (by kernel_rfl) (by kernel_rfl) (fun _ _ _ h => h) (Or.inl ⟨by rfl, ?hy13⟩) (by assumption) ?rest13
          case hy13 => (intro w hSw; (try dsimp only at hSw); go_simp <;> with_reducible rfl)
          try simp only [Act.put, List.setIfInBounds_toArray, List.set_cons_zero, List.set_cons_succ]
          refine wpAnyH_take (i := 13) (oi := { dst := some 60, op := Go.Op.extract (Go.Operand.tmp 47) 0, type := 25, pos := "law.go:64", after := #[{ on := 12, ground := Go.Ground.data }], guard := none }) (v := ?v14) rfl (by kernel_rfl) (by kernel_rfl) (by kernel_rfl) (fun _ _ _ h => h) (Or.inl ⟨by rfl, ?hy14⟩) (by assumption) ?rest14
          case hy14 => (intro w hSw; (try dsimp only at hSw); go_simp <;> with_reducible rfl)
          try simp only [Act.put, List.setIfInBounds_toArray, List.set_cons_zero, List.set_cons_succ]
          refine wpAnyH_take (i := 14) (oi := { dst := some 61, op := Go.Op.extract (Go.Operand.tmp 47) 1, type := 29, pos := "law.go:64", after := #[{ on := 12, ground := Go.Ground.data }, { on := 16, ground := Go.Ground.gcOnly Go.Departure.lateStores }], guard := none }) (v := ?v15) rfl (by kernel_rfl) (by kernel_rfl) (by kernel_rfl) (fun _ _ _ h => h) (Or.inl ⟨by rfl, ?hy15⟩) (by assumption) ?rest15
          case hy15 => (intro w hSw; (try dsimp only at hSw); go_simp <;> with_reducible rfl)
          try simp only [Act.put, List.setIfInBounds_toArray, List.set_cons_zero, List.set_cons_succ]
          refine wpAnyH_ready (rs := [16]) (by kernel_rfl) (by simp) ?_
          refine AllReadyH.cons (o := { dst := none, op := Go.Op.store 25 (Go.Operand.tmp 14) (Go.Operand.tmp 60), type := 0, pos := "law.go:64", after := #[{ on := 15, ground := Go.Ground.data }, { on := 13, ground := Go.Ground.data }, { on := 11, ground := Go.Ground.chain }, { on := 0, ground := Go.Ground.phase }, { on := 1, ground := Go.Ground.phase }, { on := 2, ground := Go.Ground.phase }, { on := 3, ground := Go.Ground.phase }, { on := 4, ground := Go.Ground.phase }, { on := 5, ground := Go.Ground.phase }, { on := 6, ground := Go.Ground.phase }, { on := 7, ground := Go.Ground.phase }, { on := 8, ground := Go.Ground.phase }, { on := 9, ground := Go.Ground.phase }, { on := 10, ground := Go.Ground.phase }, { on := 11, ground := Go.Ground.phase }, { on := 12, ground := Go.Ground.phase }, { on := 13, ground := Go.Ground.phase }, { on := 14, ground := Go.Ground.textOnly Go.Departure.lateStores }, { on := 15, ground := Go.Ground.phase }], guard := none }) rfl (fun K hK => ?_) AllReadyH.nil
          replace B_xb := Lib.hid ((HX_wp.out.block xb (row_lt B_xb.out) id).trans B_xb.out)
          have cxb0 := row_cell (k := 0) (v := .int .u16 0) B_xb.out rfl
          have cxb1 := row_cell (k := 1) (v := .int .u16 0) B_xb.out rfl
          have cxb2 := row_cell (k := 2) (v := .bool false) B_xb.out rfl
          have cxb3 := row_cell (k := 3) (v := .slice none 0 0) B_xb.out rfl
          have fxb0 := row_frozen B_xb.out 0
          have fxb1 := row_frozen B_xb.out 1
          have fxb2 := row_frozen B_xb.out 2
          have fxb3 := row_frozen B_xb.out 3
          go_simp
          have r0 : (wp.setCell ⟨xb, 0, none⟩ (.int .u16 xsrc)).heap[xb]? = some (.cells #[.int .u16 xsrc, .int .u16 0, .bool false, .slice none 0 0] 25) := row_set B_xb.out 0 (.int .u16 xsrc)
          have r1 : ((wp.setCell ⟨xb, 0, none⟩ (.int .u16 xsrc)).setCell ⟨xb, 1, none⟩ (.int .u16 xdst)).heap[xb]? = some (.cells #[.int .u16 xsrc, .int .u16 xdst, .bool false, .slice none 0 0] 25) := row_set r0 1 (.int .u16 xdst)
          clear r0
          have r2 : (((wp.setCell ⟨xb, 0, none⟩ (.int .u16 xsrc)).setCell ⟨xb, 1, none⟩ (.int .u16 xdst)).setCell ⟨xb, 2, none⟩ (.bool xpl)).heap[xb]? = some (.cells #[.int .u16 xsrc, .int .u16 xdst, .bool xpl, .slice none 0 0] 25) := row_set r1 2 (.bool xpl)
          clear r1
          have r3 : ((((wp.setCell ⟨xb, 0, none⟩ (.int .u16 xsrc)).setCell ⟨xb, 1, none⟩ (.int .u16 xdst)).setCell ⟨xb, 2, none⟩ (.bool xpl)).setCell ⟨xb, 3, none⟩ (.slice A9 xl.length xl.length)).heap[xb]? = some (.cells #[.int .u16 xsrc, .int .u16 xdst, .bool xpl, .slice A9 xl.length xl.length] 25) := row_set r2 3 (.slice A9 xl.length xl.length)
          clear r2
          have hx : Ex (fun j => j = xb) wp ((((wp.setCell ⟨xb, 0, none⟩ (.int .u16 xsrc)).setCell ⟨xb, 1, none⟩ (.int .u16 xdst)).setCell ⟨xb, 2, none⟩ (.bool xpl)).setCell ⟨xb, 3, none⟩ (.slice A9 xl.length xl.length)) := (((((Ex.refl (fun j => j = xb) wp).setCell (p := ⟨xb, 0, none⟩) (.inl rfl) (.int .u16 xsrc)).setCell (p := ⟨xb, 1, none⟩) (.inl rfl) (.int .u16 xdst)).setCell (p := ⟨xb, 2, none⟩) (.inl rfl) (.bool xpl)).setCell (p := ⟨xb, 3, none⟩) (.inl rfl) (.slice A9 xl.length xl.length))
          clear cxb0 cxb1 cxb2 cxb3 fxb0 fxb1 fxb2 fxb3
          generalize ((((wp.setCell ⟨xb, 0, none⟩ (.int .u16 xsrc)).setCell ⟨xb, 1, none⟩ (.int .u16 xdst)).setCell ⟨xb, 2, none⟩ (.bool xpl)).setCell ⟨xb, 3, none⟩ (.slice A9 xl.length xl.length)) = wf at r3 hx ⊢
          replace B_xb := Lib.hid r3
          clear r3
          have HX_wf := Lib.hid hx
          clear hx
          have hS : Ex (fun _ => False) w4 wf := ((((((HX_wd.out.trans HX_wa.out).andThen HX_wb.out (fun i hi e => by have := HX_wd.out.size; have := hb_b0; omega)).andThen HX_wc.out (fun i hi e => by have := hb_g2; omega)).trans HX_we.out).trans HX_wp.out).andThen HX_wf.out (fun i hi e => by have := (((HX_wd.out.trans HX_wa.out).andThen HX_wb.out (fun i hi e => by have := HX_wd.out.size; have := hb_b0; omega)).andThen HX_wc.out (fun i hi e => by have := hb_g2; omega)).size; have := hb_xb; omega))
          refine hK.out _ _ hS (fun _ => ?_)
          refine wpAnyH_take (i := 17) (oi := { dst := some 15, op := Go.Op.assign (Go.Operand.tmp 61), type := 29, pos := "law.go:64", after := #[{ on := 14, ground := Go.Ground.data }, { on := 16, ground := Go.Ground.chain }, { on := 0, ground := Go.Ground.phase }, { on := 1, ground := Go.Ground.phase }, { on := 2, ground := Go.Ground.phase }, { on := 3, ground := Go.Ground.phase }, { on := 4, ground := Go.Ground.phase }, { on := 5, ground := Go.Ground.phase }, { on := 6, ground := Go.Ground.phase }, { on := 7, ground := Go.Ground.phase }, { on := 8, ground := Go.Ground.phase }, { on := 9, ground := Go.Ground.phase }, { on := 10, ground := Go.Ground.phase }, { on := 11, ground := Go.Ground.phase }, { on := 12, ground := Go.Ground.phase }, { on := 13, ground := Go.Ground.phase }, { on := 14, ground := Go.Ground.phase }, { on := 15, ground := Go.Ground.phase }, { on := 16, ground := Go.Ground.phase }], guard := none }) (v := ?v16) rfl (by kernel_rfl) (by kernel_rfl) (by kernel_rfl) (fun _ _ _ h => h) (Or.inl ⟨by rfl, ?hy16⟩) (by assumption) ?rest16
          case hy16 => (intro w hSw; (try dsimp only at hSw); go_simp <;> with_reducible rfl)
          try simp only [Act.put, List.setIfInBounds_toArray, List.set_cons_zero, List.set_cons_succ]
          refine wpAnyH_done (by kernel_rfl) ?_ _
          go_wp2_with fail
          go_meet
          exact ⟨xb, A9, rfl, rfl, Lib.hid B_xb.out, Lib.hid (RB.any (RB.keep HB9.out HX_wf.out (fun k hl hk e => by omega))), Lib.hid ((((((HX_wd.out.trans HX_wa.out).andThen HX_wb.out (fun i hi e => by have := HX_wd.out.size; have := hb_b0; omega)).andThen HX_wc.out (fun i hi e => by have := hb_g2; omega)).trans HX_we.out).trans HX_wp.out).andThen HX_wf.out (fun i hi e => by have := (((HX_wd.out.trans HX_wa.out).andThen HX_wb.out (fun i hi e => by have := HX_wd.out.size; have := hb_b0; omega)).andThen HX_wc.out (fun i hi e => by have := hb_g2; omega)).size; have := hb_xb; omega))⟩
        refine AllReadyH.cons (o := { dst := some 14, op := Go.Op.alloc 25, type := 0, pos := "law.go:64", after := #[], guard := none }) rfl (fun K hK => ?_) AllReadyH.nil
        go_simp
        have hx : Ex (fun _ => False) wb (wb.alloc (.cells #[.int .u16 0, .int .u16 0, .bool false, .slice none 0 0] 25)) := (Ex.refl _ wb).alloc _
        have hb : (wb.alloc (.cells #[.int .u16 0, .int .u16 0, .bool false, .slice none 0 0] 25)).heap[wb.heap.size]? = some (.cells #[.int .u16 0, .int .u16 0, .bool false, .slice none 0 0] 25) := heap_alloc_new wb _
        obtain ⟨xb, hxb⟩ : ∃ xb, xb = wb.heap.size := ⟨_, rfl⟩
        have hb_xb : wb.heap.size ≤ xb := by omega
        rw [← hxb] at hb
        try simp only [← hxb]
        generalize wb.alloc (.cells #[.int .u16 0, .int .u16 0, .bool false, .slice none 0 0] 25) = we at hx hb ⊢
        clear hxb
        have HX_we := Lib.hid hx
        clear hx
        have B_xb := Lib.hid hb
        clear hb
        have hS : Ex (fun _ => False) w4 we := (((HX_wd.out.trans HX_wa.out).andThen HX_wb.out (fun i hi e => by have := HX_wd.out.size; have := hb_b0; omega)).trans HX_we.out)
        refine hK.out _ _ hS (fun _ => ?_)
        refine wpAnyH_ready (rs := [8]) (by kernel_rfl) (by simp) ?_
        refine AllReadyH.cons (o := { dst := some 56, op := Go.Op.call { callee := Go.Callee.builtin Go.Builtin.append, args := #[Go.Operand.tmp 50, Go.Operand.tmp 55], argTypes := #[22, 22] }, type := 22, pos := "law.go:64", after := #[{ on := 2, ground := Go.Ground.data }, { on := 7, ground := Go.Ground.data }, { on := 2, ground := Go.Ground.chain }], guard := none }) rfl (fun K hK => ?_) AllReadyH.nil
        have hsz := (((HX_wd.out.trans HX_wa.out).andThen HX_wb.out (fun i hi e => by have := HX_wd.out.size; have := hb_b0; omega)).trans HX_we.out).size
        refine step_append_ob i0 22 Tryd.underlying22 hi hz0 hz1 hz2 rfl (.tmp 50) (.tmp 55) rfl w4.heap.size (.slice (some ⟨g2, 0, none⟩) M5.length c2) M5 rfl (fun _ => True) (.slice B r1.length cb) r1 rfl (OB.keep HOb.out HX_we.out (fun _ _ _ _ => id)) (RB.keep HR.out (((HX_wd.out.trans HX_wa.out).andThen HX_wb.out (fun i hi e => by have := HX_wd.out.size; have := hb_b0; omega)).trans HX_we.out) (fun _ _ _ => id)) (by omega) hsz ?_
        intro A3 c3 wc ho3 hg3 hn3 hb3
        try simp only [Act.put, List.setIfInBounds_toArray, List.set_cons_zero, List.set_cons_succ]
        have hs2 : ∃ a, A3 = some a := by
          cases A3 with
          | none => exact absurd (hn3.1 rfl).1 (by simp)
          | some a => exact ⟨a, rfl⟩
        obtain ⟨A3, rfl⟩ := hs2
        have hx : Ex (fun j => j = g2) we wc := (Ex.refl _ we).grown hg3 (fun k hk => .inl (by obtain rfl := Option.some.inj hk; rfl))
        have HOc : Hid (OB wc w4.heap.size (.slice (some A3) (M5.length + r1.length) c3) (M5 ++ r1)) := Lib.hid ho3
        clear ho3 hg3 hn3 hb3
        have hsx := (Ex.refl (fun _ => False) wb).size
        have ne_xb_g2 : xb ≠ g2 := by omega
        clear hsx
        have HX_wc := Lib.hid hx
        clear hx
        clear hsz
        have hS : Ex (fun _ => False) w4 wc := ((((HX_wd.out.trans HX_wa.out).andThen HX_wb.out (fun i hi e => by have := HX_wd.out.size; have := hb_b0; omega)).trans HX_we.out).andThen HX_wc.out (fun i hi e => by have := hb_g2; omega))
        refine hK.out _ _ hS (fun _ => ?_)
        refine wpAnyH_ready (rs := [11]) (by kernel_rfl) (by simp) ?_
        refine AllReadyH.cons (o := { dst := some 59, op := Go.Op.call { callee := Go.Callee.value (Go.Operand.func 16), args := #[Go.Operand.tmp 56, Go.Operand.tmp 57, Go.Operand.tmp 58], argTypes := #[22, 32, 32] }, type := 30, pos := "law.go:64", after := #[{ on := 8, ground := Go.Ground.data }, { on := 9, ground := Go.Ground.data }, { on := 10, ground := Go.Ground.data }, { on := 8, ground := Go.Ground.chain }], guard := none }) rfl (fun K hK => ?_) AllReadyH.nil
        go_simp
        refine (uparse_yes _ (some A3) (M5.length + r1.length) c3 (M5 ++ r1) s t wc HOc.out.rb (fun h => by cases h) (by rw [List.length_append]; omega) HS.out HT.out HPA.out.1).mono ?_
        rintro e wp ⟨A9, rfl, hb9, hx⟩
        rw [HPA.out.2] at hb9 ⊢
        have hv : dgv (⟨xsrc, xdst, xpl, xl⟩ : Dg) (.slice A9 (⟨xsrc, xdst, xpl, xl⟩ : Dg).b.length (⟨xsrc, xdst, xpl, xl⟩ : Dg).b.length) = .agg #[.int .u16 xsrc, .int .u16 xdst, .bool xpl, .slice A9 xl.length xl.length] := rfl
        rw [hv]
        clear hv
        have hb9' : RB wp (fun j => wc.heap.size ≤ j) (.slice A9 xl.length xl.length) xl := hb9
        clear hb9
        have hlxp := row_lt ((HX_wc.out.block xb (row_lt B_xb.out) ne_xb_g2).trans B_xb.out)
        have HX_wp := Lib.hid hx
        clear hx
        have HB9 := Lib.hid hb9'
        clear hb9'
        have hS : Ex (fun _ => False) w4 wp := (((((HX_wd.out.trans HX_wa.out).andThen HX_wb.out (fun i hi e => by have := HX_wd.out.size; have := hb_b0; omega)).trans HX_we.out).andThen HX_wc.out (fun i hi e => by have := hb_g2; omega)).trans HX_wp.out)
        refine hK.out _ _ hS (fun _ => ?_)
        refine wpAnyH_take (i := 12) (oi := { dst := some 47, op := Go.Op.move (Go.Operand.tmp 59), type := 30, pos := "law.go:64", after := #[{ on := 11, ground := Go.Ground.data }], guard := none }) (v := ?v17) rfl (by kernel_rfl) (by kernel_rfl) (by kernel_rfl) (fun _ _ _ h => h) (Or.inl ⟨by rfl, ?hy17⟩) (by assumption) ?rest17
        case hy17 => (intro w hSw; (try dsimp only at hSw); go_simp <;> with_reducible rfl)
        try simp only [Act.put, List.setIfInBounds_toArray, List.set_cons_zero, List.set_cons_succ]
        refine wpAnyH_take (i := 13) (oi := { dst := some 60, op := Go.Op.extract (Go.Operand.tmp 47) 0, type := 25, pos := "law.go:64", after := #[{ on := 12, ground := Go.Ground.data }], guard := none }) (v := ?v18) rfl (by kernel_rfl) (by kernel_rfl) (by kernel_rfl) (fun _ _ _ h => h) (Or.inl ⟨by rfl, ?hy18⟩) (by assumption) ?rest18
        case hy18 => (intro w hSw; (try dsimp only at hSw); go_simp <;> with_reducible rfl)
        try simp only [Act.put, List.setIfInBounds_toArray, List.set_cons_zero, List.set_cons_succ]
        refine wpAnyH_take (i := 14) (oi := { dst := some 61, op := Go.Op.extract (Go.Operand.tmp 47) 1, type := 29, pos := "law.go:64", after := #[{ on := 12, ground := Go.Ground.data }, { on := 16, ground := Go.Ground.gcOnly Go.Departure.lateStores }], guard := none }) (v := ?v19) rfl (by kernel_rfl) (by kernel_rfl) (by kernel_rfl) (fun _ _ _ h => h) (Or.inl ⟨by rfl, ?hy19⟩) (by assumption) ?rest19
        case hy19 => (intro w hSw; (try dsimp only at hSw); go_simp <;> with_reducible rfl)
        try simp only [Act.put, List.setIfInBounds_toArray, List.set_cons_zero, List.set_cons_succ]
        refine wpAnyH_ready (rs := [16]) (by kernel_rfl) (by simp) ?_
        refine AllReadyH.cons (o := { dst := none, op := Go.Op.store 25 (Go.Operand.tmp 14) (Go.Operand.tmp 60), type := 0, pos := "law.go:64", after := #[{ on := 15, ground := Go.Ground.data }, { on := 13, ground := Go.Ground.data }, { on := 11, ground := Go.Ground.chain }, { on := 0, ground := Go.Ground.phase }, { on := 1, ground := Go.Ground.phase }, { on := 2, ground := Go.Ground.phase }, { on := 3, ground := Go.Ground.phase }, { on := 4, ground := Go.Ground.phase }, { on := 5, ground := Go.Ground.phase }, { on := 6, ground := Go.Ground.phase }, { on := 7, ground := Go.Ground.phase }, { on := 8, ground := Go.Ground.phase }, { on := 9, ground := Go.Ground.phase }, { on := 10, ground := Go.Ground.phase }, { on := 11, ground := Go.Ground.phase }, { on := 12, ground := Go.Ground.phase }, { on := 13, ground := Go.Ground.phase }, { on := 14, ground := Go.Ground.textOnly Go.Departure.lateStores }, { on := 15, ground := Go.Ground.phase }], guard := none }) rfl (fun K hK => ?_) AllReadyH.nil
        replace B_xb := Lib.hid ((HX_wp.out.block xb (row_lt ((HX_wc.out.block xb (row_lt B_xb.out) ne_xb_g2).trans B_xb.out)) id).trans ((HX_wc.out.block xb (row_lt B_xb.out) ne_xb_g2).trans B_xb.out))
        have cxb0 := row_cell (k := 0) (v := .int .u16 0) B_xb.out rfl
        have cxb1 := row_cell (k := 1) (v := .int .u16 0) B_xb.out rfl
        have cxb2 := row_cell (k := 2) (v := .bool false) B_xb.out rfl
        have cxb3 := row_cell (k := 3) (v := .slice none 0 0) B_xb.out rfl
        have fxb0 := row_frozen B_xb.out 0
        have fxb1 := row_frozen B_xb.out 1
        have fxb2 := row_frozen B_xb.out 2
        have fxb3 := row_frozen B_xb.out 3
        go_simp
        have r0 : (wp.setCell ⟨xb, 0, none⟩ (.int .u16 xsrc)).heap[xb]? = some (.cells #[.int .u16 xsrc, .int .u16 0, .bool false, .slice none 0 0] 25) := row_set B_xb.out 0 (.int .u16 xsrc)
        have r1 : ((wp.setCell ⟨xb, 0, none⟩ (.int .u16 xsrc)).setCell ⟨xb, 1, none⟩ (.int .u16 xdst)).heap[xb]? = some (.cells #[.int .u16 xsrc, .int .u16 xdst, .bool false, .slice none 0 0] 25) := row_set r0 1 (.int .u16 xdst)
        clear r0
        have r2 : (((wp.setCell ⟨xb, 0, none⟩ (.int .u16 xsrc)).setCell ⟨xb, 1, none⟩ (.int .u16 xdst)).setCell ⟨xb, 2, none⟩ (.bool xpl)).heap[xb]? = some (.cells #[.int .u16 xsrc, .int .u16 xdst, .bool xpl, .slice none 0 0] 25) := row_set r1 2 (.bool xpl)
        clear r1
        have r3 : ((((wp.setCell ⟨xb, 0, none⟩ (.int .u16 xsrc)).setCell ⟨xb, 1, none⟩ (.int .u16 xdst)).setCell ⟨xb, 2, none⟩ (.bool xpl)).setCell ⟨xb, 3, none⟩ (.slice A9 xl.length xl.length)).heap[xb]? = some (.cells #[.int .u16 xsrc, .int .u16 xdst, .bool xpl, .slice A9 xl.length xl.length] 25) := row_set r2 3 (.slice A9 xl.length xl.length)
        clear r2
        have hx : Ex (fun j => j = xb) wp ((((wp.setCell ⟨xb, 0, none⟩ (.int .u16 xsrc)).setCell ⟨xb, 1, none⟩ (.int .u16 xdst)).setCell ⟨xb, 2, none⟩ (.bool xpl)).setCell ⟨xb, 3, none⟩ (.slice A9 xl.length xl.length)) := (((((Ex.refl (fun j => j = xb) wp).setCell (p := ⟨xb, 0, none⟩) (.inl rfl) (.int .u16 xsrc)).setCell (p := ⟨xb, 1, none⟩) (.inl rfl) (.int .u16 xdst)).setCell (p := ⟨xb, 2, none⟩) (.inl rfl) (.bool xpl)).setCell (p := ⟨xb, 3, none⟩) (.inl rfl) (.slice A9 xl.length xl.length))
        clear cxb0 cxb1 cxb2 cxb3 fxb0 fxb1 fxb2 fxb3
        generalize ((((wp.setCell ⟨xb, 0, none⟩ (.int .u16 xsrc)).setCell ⟨xb, 1, none⟩ (.int .u16 xdst)).setCell ⟨xb, 2, none⟩ (.bool xpl)).setCell ⟨xb, 3, none⟩ (.slice A9 xl.length xl.length)) = wf at r3 hx ⊢
        replace B_xb := Lib.hid r3
        clear r3
        have HX_wf := Lib.hid hx
        clear hx
        have hS : Ex (fun _ => False) w4 wf := ((((((HX_wd.out.trans HX_wa.out).andThen HX_wb.out (fun i hi e => by have := HX_wd.out.size; have := hb_b0; omega)).trans HX_we.out).andThen HX_wc.out (fun i hi e => by have := hb_g2; omega)).trans HX_wp.out).andThen HX_wf.out (fun i hi e => by have := ((HX_wd.out.trans HX_wa.out).andThen HX_wb.out (fun i hi e => by have := HX_wd.out.size; have := hb_b0; omega)).size; have := hb_xb; omega))
        refine hK.out _ _ hS (fun _ => ?_)
        refine wpAnyH_take (i := 17) (oi := { dst := some 15, op := Go.Op.assign (Go.Operand.tmp 61), type := 29, pos := "law.go:64", after := #[{ on := 14, ground := Go.Ground.data }, { on := 16, ground := Go.Ground.chain }, { on := 0, ground := Go.Ground.phase }, { on := 1, ground := Go.Ground.phase }, { on := 2, ground := Go.Ground.phase }, { on := 3, ground := Go.Ground.phase }, { on := 4, ground := Go.Ground.phase }, { on := 5, ground := Go.Ground.phase }, { on := 6, ground := Go.Ground.phase }, { on := 7, ground := Go.Ground.phase }, { on := 8, ground := Go.Ground.phase }, { on := 9, ground := Go.Ground.phase }, { on := 10, ground := Go.Ground.phase }, { on := 11, ground := Go.Ground.phase }, { on := 12, ground := Go.Ground.phase }, { on := 13, ground := Go.Ground.phase }, { on := 14, ground := Go.Ground.phase }, { on := 15, ground := Go.Ground.phase }, { on := 16, ground := Go.Ground.phase }], guard := none }) (v := ?v20) rfl (by kernel_rfl) (by kernel_rfl) (by kernel_rfl) (fun _ _ _ h => h) (Or.inl ⟨by rfl, ?hy20⟩) (by assumption) ?rest20
        case hy20 => (intro w hSw; (try dsimp only at hSw); go_simp <;> with_reducible rfl)
        try simp only [Act.put, List.setIfInBounds_toArray, List.set_cons_zero, List.set_cons_succ]
        refine wpAnyH_done (by kernel_rfl) ?_ _
        go_wp2_with fail
        go_meet
        exact ⟨xb, A9, rfl, rfl, Lib.hid B_xb.out, Lib.hid (RB.any (RB.keep HB9.out HX_wf.out (fun k hl hk e => by omega))), Lib.hid ((((((HX_wd.out.trans HX_wa.out).andThen HX_wb.out (fun i hi e => by have := HX_wd.out.size; have := hb_b0; omega)).trans HX_we.out).andThen HX_wc.out (fun i hi e => by have := hb_g2; omega)).trans HX_wp.out).andThen HX_wf.out (fun i hi e => by have := ((HX_wd.out.trans HX_wa.out).andThen HX_wb.out (fun i hi e => by have := HX_wd.out.size; have := hb_b0; omega)).size; have := hb_xb; omega))⟩
      refine AllReadyH.cons (o := { dst := some 14, op := Go.Op.alloc 25, type := 0, pos := "law.go:64", after := #[], guard := none }) rfl (fun K hK => ?_) AllReadyH.nil
      go_simp
      have hx : Ex (fun _ => False) wa (wa.alloc (.cells #[.int .u16 0, .int .u16 0, .bool false, .slice none 0 0] 25)) := (Ex.refl _ wa).alloc _
      have hb : (wa.alloc (.cells #[.int .u16 0, .int .u16 0, .bool false, .slice none 0 0] 25)).heap[wa.heap.size]? = some (.cells #[.int .u16 0, .int .u16 0, .bool false, .slice none 0 0] 25) := heap_alloc_new wa _
      obtain ⟨xb, hxb⟩ : ∃ xb, xb = wa.heap.size := ⟨_, rfl⟩
      have hb_xb : wa.heap.size ≤ xb := by omega
      rw [← hxb] at hb
      try simp only [← hxb]
      generalize wa.alloc (.cells #[.int .u16 0, .int .u16 0, .bool false, .slice none 0 0] 25) = we at hx hb ⊢
      clear hxb
      have HX_we := Lib.hid hx
      clear hx
      have B_xb := Lib.hid hb
      clear hb
      have hS : Ex (fun _ => False) w4 we := ((HX_wd.out.trans HX_wa.out).trans HX_we.out)
      refine hK.out _ _ hS (fun _ => ?_)
      refine wpAnyH_ready (rs := [2]) (by kernel_rfl) (by simp) ?_
      refine AllReadyH.cons (o := { dst := some 50, op := Go.Op.call { callee := Go.Callee.builtin Go.Builtin.append, args := #[Go.Operand.tmp 48, Go.Operand.tmp 49], argTypes := #[22, 22] }, type := 22, pos := "law.go:64", after := #[{ on := 0, ground := Go.Ground.data }, { on := 1, ground := Go.Ground.data }], guard := none }) rfl (fun K hK => ?_) AllReadyH.nil
      have hsz := ((HX_wd.out.trans HX_wa.out).trans HX_we.out).size
      refine step_append_ob i0 22 Tryd.underlying22 hi hz0 hz1 hz2 rfl (.tmp 48) (.tmp 49) rfl w4.heap.size (.slice (some ⟨b0, 0, none⟩) 0 0) [] rfl (fun _ => True) (.slice (some ⟨g5, 0, none⟩) M5.length c5) M5 rfl (OB.keep HOa.out HX_we.out (fun _ _ _ _ => id)) (RB.any (OB.keep HO5.out ((HX_wd.out.trans HX_wa.out).trans HX_we.out) (fun _ _ _ _ => id)).rb) (by simp; omega) hsz ?_
      intro A2 c2 wb ho3 hg3 hn3 hb3
      try simp only [Act.put, List.setIfInBounds_toArray, List.set_cons_zero, List.set_cons_succ]
      have hs2 : ∃ a, A2 = some a := by
        cases A2 with
        | none => exact absurd (hn3.1 rfl).1 (by simp)
        | some a => exact ⟨a, rfl⟩
      obtain ⟨A2, rfl⟩ := hs2
      have ho : OB wb w4.heap.size (.slice (some A2) M5.length c2) M5 := by simpa using ho3
      try simp only [List.length_nil, Nat.zero_add]
      obtain ⟨g2, rfl, hb_g2, hlt_g2⟩ := ho.plain
      have hx : Ex (fun j => j = b0) we wb := (Ex.refl _ we).grown hg3 (fun k hk => .inl (by obtain rfl := Option.some.inj hk; rfl))
      have hg2 : g2 = b0 ∨ g2 = we.heap.size := by
        rcases hb3 with h | h
        · exact .inl (Option.some.inj h)
        · exact .inr (Option.some.inj h)
      clear ho3 hg3 hn3 hb3
      have hlx := row_lt B_xb.out
      have hsx := HX_we.out.size
      have ne_xb_b0 : xb ≠ b0 := by omega
      have ne_xb_g2 : xb ≠ g2 := by omega
      clear hlx hsx
      have HX_wb := Lib.hid hx
      clear hx
      have HOb := Lib.hid ho
      clear ho hsz hg2
      have hS : Ex (fun _ => False) w4 wb := (((HX_wd.out.trans HX_wa.out).trans HX_we.out).andThen HX_wb.out (fun i hi e => by have := HX_wd.out.size; have := hb_b0; omega))
      refine hK.out _ _ hS (fun _ => ?_)
      refine wpAnyH_ready (rs := [8]) (by kernel_rfl) (by simp) ?_
      refine AllReadyH.cons (o := { dst := some 56, op := Go.Op.call { callee := Go.Callee.builtin Go.Builtin.append, args := #[Go.Operand.tmp 50, Go.Operand.tmp 55], argTypes := #[22, 22] }, type := 22, pos := "law.go:64", after := #[{ on := 2, ground := Go.Ground.data }, { on := 7, ground := Go.Ground.data }, { on := 2, ground := Go.Ground.chain }], guard := none }) rfl (fun K hK => ?_) AllReadyH.nil
      have hsz := (((HX_wd.out.trans HX_wa.out).trans HX_we.out).andThen HX_wb.out (fun i hi e => by have := HX_wd.out.size; have := hb_b0; omega)).size
      refine step_append_ob i0 22 Tryd.underlying22 hi hz0 hz1 hz2 rfl (.tmp 50) (.tmp 55) rfl w4.heap.size (.slice (some ⟨g2, 0, none⟩) M5.length c2) M5 rfl (fun _ => True) (.slice B r1.length cb) r1 rfl HOb.out (RB.keep HR.out (((HX_wd.out.trans HX_wa.out).trans HX_we.out).andThen HX_wb.out (fun i hi e => by have := HX_wd.out.size; have := hb_b0; omega)) (fun _ _ _ => id)) (by omega) hsz ?_
      intro A3 c3 wc ho3 hg3 hn3 hb3
      try simp only [Act.put, List.setIfInBounds_toArray, List.set_cons_zero, List.set_cons_succ]
      have hs2 : ∃ a, A3 = some a := by
        cases A3 with
        | none => exact absurd (hn3.1 rfl).1 (by simp)
        | some a => exact ⟨a, rfl⟩
      obtain ⟨A3, rfl⟩ := hs2
      have hx : Ex (fun j => j = g2) wb wc := (Ex.refl _ wb).grown hg3 (fun k hk => .inl (by obtain rfl := Option.some.inj hk; rfl))
      have HOc : Hid (OB wc w4.heap.size (.slice (some A3) (M5.length + r1.length) c3) (M5 ++ r1)) := Lib.hid ho3
      clear ho3 hg3 hn3 hb3
      have HX_wc := Lib.hid hx
      clear hx
      clear hsz
      have hS : Ex (fun _ => False) w4 wc := ((((HX_wd.out.trans HX_wa.out).trans HX_we.out).andThen HX_wb.out (fun i hi e => by have := HX_wd.out.size; have := hb_b0; omega)).andThen HX_wc.out (fun i hi e => by have := hb_g2; omega))
      refine hK.out _ _ hS (fun _ => ?_)
      refine wpAnyH_ready (rs := [11]) (by kernel_rfl) (by simp) ?_
      refine AllReadyH.cons (o := { dst := some 59, op := Go.Op.call { callee := Go.Callee.value (Go.Operand.func 16), args := #[Go.Operand.tmp 56, Go.Operand.tmp 57, Go.Operand.tmp 58], argTypes := #[22, 32, 32] }, type := 30, pos := "law.go:64", after := #[{ on := 8, ground := Go.Ground.data }, { on := 9, ground := Go.Ground.data }, { on := 10, ground := Go.Ground.data }, { on := 8, ground := Go.Ground.chain }], guard := none }) rfl (fun K hK => ?_) AllReadyH.nil
      go_simp
      refine (uparse_yes _ (some A3) (M5.length + r1.length) c3 (M5 ++ r1) s t wc HOc.out.rb (fun h => by cases h) (by rw [List.length_append]; omega) HS.out HT.out HPA.out.1).mono ?_
      rintro e wp ⟨A9, rfl, hb9, hx⟩
      rw [HPA.out.2] at hb9 ⊢
      have hv : dgv (⟨xsrc, xdst, xpl, xl⟩ : Dg) (.slice A9 (⟨xsrc, xdst, xpl, xl⟩ : Dg).b.length (⟨xsrc, xdst, xpl, xl⟩ : Dg).b.length) = .agg #[.int .u16 xsrc, .int .u16 xdst, .bool xpl, .slice A9 xl.length xl.length] := rfl
      rw [hv]
      clear hv
      have hb9' : RB wp (fun j => wc.heap.size ≤ j) (.slice A9 xl.length xl.length) xl := hb9
      clear hb9
      have hlxp := row_lt ((HX_wc.out.block xb (row_lt ((HX_wb.out.block xb (row_lt B_xb.out) ne_xb_b0).trans B_xb.out)) ne_xb_g2).trans ((HX_wb.out.block xb (row_lt B_xb.out) ne_xb_b0).trans B_xb.out))
      have HX_wp := Lib.hid hx
      clear hx
      have HB9 := Lib.hid hb9'
      clear hb9'
      have hS : Ex (fun _ => False) w4 wp := (((((HX_wd.out.trans HX_wa.out).trans HX_we.out).andThen HX_wb.out (fun i hi e => by have := HX_wd.out.size; have := hb_b0; omega)).andThen HX_wc.out (fun i hi e => by have := hb_g2; omega)).trans HX_wp.out)
      refine hK.out _ _ hS (fun _ => ?_)
      refine wpAnyH_take (i := 12) (oi := { dst := some 47, op := Go.Op.move (Go.Operand.tmp 59), type := 30, pos := "law.go:64", after := #[{ on := 11, ground := Go.Ground.data }], guard := none }) (v := ?v21) rfl (by kernel_rfl) (by kernel_rfl) (by kernel_rfl) (fun _ _ _ h => h) (Or.inl ⟨by rfl, ?hy21⟩) (by assumption) ?rest21
      case hy21 => (intro w hSw; (try dsimp only at hSw); go_simp <;> with_reducible rfl)
      try simp only [Act.put, List.setIfInBounds_toArray, List.set_cons_zero, List.set_cons_succ]
      refine wpAnyH_take (i := 13) (oi := { dst := some 60, op := Go.Op.extract (Go.Operand.tmp 47) 0, type := 25, pos := "law.go:64", after := #[{ on := 12, ground := Go.Ground.data }], guard := none }) (v := ?v22) rfl (by kernel_rfl) (by kernel_rfl) (by kernel_rfl) (fun _ _ _ h => h) (Or.inl ⟨by rfl, ?hy22⟩) (by assumption) ?rest22
      case hy22 => (intro w hSw; (try dsimp only at hSw); go_simp <;> with_reducible rfl)
      try simp only [Act.put, List.setIfInBounds_toArray, List.set_cons_zero, List.set_cons_succ]
      refine wpAnyH_take (i := 14) (oi := { dst := some 61, op := Go.Op.extract (Go.Operand.tmp 47) 1, type := 29, pos := "law.go:64", after := #[{ on := 12, ground := Go.Ground.data }, { on := 16, ground := Go.Ground.gcOnly Go.Departure.lateStores }], guard := none }) (v := ?v23) rfl (by kernel_rfl) (by kernel_rfl) (by kernel_rfl) (fun _ _ _ h => h) (Or.inl ⟨by rfl, ?hy23⟩) (by assumption) ?rest23
      case hy23 => (intro w hSw; (try dsimp only at hSw); go_simp <;> with_reducible rfl)
      try simp only [Act.put, List.setIfInBounds_toArray, List.set_cons_zero, List.set_cons_succ]
      refine wpAnyH_ready (rs := [16]) (by kernel_rfl) (by simp) ?_
      refine AllReadyH.cons (o := { dst := none, op := Go.Op.store 25 (Go.Operand.tmp 14) (Go.Operand.tmp 60), type := 0, pos := "law.go:64", after := #[{ on := 15, ground := Go.Ground.data }, { on := 13, ground := Go.Ground.data }, { on := 11, ground := Go.Ground.chain }, { on := 0, ground := Go.Ground.phase }, { on := 1, ground := Go.Ground.phase }, { on := 2, ground := Go.Ground.phase }, { on := 3, ground := Go.Ground.phase }, { on := 4, ground := Go.Ground.phase }, { on := 5, ground := Go.Ground.phase }, { on := 6, ground := Go.Ground.phase }, { on := 7, ground := Go.Ground.phase }, { on := 8, ground := Go.Ground.phase }, { on := 9, ground := Go.Ground.phase }, { on := 10, ground := Go.Ground.phase }, { on := 11, ground := Go.Ground.phase }, { on := 12, ground := Go.Ground.phase }, { on := 13, ground := Go.Ground.phase }, { on := 14, ground := Go.Ground.textOnly Go.Departure.lateStores }, { on := 15, ground := Go.Ground.phase }], guard := none }) rfl (fun K hK => ?_) AllReadyH.nil
      replace B_xb := Lib.hid ((HX_wp.out.block xb (row_lt ((HX_wc.out.block xb (row_lt ((HX_wb.out.block xb (row_lt B_xb.out) ne_xb_b0).trans B_xb.out)) ne_xb_g2).trans ((HX_wb.out.block xb (row_lt B_xb.out) ne_xb_b0).trans B_xb.out))) id).trans ((HX_wc.out.block xb (row_lt ((HX_wb.out.block xb (row_lt B_xb.out) ne_xb_b0).trans B_xb.out)) ne_xb_g2).trans ((HX_wb.out.block xb (row_lt B_xb.out) ne_xb_b0).trans B_xb.out)))
      have cxb0 := row_cell (k := 0) (v := .int .u16 0) B_xb.out rfl
      have cxb1 := row_cell (k := 1) (v := .int .u16 0) B_xb.out rfl
      have cxb2 := row_cell (k := 2) (v := .bool false) B_xb.out rfl
      have cxb3 := row_cell (k := 3) (v := .slice none 0 0) B_xb.out rfl
      have fxb0 := row_frozen B_xb.out 0
      have fxb1 := row_frozen B_xb.out 1
      have fxb2 := row_frozen B_xb.out 2
      have fxb3 := row_frozen B_xb.out 3
      go_simp
      have r0 : (wp.setCell ⟨xb, 0, none⟩ (.int .u16 xsrc)).heap[xb]? = some (.cells #[.int .u16 xsrc, .int .u16 0, .bool false, .slice none 0 0] 25) := row_set B_xb.out 0 (.int .u16 xsrc)
      have r1 : ((wp.setCell ⟨xb, 0, none⟩ (.int .u16 xsrc)).setCell ⟨xb, 1, none⟩ (.int .u16 xdst)).heap[xb]? = some (.cells #[.int .u16 xsrc, .int .u16 xdst, .bool false, .slice none 0 0] 25) := row_set r0 1 (.int .u16 xdst)
      clear r0
      have r2 : (((wp.setCell ⟨xb, 0, none⟩ (.int .u16 xsrc)).setCell ⟨xb, 1, none⟩ (.int .u16 xdst)).setCell ⟨xb, 2, none⟩ (.bool xpl)).heap[xb]? = some (.cells #[.int .u16 xsrc, .int .u16 xdst, .bool xpl, .slice none 0 0] 25) := row_set r1 2 (.bool xpl)
      clear r1
      have r3 : ((((wp.setCell ⟨xb, 0, none⟩ (.int .u16 xsrc)).setCell ⟨xb, 1, none⟩ (.int .u16 xdst)).setCell ⟨xb, 2, none⟩ (.bool xpl)).setCell ⟨xb, 3, none⟩ (.slice A9 xl.length xl.length)).heap[xb]? = some (.cells #[.int .u16 xsrc, .int .u16 xdst, .bool xpl, .slice A9 xl.length xl.length] 25) := row_set r2 3 (.slice A9 xl.length xl.length)
      clear r2
      have hx : Ex (fun j => j = xb) wp ((((wp.setCell ⟨xb, 0, none⟩ (.int .u16 xsrc)).setCell ⟨xb, 1, none⟩ (.int .u16 xdst)).setCell ⟨xb, 2, none⟩ (.bool xpl)).setCell ⟨xb, 3, none⟩ (.slice A9 xl.length xl.length)) := (((((Ex.refl (fun j => j = xb) wp).setCell (p := ⟨xb, 0, none⟩) (.inl rfl) (.int .u16 xsrc)).setCell (p := ⟨xb, 1, none⟩) (.inl rfl) (.int .u16 xdst)).setCell (p := ⟨xb, 2, none⟩) (.inl rfl) (.bool xpl)).setCell (p := ⟨xb, 3, none⟩) (.inl rfl) (.slice A9 xl.length xl.length))
      clear cxb0 cxb1 cxb2 cxb3 fxb0 fxb1 fxb2 fxb3
      generalize ((((wp.setCell ⟨xb, 0, none⟩ (.int .u16 xsrc)).setCell ⟨xb, 1, none⟩ (.int .u16 xdst)).setCell ⟨xb, 2, none⟩ (.bool xpl)).setCell ⟨xb, 3, none⟩ (.slice A9 xl.length xl.length)) = wf at r3 hx ⊢
      replace B_xb := Lib.hid r3
      clear r3
      have HX_wf := Lib.hid hx
      clear hx
      have hS : Ex (fun _ => False) w4 wf := ((((((HX_wd.out.trans HX_wa.out).trans HX_we.out).andThen HX_wb.out (fun i hi e => by have := HX_wd.out.size; have := hb_b0; omega)).andThen HX_wc.out (fun i hi e => by have := hb_g2; omega)).trans HX_wp.out).andThen HX_wf.out (fun i hi e => by have := (HX_wd.out.trans HX_wa.out).size; have := hb_xb; omega))
      refine hK.out _ _ hS (fun _ => ?_)
      refine wpAnyH_take (i := 17) (oi := { dst := some 15, op := Go.Op.assign (Go.Operand.tmp 61), type := 29, pos := "law.go:64", after := #[{ on := 14, ground := Go.Ground.data }, { on := 16, ground := Go.Ground.chain }, { on := 0, ground := Go.Ground.phase }, { on := 1, ground := Go.Ground.phase }, { on := 2, ground := Go.Ground.phase }, { on := 3, ground := Go.Ground.phase }, { on := 4, ground := Go.Ground.phase }, { on := 5, ground := Go.Ground.phase }, { on := 6, ground := Go.Ground.phase }, { on := 7, ground := Go.Ground.phase }, { on := 8, ground := Go.Ground.phase }, { on := 9, ground := Go.Ground.phase }, { on := 10, ground := Go.Ground.phase }, { on := 11, ground := Go.Ground.phase }, { on := 12, ground := Go.Ground.phase }, { on := 13, ground := Go.Ground.phase }, { on := 14, ground := Go.Ground.phase }, { on := 15, ground := Go.Ground.phase }, { on := 16, ground := Go.Ground.phase }], guard := none }) (v := ?v24) rfl (by kernel_rfl) (by kernel_rfl) (by kernel_rfl) (fun _ _ _ h => h) (Or.inl ⟨by rfl, ?hy24⟩) (by assumption) ?rest24
      case hy24 => (intro w hSw; (try dsimp only at hSw); go_simp <;> with_reducible rfl)
      try simp only [Act.put, List.setIfInBounds_toArray, List.set_cons_zero, List.set_cons_succ]
      refine wpAnyH_done (by kernel_rfl) ?_ _
      go_wp2_with fail
      go_meet
      exact ⟨xb, A9, rfl, rfl, Lib.hid B_xb.out, Lib.hid (RB.any (RB.keep HB9.out HX_wf.out (fun k hl hk e => by omega))), Lib.hid ((((((HX_wd.out.trans HX_wa.out).trans HX_we.out).andThen HX_wb.out (fun i hi e => by have := HX_wd.out.size; have := hb_b0; omega)).andThen HX_wc.out (fun i hi e => by have := hb_g2; omega)).trans HX_wp.out).andThen HX_wf.out (fun i hi e => by have := (HX_wd.out.trans HX_wa.out).size; have := hb_xb; omega))⟩
    refine AllReadyH.cons (o := { dst := some 14, op := Go.Op.alloc 25, type := 0, pos := "law.go:64", after := #[], guard := none }) rfl (fun K hK => ?_) AllReadyH.nil
    go_simp
    have hx : Ex (fun _ => False) wd (wd.alloc (.cells #[.int .u16 0, .int .u16 0, .bool false, .slice none 0 0] 25)) := (Ex.refl _ wd).alloc _
    have hb : (wd.alloc (.cells #[.int .u16 0, .int .u16 0, .bool false, .slice none 0 0] 25)).heap[wd.heap.size]? = some (.cells #[.int .u16 0, .int .u16 0, .bool false, .slice none 0 0] 25) := heap_alloc_new wd _
    obtain ⟨xb, hxb⟩ : ∃ xb, xb = wd.heap.size := ⟨_, rfl⟩
    have hb_xb : wd.heap.size ≤ xb := by omega
    rw [← hxb] at hb
    try simp only [← hxb]
    generalize wd.alloc (.cells #[.int .u16 0, .int .u16 0, .bool false, .slice none 0 0] 25) = we at hx hb ⊢
    clear hxb
    have HX_we := Lib.hid hx
    clear hx
    have B_xb := Lib.hid hb
    clear hb
    have hS : Ex (fun _ => False) w4 we := (HX_wd.out.trans HX_we.out)
    refine hK.out _ _ hS (fun _ => ?_)
    refine wpAnyH_ready (rs := [0]) (by kernel_rfl) (by simp) ?_
    refine AllReadyH.cons (o := { dst := some 48, op := Go.Op.buildSlice 22 0 #[], type := 22, pos := "law.go:64", after := #[], guard := none }) rfl (fun K hK => ?_) AllReadyH.nil
    go_simp
    have hx : Ex (fun _ => False) we (we.alloc (.cells #[] 5)) := (Ex.refl _ we).alloc _
    have hsz := (HX_wd.out.trans HX_we.out).size
    have hob : OB (we.alloc (.cells #[] 5)) w4.heap.size (.slice (some ⟨we.heap.size, 0, none⟩) 0 0) [] := OB.lit we w4.heap.size [] hsz (by simp)
    have hlt_b0 : we.heap.size < (we.alloc (.cells #[] 5)).heap.size := by simp
    obtain ⟨b0, hb0⟩ : ∃ b, b = we.heap.size := ⟨_, rfl⟩
    have hb_b0 : we.heap.size ≤ b0 := by omega
    rw [← hb0] at hob hlt_b0
    try simp only [← hb0]
    generalize we.alloc (.cells #[] 5) = wa at hx hob hlt_b0 ⊢
    clear hb0
    have hsx := row_lt B_xb.out
    have ne_xb_b0 : xb ≠ b0 := by omega
    clear hsx
    have HX_wa := Lib.hid hx
    clear hx
    have HOa := Lib.hid hob
    clear hob hsz
    have hS : Ex (fun _ => False) w4 wa := ((HX_wd.out.trans HX_we.out).trans HX_wa.out)
    refine hK.out _ _ hS (fun _ => ?_)
    refine wpAnyH_ready (rs := [2]) (by kernel_rfl) (by simp) ?_
    refine AllReadyH.cons (o := { dst := some 50, op := Go.Op.call { callee := Go.Callee.builtin Go.Builtin.append, args := #[Go.Operand.tmp 48, Go.Operand.tmp 49], argTypes := #[22, 22] }, type := 22, pos := "law.go:64", after := #[{ on := 0, ground := Go.Ground.data }, { on := 1, ground := Go.Ground.data }], guard := none }) rfl (fun K hK => ?_) AllReadyH.nil
    have hsz := ((HX_wd.out.trans HX_we.out).trans HX_wa.out).size
    refine step_append_ob i0 22 Tryd.underlying22 hi hz0 hz1 hz2 rfl (.tmp 48) (.tmp 49) rfl w4.heap.size (.slice (some ⟨b0, 0, none⟩) 0 0) [] rfl (fun _ => True) (.slice (some ⟨g5, 0, none⟩) M5.length c5) M5 rfl HOa.out (RB.any (OB.keep HO5.out ((HX_wd.out.trans HX_we.out).trans HX_wa.out) (fun _ _ _ _ => id)).rb) (by simp; omega) hsz ?_
    intro A2 c2 wb ho3 hg3 hn3 hb3
    try simp only [Act.put, List.setIfInBounds_toArray, List.set_cons_zero, List.set_cons_succ]
    have hs2 : ∃ a, A2 = some a := by
      cases A2 with
      | none => exact absurd (hn3.1 rfl).1 (by simp)
      | some a => exact ⟨a, rfl⟩
    obtain ⟨A2, rfl⟩ := hs2
    have ho : OB wb w4.heap.size (.slice (some A2) M5.length c2) M5 := by simpa using ho3
    try simp only [List.length_nil, Nat.zero_add]
    obtain ⟨g2, rfl, hb_g2, hlt_g2⟩ := ho.plain
    have hx : Ex (fun j => j = b0) wa wb := (Ex.refl _ wa).grown hg3 (fun k hk => .inl (by obtain rfl := Option.some.inj hk; rfl))
    have hg2 : g2 = b0 ∨ g2 = wa.heap.size := by
      rcases hb3 with h | h
      · exact .inl (Option.some.inj h)
      · exact .inr (Option.some.inj h)
    clear ho3 hg3 hn3 hb3
    have hlx := row_lt ((HX_wa.out.block xb (row_lt B_xb.out) id).trans B_xb.out)
    have hsx := trivial
    have ne_xb_g2 : xb ≠ g2 := by omega
    clear hlx hsx
    have HX_wb := Lib.hid hx
    clear hx
    have HOb := Lib.hid ho
    clear ho hsz hg2
    have hS : Ex (fun _ => False) w4 wb := (((HX_wd.out.trans HX_we.out).trans HX_wa.out).andThen HX_wb.out (fun i hi e => by have := (HX_wd.out.trans HX_we.out).size; have := hb_b0; omega))
    refine hK.out _ _ hS (fun _ => ?_)
    refine wpAnyH_ready (rs := [8]) (by kernel_rfl) (by simp) ?_
    refine AllReadyH.cons (o := { dst := some 56, op := Go.Op.call { callee := Go.Callee.builtin Go.Builtin.append, args := #[Go.Operand.tmp 50, Go.Operand.tmp 55], argTypes := #[22, 22] }, type := 22, pos := "law.go:64", after := #[{ on := 2, ground := Go.Ground.data }, { on := 7, ground := Go.Ground.data }, { on := 2, ground := Go.Ground.chain }], guard := none }) rfl (fun K hK => ?_) AllReadyH.nil
    have hsz := (((HX_wd.out.trans HX_we.out).trans HX_wa.out).andThen HX_wb.out (fun i hi e => by have := (HX_wd.out.trans HX_we.out).size; have := hb_b0; omega)).size
    refine step_append_ob i0 22 Tryd.underlying22 hi hz0 hz1 hz2 rfl (.tmp 50) (.tmp 55) rfl w4.heap.size (.slice (some ⟨g2, 0, none⟩) M5.length c2) M5 rfl (fun _ => True) (.slice B r1.length cb) r1 rfl HOb.out (RB.keep HR.out (((HX_wd.out.trans HX_we.out).trans HX_wa.out).andThen HX_wb.out (fun i hi e => by have := (HX_wd.out.trans HX_we.out).size; have := hb_b0; omega)) (fun _ _ _ => id)) (by omega) hsz ?_
    intro A3 c3 wc ho3 hg3 hn3 hb3
    try simp only [Act.put, List.setIfInBounds_toArray, List.set_cons_zero, List.set_cons_succ]
    have hs2 : ∃ a, A3 = some a := by
      cases A3 with
      | none => exact absurd (hn3.1 rfl).1 (by simp)
      | some a => exact ⟨a, rfl⟩
    obtain ⟨A3, rfl⟩ := hs2
    have hx : Ex (fun j => j = g2) wb wc := (Ex.refl _ wb).grown hg3 (fun k hk => .inl (by obtain rfl := Option.some.inj hk; rfl))
    have HOc : Hid (OB wc w4.heap.size (.slice (some A3) (M5.length + r1.length) c3) (M5 ++ r1)) := Lib.hid ho3
    clear ho3 hg3 hn3 hb3
    have HX_wc := Lib.hid hx
    clear hx
    clear hsz
    have hS : Ex (fun _ => False) w4 wc := ((((HX_wd.out.trans HX_we.out).trans HX_wa.out).andThen HX_wb.out (fun i hi e => by have := (HX_wd.out.trans HX_we.out).size; have := hb_b0; omega)).andThen HX_wc.out (fun i hi e => by have := hb_g2; omega))
    refine hK.out _ _ hS (fun _ => ?_)
    refine wpAnyH_ready (rs := [11]) (by kernel_rfl) (by simp) ?_
    refine AllReadyH.cons (o := { dst := some 59, op := Go.Op.call { callee := Go.Callee.value (Go.Operand.func 16), args := #[Go.Operand.tmp 56, Go.Operand.tmp 57, Go.Operand.tmp 58], argTypes := #[22, 32, 32] }, type := 30, pos := "law.go:64", after := #[{ on := 8, ground := Go.Ground.data }, { on := 9, ground := Go.Ground.data }, { on := 10, ground := Go.Ground.data }, { on := 8, ground := Go.Ground.chain }], guard := none }) rfl (fun K hK => ?_) AllReadyH.nil
    go_simp
    refine (uparse_yes _ (some A3) (M5.length + r1.length) c3 (M5 ++ r1) s t wc HOc.out.rb (fun h => by cases h) (by rw [List.length_append]; omega) HS.out HT.out HPA.out.1).mono ?_
    rintro e wp ⟨A9, rfl, hb9, hx⟩
    rw [HPA.out.2] at hb9 ⊢
    have hv : dgv (⟨xsrc, xdst, xpl, xl⟩ : Dg) (.slice A9 (⟨xsrc, xdst, xpl, xl⟩ : Dg).b.length (⟨xsrc, xdst, xpl, xl⟩ : Dg).b.length) = .agg #[.int .u16 xsrc, .int .u16 xdst, .bool xpl, .slice A9 xl.length xl.length] := rfl
    rw [hv]
    clear hv
    have hb9' : RB wp (fun j => wc.heap.size ≤ j) (.slice A9 xl.length xl.length) xl := hb9
    clear hb9
    have hlxp := row_lt ((HX_wc.out.block xb (row_lt (((HX_wa.out.andThen HX_wb.out (fun i hi e => by have := hb_b0; omega)).block xb (row_lt B_xb.out) id).trans B_xb.out)) ne_xb_g2).trans (((HX_wa.out.andThen HX_wb.out (fun i hi e => by have := hb_b0; omega)).block xb (row_lt B_xb.out) id).trans B_xb.out))
    have HX_wp := Lib.hid hx
    clear hx
    have HB9 := Lib.hid hb9'
    clear hb9'
    have hS : Ex (fun _ => False) w4 wp := (((((HX_wd.out.trans HX_we.out).trans HX_wa.out).andThen HX_wb.out (fun i hi e => by have := (HX_wd.out.trans HX_we.out).size; have := hb_b0; omega)).andThen HX_wc.out (fun i hi e => by have := hb_g2; omega)).trans HX_wp.out)
    refine hK.out _ _ hS (fun _ => ?_)
    refine wpAnyH_take (i := 12) (oi := { dst := some 47, op := Go.Op.move (Go.Operand.tmp 59), type := 30, pos := "law.go:64", after := #[{ on := 11, ground := Go.Ground.data }], guard := none }) (v := ?v25) rfl (by kernel_rfl) (by kernel_rfl) (by kernel_rfl) (fun _ _ _ h => h) (Or.inl ⟨by rfl, ?hy25⟩) (by assumption) ?rest25
    case hy25 => (intro w hSw; (try dsimp only at hSw); go_simp <;> with_reducible rfl)
    try simp only [Act.put, List.setIfInBounds_toArray, List.set_cons_zero, List.set_cons_succ]
    refine wpAnyH_take (i := 13) (oi := { dst := some 60, op := Go.Op.extract (Go.Operand.tmp 47) 0, type := 25, pos := "law.go:64", after := #[{ on := 12, ground := Go.Ground.data }], guard := none }) (v := ?v26) rfl (by kernel_rfl) (by kernel_rfl) (by kernel_rfl) (fun _ _ _ h => h) (Or.inl ⟨by rfl, ?hy26⟩) (by assumption) ?rest26
    case hy26 => (intro w hSw; (try dsimp only at hSw); go_simp <;> with_reducible rfl)
    try simp only [Act.put, List.setIfInBounds_toArray, List.set_cons_zero, List.set_cons_succ]
    refine wpAnyH_take (i := 14) (oi := { dst := some 61, op := Go.Op.extract (Go.Operand.tmp 47) 1, type := 29, pos := "law.go:64", after := #[{ on := 12, ground := Go.Ground.data }, { on := 16, ground := Go.Ground.gcOnly Go.Departure.lateStores }], guard := none }) (v := ?v27) rfl (by kernel_rfl) (by kernel_rfl) (by kernel_rfl) (fun _ _ _ h => h) (Or.inl ⟨by rfl, ?hy27⟩) (by assumption) ?rest27
    case hy27 => (intro w hSw; (try dsimp only at hSw); go_simp <;> with_reducible rfl)
    try simp only [Act.put, List.setIfInBounds_toArray, List.set_cons_zero, List.set_cons_succ]
    refine wpAnyH_ready (rs := [16]) (by kernel_rfl) (by simp) ?_
    refine AllReadyH.cons (o := { dst := none, op := Go.Op.store 25 (Go.Operand.tmp 14) (Go.Operand.tmp 60), type := 0, pos := "law.go:64", after := #[{ on := 15, ground := Go.Ground.data }, { on := 13, ground := Go.Ground.data }, { on := 11, ground := Go.Ground.chain }, { on := 0, ground := Go.Ground.phase }, { on := 1, ground := Go.Ground.phase }, { on := 2, ground := Go.Ground.phase }, { on := 3, ground := Go.Ground.phase }, { on := 4, ground := Go.Ground.phase }, { on := 5, ground := Go.Ground.phase }, { on := 6, ground := Go.Ground.phase }, { on := 7, ground := Go.Ground.phase }, { on := 8, ground := Go.Ground.phase }, { on := 9, ground := Go.Ground.phase }, { on := 10, ground := Go.Ground.phase }, { on := 11, ground := Go.Ground.phase }, { on := 12, ground := Go.Ground.phase }, { on := 13, ground := Go.Ground.phase }, { on := 14, ground := Go.Ground.textOnly Go.Departure.lateStores }, { on := 15, ground := Go.Ground.phase }], guard := none }) rfl (fun K hK => ?_) AllReadyH.nil
    replace B_xb := Lib.hid ((HX_wp.out.block xb (row_lt ((HX_wc.out.block xb (row_lt (((HX_wa.out.andThen HX_wb.out (fun i hi e => by have := hb_b0; omega)).block xb (row_lt B_xb.out) id).trans B_xb.out)) ne_xb_g2).trans (((HX_wa.out.andThen HX_wb.out (fun i hi e => by have := hb_b0; omega)).block xb (row_lt B_xb.out) id).trans B_xb.out))) id).trans ((HX_wc.out.block xb (row_lt (((HX_wa.out.andThen HX_wb.out (fun i hi e => by have := hb_b0; omega)).block xb (row_lt B_xb.out) id).trans B_xb.out)) ne_xb_g2).trans (((HX_wa.out.andThen HX_wb.out (fun i hi e => by have := hb_b0; omega)).block xb (row_lt B_xb.out) id).trans B_xb.out)))
    have cxb0 := row_cell (k := 0) (v := .int .u16 0) B_xb.out rfl
    have cxb1 := row_cell (k := 1) (v := .int .u16 0) B_xb.out rfl
    have cxb2 := row_cell (k := 2) (v := .bool false) B_xb.out rfl
    have cxb3 := row_cell (k := 3) (v := .slice none 0 0) B_xb.out rfl
    have fxb0 := row_frozen B_xb.out 0
    have fxb1 := row_frozen B_xb.out 1
    have fxb2 := row_frozen B_xb.out 2
    have fxb3 := row_frozen B_xb.out 3
    go_simp
    have r0 : (wp.setCell ⟨xb, 0, none⟩ (.int .u16 xsrc)).heap[xb]? = some (.cells #[.int .u16 xsrc, .int .u16 0, .bool false, .slice none 0 0] 25) := row_set B_xb.out 0 (.int .u16 xsrc)
    have r1 : ((wp.setCell ⟨xb, 0, none⟩ (.int .u16 xsrc)).setCell ⟨xb, 1, none⟩ (.int .u16 xdst)).heap[xb]? = some (.cells #[.int .u16 xsrc, .int .u16 xdst, .bool false, .slice none 0 0] 25) := row_set r0 1 (.int .u16 xdst)
    clear r0
    have r2 : (((wp.setCell ⟨xb, 0, none⟩ (.int .u16 xsrc)).setCell ⟨xb, 1, none⟩ (.int .u16 xdst)).setCell ⟨xb, 2, none⟩ (.bool xpl)).heap[xb]? = some (.cells #[.int .u16 xsrc, .int .u16 xdst, .bool xpl, .slice none 0 0] 25) := row_set r1 2 (.bool xpl)
    clear r1
    have r3 : ((((wp.setCell ⟨xb, 0, none⟩ (.int .u16 xsrc)).setCell ⟨xb, 1, none⟩ (.int .u16 xdst)).setCell ⟨xb, 2, none⟩ (.bool xpl)).setCell ⟨xb, 3, none⟩ (.slice A9 xl.length xl.length)).heap[xb]? = some (.cells #[.int .u16 xsrc, .int .u16 xdst, .bool xpl, .slice A9 xl.length xl.length] 25) := row_set r2 3 (.slice A9 xl.length xl.length)
    clear r2
    have hx : Ex (fun j => j = xb) wp ((((wp.setCell ⟨xb, 0, none⟩ (.int .u16 xsrc)).setCell ⟨xb, 1, none⟩ (.int .u16 xdst)).setCell ⟨xb, 2, none⟩ (.bool xpl)).setCell ⟨xb, 3, none⟩ (.slice A9 xl.length xl.length)) := (((((Ex.refl (fun j => j = xb) wp).setCell (p := ⟨xb, 0, none⟩) (.inl rfl) (.int .u16 xsrc)).setCell (p := ⟨xb, 1, none⟩) (.inl rfl) (.int .u16 xdst)).setCell (p := ⟨xb, 2, none⟩) (.inl rfl) (.bool xpl)).setCell (p := ⟨xb, 3, none⟩) (.inl rfl) (.slice A9 xl.length xl.length))
    clear cxb0 cxb1 cxb2 cxb3 fxb0 fxb1 fxb2 fxb3
    generalize ((((wp.setCell ⟨xb, 0, none⟩ (.int .u16 xsrc)).setCell ⟨xb, 1, none⟩ (.int .u16 xdst)).setCell ⟨xb, 2, none⟩ (.bool xpl)).setCell ⟨xb, 3, none⟩ (.slice A9 xl.length xl.length)) = wf at r3 hx ⊢
    replace B_xb := Lib.hid r3
    clear r3
    have HX_wf := Lib.hid hx
    clear hx
    have hS : Ex (fun _ => False) w4 wf := ((((((HX_wd.out.trans HX_we.out).trans HX_wa.out).andThen HX_wb.out (fun i hi e => by have := (HX_wd.out.trans HX_we.out).size; have := hb_b0; omega)).andThen HX_wc.out (fun i hi e => by have := hb_g2; omega)).trans HX_wp.out).andThen HX_wf.out (fun i hi e => by have := HX_wd.out.size; have := hb_xb; omega))
    refine hK.out _ _ hS (fun _ => ?_)
    refine wpAnyH_take (i := 17) (oi := { dst := some 15, op := Go.Op.assign (Go.Operand.tmp 61), type := 29, pos := "law.go:64", after := #[{ on := 14, ground := Go.Ground.data }, { on := 16, ground := Go.Ground.chain }, { on := 0, ground := Go.Ground.phase }, { on := 1, ground := Go.Ground.phase }, { on := 2, ground := Go.Ground.phase }, { on := 3, ground := Go.Ground.phase }, { on := 4, ground := Go.Ground.phase }, { on := 5, ground := Go.Ground.phase }, { on := 6, ground := Go.Ground.phase }, { on := 7, ground := Go.Ground.phase }, { on := 8, ground := Go.Ground.phase }, { on := 9, ground := Go.Ground.phase }, { on := 10, ground := Go.Ground.phase }, { on := 11, ground := Go.Ground.phase }, { on := 12, ground := Go.Ground.phase }, { on := 13, ground := Go.Ground.phase }, { on := 14, ground := Go.Ground.phase }, { on := 15, ground := Go.Ground.phase }, { on := 16, ground := Go.Ground.phase }], guard := none }) (v := ?v28) rfl (by kernel_rfl) (by kernel_rfl) (by kernel_rfl) (fun _ _ _ h => h) (Or.inl ⟨by rfl, ?hy28⟩) (by assumption) ?rest28
    case hy28 => (intro w hSw; (try dsimp only at hSw); go_simp <;> with_reducible rfl)
    try simp only [Act.put, List.setIfInBounds_toArray, List.set_cons_zero, List.set_cons_succ]
    refine wpAnyH_done (by kernel_rfl) ?_ _
    go_wp2_with fail
    go_meet
    exact ⟨xb, A9, rfl, rfl, Lib.hid B_xb.out, Lib.hid (RB.any (RB.keep HB9.out HX_wf.out (fun k hl hk e => by omega))), Lib.hid ((((((HX_wd.out.trans HX_we.out).trans HX_wa.out).andThen HX_wb.out (fun i hi e => by have := (HX_wd.out.trans HX_we.out).size; have := hb_b0; omega)).andThen HX_wc.out (fun i hi e => by have := hb_g2; omega)).trans HX_wp.out).andThen HX_wf.out (fun i hi e => by have := HX_wd.out.size; have := hb_xb; omega))⟩
  case rest =>
    clear hk
    obtain ⟨xb, A9, rfl, rfl, B_xb, HBX, hx⟩ := hcut
    have hx := hx.out
    have HX_wc := Lib.hid hx
    clear hx
    replace HO5 := Lib.hid (OB.keep HO5.out HX_wc.out (fun _ _ _ _ => id))
    have hrb := HO5.out.rb
    go_wp2_with fail
    refine (uparse_yes _ (some ⟨g5, 0, none⟩) M5.length c5 M5 t s wc hrb (fun h => by cases h) (by omega) HT.out HS.out HPB.out.2.1).mono ?_
    rintro e wg ⟨Ag, rfl, hbg, hx⟩
    rw [HPB.out.2.2] at hbg ⊢
    have hbg' : RB wg (fun j => wc.heap.size ≤ j) (.slice Ag xl.length xl.length) xl := hbg
    have hv : dgv (⟨xsrc, xdst, xpl, xl⟩ : Dg) (.slice Ag (⟨xsrc, xdst, xpl, xl⟩ : Dg).b.length (⟨xsrc, xdst, xpl, xl⟩ : Dg).b.length) = .agg #[.int .u16 xsrc, .int .u16 xdst, .bool xpl, .slice Ag xl.length xl.length] := rfl
    rw [hv]
    clear hv hbg hrb
    have HX_wg := Lib.hid hx
    clear hx
    have hbgt := RB.any hbg'
    clear hbg'
    have HBG := Lib.hid hbgt
    clear hbgt
    go_upto_region 8 with fail
    have hx : Ex (fun _ => False) wg (wg.alloc (.cells #[.int .u16 xsrc, .int .u16 xdst, .bool xpl, .slice Ag xl.length xl.length] 25)) := (Ex.refl _ wg).alloc _
    have hb : (wg.alloc (.cells #[.int .u16 xsrc, .int .u16 xdst, .bool xpl, .slice Ag xl.length xl.length] 25)).heap[wg.heap.size]? = some (.cells #[.int .u16 xsrc, .int .u16 xdst, .bool xpl, .slice Ag xl.length xl.length] 25) := heap_alloc_new wg _
    obtain ⟨yb, hyb⟩ : ∃ yb, yb = wg.heap.size := ⟨_, rfl⟩
    have hb_yb : wg.heap.size ≤ yb := by omega
    rw [← hyb] at hb
    try simp only [← hyb]
    generalize wg.alloc (.cells #[.int .u16 xsrc, .int .u16 xdst, .bool xpl, .slice Ag xl.length xl.length] 25) = wh at hx hb ⊢
    clear hyb
    have HX_wh := Lib.hid hx
    clear hx
    have B_yb := Lib.hid hb
    clear hb
    replace HO5 := Lib.hid (OB.keep HO5.out (HX_wg.out.trans HX_wh.out) (fun _ _ _ _ => id))
    have hcp : M5.length ≤ c5 := by obtain ⟨_, _, _, e, h, _⟩ := HO5.out.rb; injection e with _ _ e3; rw [e3]; exact h
    obtain ⟨k, hk⟩ : ∃ k, k = n1 % M5.length := ⟨_, rfl⟩
    have hkm : k < M5.length := by rw [hk]; exact Nat.mod_lt _ (by omega)
    have hki : (n1 : Int) % (M5.length : Int) = (k : Int) := by rw [hk]; omega
    have hkt : (n1 : Int).tmod (M5.length : Int) = (k : Int) := by rw [Int.tmod_eq_emod_of_nonneg (by omega)]; exact hki
    have hmz : ((M5.length : Int) == 0) = false := by rw [beq_eq_false_iff_ne]; omega
    have hkc : k ≤ c5 := by omega
    have hkm' : (k : Int) ≤ (M5.length : Int) := by omega
    obtain ⟨rc, hrc, hpc⟩ := HCT.out s t k hkm
    have a1 := A1.out
    have hkl : (M5.take k).length = k := by rw [List.length_take]; omega
    have hrb := HO5.out.rb.take k
    rw [hkl] at hrb
    have HRB := Lib.hid hrb
    have HPC := Lib.hid hpc
    have HKL := Lib.hid hkl
    clear hrb hkl hk hpc hrc hcp
    go_wp2_with fail
    refine (uparse_no _ (some ⟨g5, 0, none⟩) k c5 (M5.take k) s t wh HRB.out (fun h => by cases h) (by rw [HKL.out]; omega) HS.out HT.out rc 2 HPC.out).mono ?_
    rintro e wi ⟨v9, rfl, he, hx⟩
    obtain ⟨t9, y9, rfl⟩ := he.shape
    clear hki hkt a1 hkc hkm' hmz
    have hv : dgv zdg (.slice none 0 0) = .agg #[.int .u16 0, .int .u16 0, .bool false, .slice none 0 0] := rfl
    rw [hv]
    clear hv
    have HX_wi := Lib.hid hx
    clear hx
    have HE9 := Lib.hid he
    clear he
    go_upto_region 9 with fail
    have hx : Ex (fun _ => False) wi (wi.alloc (.cells #[.int .u16 0, .int .u16 0, .bool false, .slice none 0 0] 25)) := (Ex.refl _ wi).alloc _
    have hb : (wi.alloc (.cells #[.int .u16 0, .int .u16 0, .bool false, .slice none 0 0] 25)).heap[wi.heap.size]? = some (.cells #[.int .u16 0, .int .u16 0, .bool false, .slice none 0 0] 25) := heap_alloc_new wi _
    obtain ⟨zb, hzb⟩ : ∃ zb, zb = wi.heap.size := ⟨_, rfl⟩
    have hb_zb : wi.heap.size ≤ zb := by omega
    rw [← hzb] at hb
    try simp only [← hzb]
    generalize wi.alloc (.cells #[.int .u16 0, .int .u16 0, .bool false, .slice none 0 0] 25) = wj at hx hb ⊢
    clear hzb
    have HX_wj := Lib.hid hx
    clear hx
    have B_zb := Lib.hid hb
    clear hb
    replace HE9 := Lib.hid (EC.keep HX_wj.out (fun _ _ => id) HE9.out)
    replace HBX := Lib.hid (RB.keep HBX.out (((HX_wg.out.trans HX_wh.out).trans HX_wi.out).trans HX_wj.out) (fun _ _ _ => id))
    replace HBG := Lib.hid (RB.keep HBG.out ((HX_wh.out.trans HX_wi.out).trans HX_wj.out) (fun _ _ _ => id))
    replace HM := Lib.hid (RB.keep HM.out ((((((((HX_w1.out.trans HX_w2.out).andThen HX_w3.out (fun i hi e => by have := hb_db_; omega)).trans HX_w4.out).trans HX_wc.out).trans HX_wg.out).trans HX_wh.out).trans HX_wi.out).trans HX_wj.out) (fun _ _ _ => id))
    replace HG := Lib.hid (HG.out.keep ((((((((HX_w1.out.trans HX_w2.out).andThen HX_w3.out (fun i hi e => by have := hb_db_; omega)).trans HX_w4.out).trans HX_wc.out).trans HX_wg.out).trans HX_wh.out).trans HX_wi.out).trans HX_wj.out) id)
    replace B_db_ := Lib.hid (((((((HX_w4.out.trans HX_wc.out).trans HX_wg.out).trans HX_wh.out).trans HX_wi.out).trans HX_wj.out).block db_ (row_lt B_db_.out) id).trans B_db_.out)
    have cdb_0 := row_cell (k := 0) (v := .int .u16 xsrc) B_db_.out rfl
    have cdb_1 := row_cell (k := 1) (v := .int .u16 xdst) B_db_.out rfl
    have cdb_2 := row_cell (k := 2) (v := .bool xpl) B_db_.out rfl
    have cdb_3 := row_cell (k := 3) (v := .slice A xl.length c) B_db_.out rfl
    replace B_xb := Lib.hid (((((HX_wg.out.trans HX_wh.out).trans HX_wi.out).trans HX_wj.out).block xb (row_lt B_xb.out) id).trans B_xb.out)
    have cxb0 := row_cell (k := 0) (v := .int .u16 xsrc) B_xb.out rfl
    have cxb1 := row_cell (k := 1) (v := .int .u16 xdst) B_xb.out rfl
    have cxb2 := row_cell (k := 2) (v := .bool xpl) B_xb.out rfl
    have cxb3 := row_cell (k := 3) (v := .slice A9 xl.length xl.length) B_xb.out rfl
    replace B_yb := Lib.hid (((HX_wi.out.trans HX_wj.out).block yb (row_lt B_yb.out) id).trans B_yb.out)
    have cyb0 := row_cell (k := 0) (v := .int .u16 xsrc) B_yb.out rfl
    have cyb1 := row_cell (k := 1) (v := .int .u16 xdst) B_yb.out rfl
    have cyb2 := row_cell (k := 2) (v := .bool xpl) B_yb.out rfl
    have cyb3 := row_cell (k := 3) (v := .slice Ag xl.length xl.length) B_yb.out rfl
    have z1 : ∀ w, (binOp .eql 34 (rdv (⟨xsrc, xdst, xpl, xl⟩ : Dg)) (rdv (⟨xsrc, xdst, xpl, xl⟩ : Dg))).run Tryd.prog w = .ok (.bool true) w := fun w => by rw [rdv_eq, Dg.eqB_self]
    have z2 : ∀ w, (eqGuard .eql 34 (.tmp 89) (.tmp 91) (rdv (⟨xsrc, xdst, xpl, xl⟩ : Dg)) (rdv (⟨xsrc, xdst, xpl, xl⟩ : Dg))).run Tryd.prog w = .ok () w := fun w => rdv_guard .eql (.tmp 89) (.tmp 91) _ _ w
    have z3 : ∀ w, (eqGuard .eql 34 (.tmp 100) (.tmp 102) (rdv (⟨xsrc, xdst, xpl, xl⟩ : Dg)) (rdv (⟨xsrc, xdst, xpl, xl⟩ : Dg))).run Tryd.prog w = .ok () w := fun w => rdv_guard .eql (.tmp 100) (.tmp 102) _ _ w
    have Z1 := Lib.hid z1
    have Z2 := Lib.hid z2
    have Z3 := Lib.hid z3
    have hS0 : Ex (fun _ => False) wj wj.drew := (Ex.refl _ wj).drew
    clear z1 z2 z3
    refine wp_region_held_drew (S := fun W => Ex (fun _ => False) wj W) (by kernel_rfl) hS0 (fun _ => ?_)
    refine wpAnyH_take (i := 0) (oi := { dst := some 82, op := Go.Op.move (Go.Operand.tmp 11), type := 4, pos := "law.go:67", after := #[], guard := none }) (v := ?v29) rfl (by kernel_rfl) (by kernel_rfl) (by kernel_rfl) (fun _ _ _ h => h) (Or.inl ⟨by rfl, ?hy29⟩) (by assumption) ?rest29
    case hy29 => (intro w hSw; (try dsimp only at hSw); have ecdb_0 := hSw.cell cdb_0 id; have ecdb_1 := hSw.cell cdb_1 id; have ecdb_2 := hSw.cell cdb_2 id; have ecdb_3 := hSw.cell cdb_3 id; have ecxb0 := hSw.cell cxb0 id; have ecxb1 := hSw.cell cxb1 id; have ecxb2 := hSw.cell cxb2 id; have ecxb3 := hSw.cell cxb3 id; have ecyb0 := hSw.cell cyb0 id; have ecyb1 := hSw.cell cyb1 id; have ecyb2 := hSw.cell cyb2 id; have ecyb3 := hSw.cell cyb3 id; have z1 := Z1.out; have z2 := Z2.out; have z3 := Z3.out; go_simp <;> with_reducible rfl)
    try simp only [Act.put, List.setIfInBounds_toArray, List.set_cons_zero, List.set_cons_succ]
    refine wpAnyH_take (i := 1) (oi := { dst := some 83, op := Go.Op.move (Go.Operand.tmp 82), type := 4, pos := "law.go:67", after := #[{ on := 0, ground := Go.Ground.data }], guard := none }) (v := ?v30) rfl (by kernel_rfl) (by kernel_rfl) (by kernel_rfl) (fun _ _ _ h => h) (Or.inl ⟨by rfl, ?hy30⟩) (by assumption) ?rest30
    case hy30 => (intro w hSw; (try dsimp only at hSw); have ecdb_0 := hSw.cell cdb_0 id; have ecdb_1 := hSw.cell cdb_1 id; have ecdb_2 := hSw.cell cdb_2 id; have ecdb_3 := hSw.cell cdb_3 id; have ecxb0 := hSw.cell cxb0 id; have ecxb1 := hSw.cell cxb1 id; have ecxb2 := hSw.cell cxb2 id; have ecxb3 := hSw.cell cxb3 id; have ecyb0 := hSw.cell cyb0 id; have ecyb1 := hSw.cell cyb1 id; have ecyb2 := hSw.cell cyb2 id; have ecyb3 := hSw.cell cyb3 id; have z1 := Z1.out; have z2 := Z2.out; have z3 := Z3.out; go_simp <;> with_reducible rfl)
    try simp only [Act.put, List.setIfInBounds_toArray, List.set_cons_zero, List.set_cons_succ]
    refine wpAnyH_take (i := 2) (oi := { dst := some 84, op := Go.Op.move (Go.Operand.tmp 15), type := 29, pos := "law.go:67", after := #[{ on := 1, ground := Go.Ground.guard }], guard := some (1, true) }) (v := ?v31) rfl (by kernel_rfl) (by kernel_rfl) (by kernel_rfl) (fun _ _ _ h => h) (Or.inl ⟨by rfl, ?hy31⟩) (by assumption) ?rest31
    case hy31 => (intro w hSw; (try dsimp only at hSw); have ecdb_0 := hSw.cell cdb_0 id; have ecdb_1 := hSw.cell cdb_1 id; have ecdb_2 := hSw.cell cdb_2 id; have ecdb_3 := hSw.cell cdb_3 id; have ecxb0 := hSw.cell cxb0 id; have ecxb1 := hSw.cell cxb1 id; have ecxb2 := hSw.cell cxb2 id; have ecxb3 := hSw.cell cxb3 id; have ecyb0 := hSw.cell cyb0 id; have ecyb1 := hSw.cell cyb1 id; have ecyb2 := hSw.cell cyb2 id; have ecyb3 := hSw.cell cyb3 id; have z1 := Z1.out; have z2 := Z2.out; have z3 := Z3.out; go_simp <;> with_reducible rfl)
    try simp only [Act.put, List.setIfInBounds_toArray, List.set_cons_zero, List.set_cons_succ]
    refine wpAnyH_take (i := 3) (oi := { dst := some 85, op := Go.Op.binOp Go.BinOp.eql 29 (Go.Operand.tmp 84) (Go.Operand.const Go.Value.nilIface) 29, type := 4, pos := "law.go:67", after := #[{ on := 2, ground := Go.Ground.data }, { on := 1, ground := Go.Ground.guard }], guard := some (1, true) }) (v := ?v32) rfl (by kernel_rfl) (by kernel_rfl) (by kernel_rfl) (fun _ _ _ h => h) (Or.inl ⟨by rfl, ?hy32⟩) (by assumption) ?rest32
    case hy32 => (intro w hSw; (try dsimp only at hSw); have ecdb_0 := hSw.cell cdb_0 id; have ecdb_1 := hSw.cell cdb_1 id; have ecdb_2 := hSw.cell cdb_2 id; have ecdb_3 := hSw.cell cdb_3 id; have ecxb0 := hSw.cell cxb0 id; have ecxb1 := hSw.cell cxb1 id; have ecxb2 := hSw.cell cxb2 id; have ecxb3 := hSw.cell cxb3 id; have ecyb0 := hSw.cell cyb0 id; have ecyb1 := hSw.cell cyb1 id; have ecyb2 := hSw.cell cyb2 id; have ecyb3 := hSw.cell cyb3 id; have z1 := Z1.out; have z2 := Z2.out; have z3 := Z3.out; go_simp <;> with_reducible rfl)
    try simp only [Act.put, List.setIfInBounds_toArray, List.set_cons_zero, List.set_cons_succ]
    refine wpAnyH_take (i := 4) (oi := { dst := some 86, op := Go.Op.pick (Go.Operand.tmp 83) (Go.Operand.tmp 85) (Go.Operand.const (Go.Value.bool false)), type := 4, pos := "law.go:67", after := #[{ on := 1, ground := Go.Ground.data }, { on := 3, ground := Go.Ground.data }], guard := none }) (v := ?v33) rfl (by kernel_rfl) (by kernel_rfl) (by kernel_rfl) (fun _ _ _ h => h) (Or.inl ⟨by rfl, ?hy33⟩) (by assumption) ?rest33
    case hy33 => (intro w hSw; (try dsimp only at hSw); have ecdb_0 := hSw.cell cdb_0 id; have ecdb_1 := hSw.cell cdb_1 id; have ecdb_2 := hSw.cell cdb_2 id; have ecdb_3 := hSw.cell cdb_3 id; have ecxb0 := hSw.cell cxb0 id; have ecxb1 := hSw.cell cxb1 id; have ecxb2 := hSw.cell cxb2 id; have ecxb3 := hSw.cell cxb3 id; have ecyb0 := hSw.cell cyb0 id; have ecyb1 := hSw.cell cyb1 id; have ecyb2 := hSw.cell cyb2 id; have ecyb3 := hSw.cell cyb3 id; have z1 := Z1.out; have z2 := Z2.out; have z3 := Z3.out; go_simp <;> with_reducible rfl)
    try simp only [Act.put, List.setIfInBounds_toArray, List.set_cons_zero, List.set_cons_succ]
    refine wpAnyH_take (i := 5) (oi := { dst := some 87, op := Go.Op.move (Go.Operand.tmp 86), type := 4, pos := "law.go:67", after := #[{ on := 4, ground := Go.Ground.data }, { on := 1, ground := Go.Ground.chain }], guard := none }) (v := ?v34) rfl (by kernel_rfl) (by kernel_rfl) (by kernel_rfl) (fun _ _ _ h => h) (Or.inl ⟨by rfl, ?hy34⟩) (by assumption) ?rest34
    case hy34 => (intro w hSw; (try dsimp only at hSw); have ecdb_0 := hSw.cell cdb_0 id; have ecdb_1 := hSw.cell cdb_1 id; have ecdb_2 := hSw.cell cdb_2 id; have ecdb_3 := hSw.cell cdb_3 id; have ecxb0 := hSw.cell cxb0 id; have ecxb1 := hSw.cell cxb1 id; have ecxb2 := hSw.cell cxb2 id; have ecxb3 := hSw.cell cxb3 id; have ecyb0 := hSw.cell cyb0 id; have ecyb1 := hSw.cell cyb1 id; have ecyb2 := hSw.cell cyb2 id; have ecyb3 := hSw.cell cyb3 id; have z1 := Z1.out; have z2 := Z2.out; have z3 := Z3.out; go_simp <;> with_reducible rfl)
    try simp only [Act.put, List.setIfInBounds_toArray, List.set_cons_zero, List.set_cons_succ]
    refine wpAnyH_take (i := 6) (oi := { dst := some 88, op := Go.Op.load 25 (Go.Operand.tmp 14), type := 25, pos := "law.go:67", after := #[{ on := 5, ground := Go.Ground.guard }], guard := some (5, true) }) (v := ?v35) rfl (by kernel_rfl) (by kernel_rfl) (by kernel_rfl) (fun _ _ _ h => h) (Or.inl ⟨by rfl, ?hy35⟩) (by assumption) ?rest35
    case hy35 => (intro w hSw; (try dsimp only at hSw); have ecdb_0 := hSw.cell cdb_0 id; have ecdb_1 := hSw.cell cdb_1 id; have ecdb_2 := hSw.cell cdb_2 id; have ecdb_3 := hSw.cell cdb_3 id; have ecxb0 := hSw.cell cxb0 id; have ecxb1 := hSw.cell cxb1 id; have ecxb2 := hSw.cell cxb2 id; have ecxb3 := hSw.cell cxb3 id; have ecyb0 := hSw.cell cyb0 id; have ecyb1 := hSw.cell cyb1 id; have ecyb2 := hSw.cell cyb2 id; have ecyb3 := hSw.cell cyb3 id; have z1 := Z1.out; have z2 := Z2.out; have z3 := Z3.out; go_simp <;> with_reducible rfl)
    try simp only [Act.put, List.setIfInBounds_toArray, List.set_cons_zero, List.set_cons_succ]
    refine wpAnyH_take (i := 8) (oi := { dst := some 90, op := Go.Op.load 25 (Go.Operand.tmp 5), type := 25, pos := "law.go:67", after := #[{ on := 5, ground := Go.Ground.guard }], guard := some (5, true) }) (v := ?v36) rfl (by kernel_rfl) (by kernel_rfl) (by kernel_rfl) (fun _ _ _ h => h) (Or.inl ⟨by rfl, ?hy36⟩) (by assumption) ?rest36
    case hy36 => (intro w hSw; (try dsimp only at hSw); have ecdb_0 := hSw.cell cdb_0 id; have ecdb_1 := hSw.cell cdb_1 id; have ecdb_2 := hSw.cell cdb_2 id; have ecdb_3 := hSw.cell cdb_3 id; have ecxb0 := hSw.cell cxb0 id; have ecxb1 := hSw.cell cxb1 id; have ecxb2 := hSw.cell cxb2 id; have ecxb3 := hSw.cell cxb3 id; have ecyb0 := hSw.cell cyb0 id; have ecyb1 := hSw.cell cyb1 id; have ecyb2 := hSw.cell cyb2 id; have ecyb3 := hSw.cell cyb3 id; have z1 := Z1.out; have z2 := Z2.out; have z3 := Z3.out; go_simp <;> with_reducible rfl)
    try simp only [Act.put, List.setIfInBounds_toArray, List.set_cons_zero, List.set_cons_succ]
    refine wpAnyH_ready (rs := [7]) (by kernel_rfl) (by simp) ?_
    refine AllReadyH.cons (o := { dst := some 89, op := Go.Op.call { callee := Go.Callee.value (Go.Operand.func 19), args := #[Go.Operand.tmp 88], argTypes := #[25] }, type := 34, pos := "law.go:67", after := #[{ on := 6, ground := Go.Ground.data }, { on := 5, ground := Go.Ground.chain }, { on := 5, ground := Go.Ground.guard }], guard := some (5, true) }) rfl (fun K hK => ?_) AllReadyH.nil
    go_simp
    refine (of6_any _ (⟨xsrc, xdst, xpl, xl⟩ : Dg) A9 xl.length _ OKX.out (HBX.out.keep hS0 (fun _ _ _ => id))).mono ?_
    rintro e wk ⟨rfl, hx⟩
    have hS1 := hS0.trans hx
    clear hx
    refine hK.out _ _ hS1 (fun _ => ?_)
    refine wpAnyH_ready (rs := [9]) (by kernel_rfl) (by simp) ?_
    refine AllReadyH.cons (o := { dst := some 91, op := Go.Op.call { callee := Go.Callee.value (Go.Operand.func 19), args := #[Go.Operand.tmp 90], argTypes := #[25] }, type := 34, pos := "law.go:67", after := #[{ on := 8, ground := Go.Ground.data }, { on := 7, ground := Go.Ground.chain }, { on := 5, ground := Go.Ground.guard }], guard := some (5, true) }) rfl (fun K hK => ?_) AllReadyH.nil
    go_simp
    refine (of6_any _ (⟨xsrc, xdst, xpl, xl⟩ : Dg) A c _ OKX.out (HM.out.keep hS1 (fun _ _ _ => id))).mono ?_
    rintro e wl ⟨rfl, hx⟩
    have hS2 := hS1.trans hx
    clear hx
    refine hK.out _ _ hS2 (fun _ => ?_)
    refine wpAnyH_take (i := 10) (oi := { dst := some 92, op := Go.Op.binOp Go.BinOp.eql 34 (Go.Operand.tmp 89) (Go.Operand.tmp 91) 34, type := 4, pos := "law.go:67", after := #[{ on := 7, ground := Go.Ground.data }, { on := 9, ground := Go.Ground.data }, { on := 5, ground := Go.Ground.guard }], guard := some (5, true) }) (v := ?v37) rfl (by kernel_rfl) (by kernel_rfl) (by kernel_rfl) (fun _ _ _ h => h) (Or.inl ⟨by rfl, ?hy37⟩) (by assumption) ?rest37
    case hy37 => (intro w hSw; (try dsimp only at hSw); have ecdb_0 := hSw.cell cdb_0 id; have ecdb_1 := hSw.cell cdb_1 id; have ecdb_2 := hSw.cell cdb_2 id; have ecdb_3 := hSw.cell cdb_3 id; have ecxb0 := hSw.cell cxb0 id; have ecxb1 := hSw.cell cxb1 id; have ecxb2 := hSw.cell cxb2 id; have ecxb3 := hSw.cell cxb3 id; have ecyb0 := hSw.cell cyb0 id; have ecyb1 := hSw.cell cyb1 id; have ecyb2 := hSw.cell cyb2 id; have ecyb3 := hSw.cell cyb3 id; have z1 := Z1.out; have z2 := Z2.out; have z3 := Z3.out; go_simp <;> with_reducible rfl)
    try simp only [Act.put, List.setIfInBounds_toArray, List.set_cons_zero, List.set_cons_succ]
    refine wpAnyH_take (i := 11) (oi := { dst := some 93, op := Go.Op.pick (Go.Operand.tmp 87) (Go.Operand.tmp 92) (Go.Operand.const (Go.Value.bool false)), type := 4, pos := "law.go:67", after := #[{ on := 5, ground := Go.Ground.data }, { on := 10, ground := Go.Ground.data }], guard := none }) (v := ?v38) rfl (by kernel_rfl) (by kernel_rfl) (by kernel_rfl) (fun _ _ _ h => h) (Or.inl ⟨by rfl, ?hy38⟩) (by assumption) ?rest38
    case hy38 => (intro w hSw; (try dsimp only at hSw); have ecdb_0 := hSw.cell cdb_0 id; have ecdb_1 := hSw.cell cdb_1 id; have ecdb_2 := hSw.cell cdb_2 id; have ecdb_3 := hSw.cell cdb_3 id; have ecxb0 := hSw.cell cxb0 id; have ecxb1 := hSw.cell cxb1 id; have ecxb2 := hSw.cell cxb2 id; have ecxb3 := hSw.cell cxb3 id; have ecyb0 := hSw.cell cyb0 id; have ecyb1 := hSw.cell cyb1 id; have ecyb2 := hSw.cell cyb2 id; have ecyb3 := hSw.cell cyb3 id; have z1 := Z1.out; have z2 := Z2.out; have z3 := Z3.out; go_simp <;> with_reducible rfl)
    try simp only [Act.put, List.setIfInBounds_toArray, List.set_cons_zero, List.set_cons_succ]
    refine wpAnyH_take (i := 12) (oi := { dst := some 94, op := Go.Op.move (Go.Operand.tmp 93), type := 4, pos := "law.go:67", after := #[{ on := 11, ground := Go.Ground.data }, { on := 9, ground := Go.Ground.chain }], guard := none }) (v := ?v39) rfl (by kernel_rfl) (by kernel_rfl) (by kernel_rfl) (fun _ _ _ h => h) (Or.inl ⟨by rfl, ?hy39⟩) (by assumption) ?rest39
    case hy39 => (intro w hSw; (try dsimp only at hSw); have ecdb_0 := hSw.cell cdb_0 id; have ecdb_1 := hSw.cell cdb_1 id; have ecdb_2 := hSw.cell cdb_2 id; have ecdb_3 := hSw.cell cdb_3 id; have ecxb0 := hSw.cell cxb0 id; have ecxb1 := hSw.cell cxb1 id; have ecxb2 := hSw.cell cxb2 id; have ecxb3 := hSw.cell cxb3 id; have ecyb0 := hSw.cell cyb0 id; have ecyb1 := hSw.cell cyb1 id; have ecyb2 := hSw.cell cyb2 id; have ecyb3 := hSw.cell cyb3 id; have z1 := Z1.out; have z2 := Z2.out; have z3 := Z3.out; go_simp <;> with_reducible rfl)
    try simp only [Act.put, List.setIfInBounds_toArray, List.set_cons_zero, List.set_cons_succ]
    refine wpAnyH_take (i := 13) (oi := { dst := some 95, op := Go.Op.move (Go.Operand.tmp 17), type := 29, pos := "law.go:67", after := #[{ on := 12, ground := Go.Ground.guard }], guard := some (12, true) }) (v := ?v40) rfl (by kernel_rfl) (by kernel_rfl) (by kernel_rfl) (fun _ _ _ h => h) (Or.inl ⟨by rfl, ?hy40⟩) (by assumption) ?rest40
    case hy40 => (intro w hSw; (try dsimp only at hSw); have ecdb_0 := hSw.cell cdb_0 id; have ecdb_1 := hSw.cell cdb_1 id; have ecdb_2 := hSw.cell cdb_2 id; have ecdb_3 := hSw.cell cdb_3 id; have ecxb0 := hSw.cell cxb0 id; have ecxb1 := hSw.cell cxb1 id; have ecxb2 := hSw.cell cxb2 id; have ecxb3 := hSw.cell cxb3 id; have ecyb0 := hSw.cell cyb0 id; have ecyb1 := hSw.cell cyb1 id; have ecyb2 := hSw.cell cyb2 id; have ecyb3 := hSw.cell cyb3 id; have z1 := Z1.out; have z2 := Z2.out; have z3 := Z3.out; go_simp <;> with_reducible rfl)
    try simp only [Act.put, List.setIfInBounds_toArray, List.set_cons_zero, List.set_cons_succ]
    refine wpAnyH_take (i := 14) (oi := { dst := some 96, op := Go.Op.binOp Go.BinOp.eql 29 (Go.Operand.tmp 95) (Go.Operand.const Go.Value.nilIface) 29, type := 4, pos := "law.go:67", after := #[{ on := 13, ground := Go.Ground.data }, { on := 12, ground := Go.Ground.guard }], guard := some (12, true) }) (v := ?v41) rfl (by kernel_rfl) (by kernel_rfl) (by kernel_rfl) (fun _ _ _ h => h) (Or.inl ⟨by rfl, ?hy41⟩) (by assumption) ?rest41
    case hy41 => (intro w hSw; (try dsimp only at hSw); have ecdb_0 := hSw.cell cdb_0 id; have ecdb_1 := hSw.cell cdb_1 id; have ecdb_2 := hSw.cell cdb_2 id; have ecdb_3 := hSw.cell cdb_3 id; have ecxb0 := hSw.cell cxb0 id; have ecxb1 := hSw.cell cxb1 id; have ecxb2 := hSw.cell cxb2 id; have ecxb3 := hSw.cell cxb3 id; have ecyb0 := hSw.cell cyb0 id; have ecyb1 := hSw.cell cyb1 id; have ecyb2 := hSw.cell cyb2 id; have ecyb3 := hSw.cell cyb3 id; have z1 := Z1.out; have z2 := Z2.out; have z3 := Z3.out; go_simp <;> with_reducible rfl)
    try simp only [Act.put, List.setIfInBounds_toArray, List.set_cons_zero, List.set_cons_succ]
    refine wpAnyH_take (i := 15) (oi := { dst := some 97, op := Go.Op.pick (Go.Operand.tmp 94) (Go.Operand.tmp 96) (Go.Operand.const (Go.Value.bool false)), type := 4, pos := "law.go:67", after := #[{ on := 12, ground := Go.Ground.data }, { on := 14, ground := Go.Ground.data }], guard := none }) (v := ?v42) rfl (by kernel_rfl) (by kernel_rfl) (by kernel_rfl) (fun _ _ _ h => h) (Or.inl ⟨by rfl, ?hy42⟩) (by assumption) ?rest42
    case hy42 => (intro w hSw; (try dsimp only at hSw); have ecdb_0 := hSw.cell cdb_0 id; have ecdb_1 := hSw.cell cdb_1 id; have ecdb_2 := hSw.cell cdb_2 id; have ecdb_3 := hSw.cell cdb_3 id; have ecxb0 := hSw.cell cxb0 id; have ecxb1 := hSw.cell cxb1 id; have ecxb2 := hSw.cell cxb2 id; have ecxb3 := hSw.cell cxb3 id; have ecyb0 := hSw.cell cyb0 id; have ecyb1 := hSw.cell cyb1 id; have ecyb2 := hSw.cell cyb2 id; have ecyb3 := hSw.cell cyb3 id; have z1 := Z1.out; have z2 := Z2.out; have z3 := Z3.out; go_simp <;> with_reducible rfl)
    try simp only [Act.put, List.setIfInBounds_toArray, List.set_cons_zero, List.set_cons_succ]
    refine wpAnyH_take (i := 16) (oi := { dst := some 98, op := Go.Op.move (Go.Operand.tmp 97), type := 4, pos := "law.go:67", after := #[{ on := 15, ground := Go.Ground.data }, { on := 12, ground := Go.Ground.chain }], guard := none }) (v := ?v43) rfl (by kernel_rfl) (by kernel_rfl) (by kernel_rfl) (fun _ _ _ h => h) (Or.inl ⟨by rfl, ?hy43⟩) (by assumption) ?rest43
    case hy43 => (intro w hSw; (try dsimp only at hSw); have ecdb_0 := hSw.cell cdb_0 id; have ecdb_1 := hSw.cell cdb_1 id; have ecdb_2 := hSw.cell cdb_2 id; have ecdb_3 := hSw.cell cdb_3 id; have ecxb0 := hSw.cell cxb0 id; have ecxb1 := hSw.cell cxb1 id; have ecxb2 := hSw.cell cxb2 id; have ecxb3 := hSw.cell cxb3 id; have ecyb0 := hSw.cell cyb0 id; have ecyb1 := hSw.cell cyb1 id; have ecyb2 := hSw.cell cyb2 id; have ecyb3 := hSw.cell cyb3 id; have z1 := Z1.out; have z2 := Z2.out; have z3 := Z3.out; go_simp <;> with_reducible rfl)
    try simp only [Act.put, List.setIfInBounds_toArray, List.set_cons_zero, List.set_cons_succ]
    refine wpAnyH_take (i := 17) (oi := { dst := some 99, op := Go.Op.load 25 (Go.Operand.tmp 16), type := 25, pos := "law.go:67", after := #[{ on := 16, ground := Go.Ground.guard }], guard := some (16, true) }) (v := ?v44) rfl (by kernel_rfl) (by kernel_rfl) (by kernel_rfl) (fun _ _ _ h => h) (Or.inl ⟨by rfl, ?hy44⟩) (by assumption) ?rest44
    case hy44 => (intro w hSw; (try dsimp only at hSw); have ecdb_0 := hSw.cell cdb_0 id; have ecdb_1 := hSw.cell cdb_1 id; have ecdb_2 := hSw.cell cdb_2 id; have ecdb_3 := hSw.cell cdb_3 id; have ecxb0 := hSw.cell cxb0 id; have ecxb1 := hSw.cell cxb1 id; have ecxb2 := hSw.cell cxb2 id; have ecxb3 := hSw.cell cxb3 id; have ecyb0 := hSw.cell cyb0 id; have ecyb1 := hSw.cell cyb1 id; have ecyb2 := hSw.cell cyb2 id; have ecyb3 := hSw.cell cyb3 id; have z1 := Z1.out; have z2 := Z2.out; have z3 := Z3.out; go_simp <;> with_reducible rfl)
    try simp only [Act.put, List.setIfInBounds_toArray, List.set_cons_zero, List.set_cons_succ]
    refine wpAnyH_take (i := 19) (oi := { dst := some 101, op := Go.Op.load 25 (Go.Operand.tmp 5), type := 25, pos := "law.go:67", after := #[{ on := 16, ground := Go.Ground.guard }], guard := some (16, true) }) (v := ?v45) rfl (by kernel_rfl) (by kernel_rfl) (by kernel_rfl) (fun _ _ _ h => h) (Or.inl ⟨by rfl, ?hy45⟩) (by assumption) ?rest45
    case hy45 => (intro w hSw; (try dsimp only at hSw); have ecdb_0 := hSw.cell cdb_0 id; have ecdb_1 := hSw.cell cdb_1 id; have ecdb_2 := hSw.cell cdb_2 id; have ecdb_3 := hSw.cell cdb_3 id; have ecxb0 := hSw.cell cxb0 id; have ecxb1 := hSw.cell cxb1 id; have ecxb2 := hSw.cell cxb2 id; have ecxb3 := hSw.cell cxb3 id; have ecyb0 := hSw.cell cyb0 id; have ecyb1 := hSw.cell cyb1 id; have ecyb2 := hSw.cell cyb2 id; have ecyb3 := hSw.cell cyb3 id; have z1 := Z1.out; have z2 := Z2.out; have z3 := Z3.out; go_simp <;> with_reducible rfl)
    try simp only [Act.put, List.setIfInBounds_toArray, List.set_cons_zero, List.set_cons_succ]
    refine wpAnyH_ready (rs := [18]) (by kernel_rfl) (by simp) ?_
    refine AllReadyH.cons (o := { dst := some 100, op := Go.Op.call { callee := Go.Callee.value (Go.Operand.func 19), args := #[Go.Operand.tmp 99], argTypes := #[25] }, type := 34, pos := "law.go:67", after := #[{ on := 17, ground := Go.Ground.data }, { on := 16, ground := Go.Ground.chain }, { on := 16, ground := Go.Ground.guard }], guard := some (16, true) }) rfl (fun K hK => ?_) AllReadyH.nil
    go_simp
    refine (of6_any _ (⟨xsrc, xdst, xpl, xl⟩ : Dg) Ag xl.length _ OKX.out (HBG.out.keep hS2 (fun _ _ _ => id))).mono ?_
    rintro e wm ⟨rfl, hx⟩
    have hS3 := hS2.trans hx
    clear hx
    refine hK.out _ _ hS3 (fun _ => ?_)
    refine wpAnyH_ready (rs := [20]) (by kernel_rfl) (by simp) ?_
    refine AllReadyH.cons (o := { dst := some 102, op := Go.Op.call { callee := Go.Callee.value (Go.Operand.func 19), args := #[Go.Operand.tmp 101], argTypes := #[25] }, type := 34, pos := "law.go:67", after := #[{ on := 19, ground := Go.Ground.data }, { on := 18, ground := Go.Ground.chain }, { on := 16, ground := Go.Ground.guard }], guard := some (16, true) }) rfl (fun K hK => ?_) AllReadyH.nil
    go_simp
    refine (of6_any _ (⟨xsrc, xdst, xpl, xl⟩ : Dg) A c _ OKX.out (HM.out.keep hS3 (fun _ _ _ => id))).mono ?_
    rintro e wn ⟨rfl, hx⟩
    have hS4 := hS3.trans hx
    clear hx
    refine hK.out _ _ hS4 (fun _ => ?_)
    refine wpAnyH_take (i := 21) (oi := { dst := some 103, op := Go.Op.binOp Go.BinOp.eql 34 (Go.Operand.tmp 100) (Go.Operand.tmp 102) 34, type := 4, pos := "law.go:67", after := #[{ on := 18, ground := Go.Ground.data }, { on := 20, ground := Go.Ground.data }, { on := 16, ground := Go.Ground.guard }], guard := some (16, true) }) (v := ?v46) rfl (by kernel_rfl) (by kernel_rfl) (by kernel_rfl) (fun _ _ _ h => h) (Or.inl ⟨by rfl, ?hy46⟩) (by assumption) ?rest46
    case hy46 => (intro w hSw; (try dsimp only at hSw); have ecdb_0 := hSw.cell cdb_0 id; have ecdb_1 := hSw.cell cdb_1 id; have ecdb_2 := hSw.cell cdb_2 id; have ecdb_3 := hSw.cell cdb_3 id; have ecxb0 := hSw.cell cxb0 id; have ecxb1 := hSw.cell cxb1 id; have ecxb2 := hSw.cell cxb2 id; have ecxb3 := hSw.cell cxb3 id; have ecyb0 := hSw.cell cyb0 id; have ecyb1 := hSw.cell cyb1 id; have ecyb2 := hSw.cell cyb2 id; have ecyb3 := hSw.cell cyb3 id; have z1 := Z1.out; have z2 := Z2.out; have z3 := Z3.out; go_simp <;> with_reducible rfl)
    try simp only [Act.put, List.setIfInBounds_toArray, List.set_cons_zero, List.set_cons_succ]
    refine wpAnyH_take (i := 22) (oi := { dst := some 104, op := Go.Op.pick (Go.Operand.tmp 98) (Go.Operand.tmp 103) (Go.Operand.const (Go.Value.bool false)), type := 4, pos := "law.go:67", after := #[{ on := 16, ground := Go.Ground.data }, { on := 21, ground := Go.Ground.data }], guard := none }) (v := ?v47) rfl (by kernel_rfl) (by kernel_rfl) (by kernel_rfl) (fun _ _ _ h => h) (Or.inl ⟨by rfl, ?hy47⟩) (by assumption) ?rest47
    case hy47 => (intro w hSw; (try dsimp only at hSw); have ecdb_0 := hSw.cell cdb_0 id; have ecdb_1 := hSw.cell cdb_1 id; have ecdb_2 := hSw.cell cdb_2 id; have ecdb_3 := hSw.cell cdb_3 id; have ecxb0 := hSw.cell cxb0 id; have ecxb1 := hSw.cell cxb1 id; have ecxb2 := hSw.cell cxb2 id; have ecxb3 := hSw.cell cxb3 id; have ecyb0 := hSw.cell cyb0 id; have ecyb1 := hSw.cell cyb1 id; have ecyb2 := hSw.cell cyb2 id; have ecyb3 := hSw.cell cyb3 id; have z1 := Z1.out; have z2 := Z2.out; have z3 := Z3.out; go_simp <;> with_reducible rfl)
    try simp only [Act.put, List.setIfInBounds_toArray, List.set_cons_zero, List.set_cons_succ]
    refine wpAnyH_take (i := 23) (oi := { dst := some 105, op := Go.Op.move (Go.Operand.tmp 104), type := 4, pos := "law.go:67", after := #[{ on := 22, ground := Go.Ground.data }, { on := 20, ground := Go.Ground.chain }], guard := none }) (v := ?v48) rfl (by kernel_rfl) (by kernel_rfl) (by kernel_rfl) (fun _ _ _ h => h) (Or.inl ⟨by rfl, ?hy48⟩) (by assumption) ?rest48
    case hy48 => (intro w hSw; (try dsimp only at hSw); have ecdb_0 := hSw.cell cdb_0 id; have ecdb_1 := hSw.cell cdb_1 id; have ecdb_2 := hSw.cell cdb_2 id; have ecdb_3 := hSw.cell cdb_3 id; have ecxb0 := hSw.cell cxb0 id; have ecxb1 := hSw.cell cxb1 id; have ecxb2 := hSw.cell cxb2 id; have ecxb3 := hSw.cell cxb3 id; have ecyb0 := hSw.cell cyb0 id; have ecyb1 := hSw.cell cyb1 id; have ecyb2 := hSw.cell cyb2 id; have ecyb3 := hSw.cell cyb3 id; have z1 := Z1.out; have z2 := Z2.out; have z3 := Z3.out; go_simp <;> with_reducible rfl)
    try simp only [Act.put, List.setIfInBounds_toArray, List.set_cons_zero, List.set_cons_succ]
    refine wpAnyH_take (i := 24) (oi := { dst := some 106, op := Go.Op.move (Go.Operand.tmp 19), type := 29, pos := "law.go:67", after := #[{ on := 23, ground := Go.Ground.guard }], guard := some (23, true) }) (v := ?v49) rfl (by kernel_rfl) (by kernel_rfl) (by kernel_rfl) (fun _ _ _ h => h) (Or.inl ⟨by rfl, ?hy49⟩) (by assumption) ?rest49
    case hy49 => (intro w hSw; (try dsimp only at hSw); have ecdb_0 := hSw.cell cdb_0 id; have ecdb_1 := hSw.cell cdb_1 id; have ecdb_2 := hSw.cell cdb_2 id; have ecdb_3 := hSw.cell cdb_3 id; have ecxb0 := hSw.cell cxb0 id; have ecxb1 := hSw.cell cxb1 id; have ecxb2 := hSw.cell cxb2 id; have ecxb3 := hSw.cell cxb3 id; have ecyb0 := hSw.cell cyb0 id; have ecyb1 := hSw.cell cyb1 id; have ecyb2 := hSw.cell cyb2 id; have ecyb3 := hSw.cell cyb3 id; have z1 := Z1.out; have z2 := Z2.out; have z3 := Z3.out; go_simp <;> with_reducible rfl)
    try simp only [Act.put, List.setIfInBounds_toArray, List.set_cons_zero, List.set_cons_succ]
    refine wpAnyH_ready (rs := [25]) (by kernel_rfl) (by simp) ?_
    refine AllReadyH.cons (o := { dst := some 107, op := Go.Op.call { callee := Go.Callee.value (Go.Operand.func 22), args := #[Go.Operand.tmp 106], argTypes := #[29] }, type := 44, pos := "law.go:67", after := #[{ on := 24, ground := Go.Ground.data }, { on := 23, ground := Go.Ground.chain }, { on := 23, ground := Go.Ground.guard }], guard := some (23, true) }) rfl (fun K hK => ?_) AllReadyH.nil
    go_simp
    refine (code_any _ rc 2 _ _ (EC.keep hS4 (fun _ _ => id) HE9.out) (HG.out.keep hS4 id)).mono ?_
    rintro e wo ⟨rfl, hx⟩
    have hS5 := hS4.trans hx
    clear hx
    refine hK.out _ _ hS5 (fun _ => ?_)
    refine wpAnyH_take (i := 26) (oi := { dst := some 108, op := Go.Op.binOp Go.BinOp.eql 44 (Go.Operand.tmp 107) (Go.Operand.const (Go.Value.int Go.IntKind.i64 2)) 44, type := 4, pos := "law.go:67", after := #[{ on := 25, ground := Go.Ground.data }, { on := 23, ground := Go.Ground.guard }], guard := some (23, true) }) (v := ?v50) rfl (by kernel_rfl) (by kernel_rfl) (by kernel_rfl) (fun _ _ _ h => h) (Or.inl ⟨by rfl, ?hy50⟩) (by assumption) ?rest50
    case hy50 => (intro w hSw; (try dsimp only at hSw); have ecdb_0 := hSw.cell cdb_0 id; have ecdb_1 := hSw.cell cdb_1 id; have ecdb_2 := hSw.cell cdb_2 id; have ecdb_3 := hSw.cell cdb_3 id; have ecxb0 := hSw.cell cxb0 id; have ecxb1 := hSw.cell cxb1 id; have ecxb2 := hSw.cell cxb2 id; have ecxb3 := hSw.cell cxb3 id; have ecyb0 := hSw.cell cyb0 id; have ecyb1 := hSw.cell cyb1 id; have ecyb2 := hSw.cell cyb2 id; have ecyb3 := hSw.cell cyb3 id; have z1 := Z1.out; have z2 := Z2.out; have z3 := Z3.out; go_simp <;> with_reducible rfl)
    try simp only [Act.put, List.setIfInBounds_toArray, List.set_cons_zero, List.set_cons_succ]
    refine wpAnyH_take (i := 27) (oi := { dst := some 109, op := Go.Op.pick (Go.Operand.tmp 105) (Go.Operand.tmp 108) (Go.Operand.const (Go.Value.bool false)), type := 4, pos := "law.go:67", after := #[{ on := 23, ground := Go.Ground.data }, { on := 26, ground := Go.Ground.data }], guard := none }) (v := ?v51) rfl (by kernel_rfl) (by kernel_rfl) (by kernel_rfl) (fun _ _ _ h => h) (Or.inl ⟨by rfl, ?hy51⟩) (by assumption) ?rest51
    case hy51 => (intro w hSw; (try dsimp only at hSw); have ecdb_0 := hSw.cell cdb_0 id; have ecdb_1 := hSw.cell cdb_1 id; have ecdb_2 := hSw.cell cdb_2 id; have ecdb_3 := hSw.cell cdb_3 id; have ecxb0 := hSw.cell cxb0 id; have ecxb1 := hSw.cell cxb1 id; have ecxb2 := hSw.cell cxb2 id; have ecxb3 := hSw.cell cxb3 id; have ecyb0 := hSw.cell cyb0 id; have ecyb1 := hSw.cell cyb1 id; have ecyb2 := hSw.cell cyb2 id; have ecyb3 := hSw.cell cyb3 id; have z1 := Z1.out; have z2 := Z2.out; have z3 := Z3.out; go_simp <;> with_reducible rfl)
    try simp only [Act.put, List.setIfInBounds_toArray, List.set_cons_zero, List.set_cons_succ]
    refine wpAnyH_take (i := 28) (oi := { dst := some 10, op := Go.Op.assign (Go.Operand.tmp 109), type := 4, pos := "law.go:67", after := #[{ on := 27, ground := Go.Ground.data }, { on := 25, ground := Go.Ground.chain }, { on := 0, ground := Go.Ground.phase }, { on := 1, ground := Go.Ground.phase }, { on := 2, ground := Go.Ground.phase }, { on := 3, ground := Go.Ground.phase }, { on := 4, ground := Go.Ground.phase }, { on := 5, ground := Go.Ground.phase }, { on := 6, ground := Go.Ground.phase }, { on := 7, ground := Go.Ground.phase }, { on := 8, ground := Go.Ground.phase }, { on := 9, ground := Go.Ground.phase }, { on := 10, ground := Go.Ground.phase }, { on := 11, ground := Go.Ground.phase }, { on := 12, ground := Go.Ground.phase }, { on := 13, ground := Go.Ground.phase }, { on := 14, ground := Go.Ground.phase }, { on := 15, ground := Go.Ground.phase }, { on := 16, ground := Go.Ground.phase }, { on := 17, ground := Go.Ground.phase }, { on := 18, ground := Go.Ground.phase }, { on := 19, ground := Go.Ground.phase }, { on := 20, ground := Go.Ground.phase }, { on := 21, ground := Go.Ground.phase }, { on := 22, ground := Go.Ground.phase }, { on := 23, ground := Go.Ground.phase }, { on := 24, ground := Go.Ground.phase }, { on := 25, ground := Go.Ground.phase }, { on := 26, ground := Go.Ground.phase }, { on := 27, ground := Go.Ground.phase }], guard := none }) (v := ?v52) rfl (by kernel_rfl) (by kernel_rfl) (by kernel_rfl) (fun _ _ _ h => h) (Or.inl ⟨by rfl, ?hy52⟩) (by assumption) ?rest52
    case hy52 => (intro w hSw; (try dsimp only at hSw); have ecdb_0 := hSw.cell cdb_0 id; have ecdb_1 := hSw.cell cdb_1 id; have ecdb_2 := hSw.cell cdb_2 id; have ecdb_3 := hSw.cell cdb_3 id; have ecxb0 := hSw.cell cxb0 id; have ecxb1 := hSw.cell cxb1 id; have ecxb2 := hSw.cell cxb2 id; have ecxb3 := hSw.cell cxb3 id; have ecyb0 := hSw.cell cyb0 id; have ecyb1 := hSw.cell cyb1 id; have ecyb2 := hSw.cell cyb2 id; have ecyb3 := hSw.cell cyb3 id; have z1 := Z1.out; have z2 := Z2.out; have z3 := Z3.out; go_simp <;> with_reducible rfl)
    try simp only [Act.put, List.setIfInBounds_toArray, List.set_cons_zero, List.set_cons_succ]
    refine wpAnyH_done (by kernel_rfl) ?_ _
    have hx := hS5
    clear hS0 hS1 hS2 hS3 hS4 hS5 cdb_0 cdb_1 cdb_2 cdb_3 cxb0 cxb1 cxb2 cxb3 cyb0 cyb1 cyb2 cyb3
    have HX_wo := Lib.hid hx
    clear hx
    go_wp2_with fail
    go_ret
    exact ⟨rfl, (((((((((HX_w1.out.trans HX_w2.out).andThen HX_w3.out (fun i hi e => by have := hb_db_; omega)).trans HX_w4.out).trans HX_wc.out).trans HX_wg.out).trans HX_wh.out).trans HX_wi.out).trans HX_wj.out).trans HX_wo.out)⟩
end Go.Proofs.YtfcfpkhcpijkfaaDoor
