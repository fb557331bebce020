/-
  udp.Parse gives bytes that may be written over. By an AI agent.
-/
import Derived.Test.YtfcfpkhcpijkfaaDoorDgT
namespace Go.Proofs.YtfcfpkhcpijkfaaDoor
open Go.RowKit

/-- the bytes v lie where they may be written over, in a new block -/
def WrB (w w' : World) (A : Option Addr) (b : List UInt8) : Prop := b ≠ [] → ∃ g o, A = some ⟨g, o, none⟩ ∧ w.heap.size ≤ g ∧ g < w'.heap.size ∧ ∀ x, w'.frozen? ⟨g, x, none⟩ = false
theorem WrB.keep {w w1 w' w'' : World} {A : Option Addr} {b : List UInt8} {S : Nat → Prop} (h : WrB w1 w' A b) (hw : w.heap.size ≤ w1.heap.size) (hx : Ex S w' w'') (hS : ∀ j, S j → j < w1.heap.size) : WrB w w'' A b := by
  intro hne
  obtain ⟨g, o, h1, h2, h3, h4⟩ := h hne
  have h5 := hx.size
  exact ⟨g, o, h1, by omega, by omega, fun x => (hx.frozen (p := ⟨g, x, none⟩) h3 (fun hs => by have := hS g hs; omega)).trans (h4 x)⟩
set_option maxRecDepth 100000 in
set_option maxHeartbeats 8000000 in
theorem pclo_plainW (P : Nat → Prop) (pb ps pt : Nat) (A : Option Addr) (n c : Nat) (l : List UInt8) (s t : Int) (w : World) (hB : w.cell? ⟨pb, 0, none⟩ = some (.slice A n c)) (hS : w.cell? ⟨ps, 0, none⟩ = some (.int .u32 s)) (hT : w.cell? ⟨pt, 0, none⟩ = some (.int .u32 t)) (hr : RB w P (.slice A n c) l) (hA : A = none → c = 0) (hl : l.length ≤ 1000000000) (h8 : 8 ≤ l.length) (hz8 : 8 ≤ dsz l) (hzl : dsz l ≤ l.length) (hpl : dsm l = 0) :
    Calls Tryd.prog 35 #[.pointer (some ⟨pb, 0, none⟩), .pointer (some ⟨ps, 0, none⟩), .pointer (some ⟨pt, 0, none⟩)] w fun e w' => ∃ A', e = .returned (dgv (pd l) (.slice A' (pd l).b.length (pd l).b.length)) ∧ RB w' (fun j => w.heap.size ≤ j) (.slice A' (pd l).b.length (pd l).b.length) (pd l).b ∧ WrB w w' A' (pd l).b ∧ Ex (fun _ => False) w w' := by
  obtain rfl : n = l.length := by obtain ⟨_, _, _, e, _⟩ := hr; injection e
  obtain ⟨x0, x1, x2, x3, x4, x5, x6, x7, ht8, hz, hmm, hpm⟩ := eight6 h8
  have HT8 := Lib.hid ht8
  have hszl : dsz l ≤ 65535 := by rw [hz]; have := nb2_le x4 x5; omega
  have hsml : dsm l ≤ 65535 := by rw [hmm]; have := nb2_le x6 x7; omega
  obtain ⟨sz, hsz⟩ : ∃ k, k = dsz l := ⟨_, rfl⟩
  obtain ⟨sm, hsm⟩ : ∃ k, k = dsm l := ⟨_, rfl⟩
  rw [← hsz] at hz hpm hszl hz8 hzl
  rw [← hsm] at hmm hpm hsml hpl
  have HZ := Lib.hid hz.symm
  have HMM := Lib.hid hmm.symm
  have HSZL := Lib.hid hszl
  have HSML := Lib.hid hsml
  have HPM := Lib.hid hpm
  have HSZ := Lib.hid hsz
  have hwz : wrap64 (sz : Int) = (sz : Int) := by have := HSZL.out; unfold wrap64; omega
  clear ht8 hz hmm hszl hsml hpm hsz hsm
  have hd1 : decide ((sz : Int) < 8) = false := by rw [decide_eq_false_iff_not]; omega
  have hd2 : decide (l.length < sz) = false := by rw [decide_eq_false_iff_not]; omega
  have HZ8 := Lib.hid hz8
  have HZLE := Lib.hid hzl
  clear hz8 hzl
  have hd3 : ((sm : Int) == 0) = true := by rw [hpl]; rfl
  have hdp : decide (sm = 0) = true := by rw [hpl]; rfl
  have hpm := HPM.out
  rw [hdp] at hpm
  rw [hpm]
  clear hpl hdp hpm HPM
  have HR := Lib.hid hr
  have HA := Lib.hid hA
  have CB := Lib.hid hB
  have CS := Lib.hid hS
  have CT := Lib.hid hT
  have HL := Lib.hid hl
  clear hr hA hB hS hT hl
  go_enter Tryd.func35, Tryd.ntmps35
  go_upto_region 1 with fail
  have hx : Ex (fun _ => False) w (w.alloc (.cells #[.int .u16 0, .int .u16 0, .bool false, .slice none 0 0] 25)) := (Ex.refl _ w).alloc _
  have hb : (w.alloc (.cells #[.int .u16 0, .int .u16 0, .bool false, .slice none 0 0] 25)).heap[w.heap.size]? = some (.cells #[.int .u16 0, .int .u16 0, .bool false, .slice none 0 0] 25) := heap_alloc_new w _
  obtain ⟨db_, hdb_⟩ : ∃ db_, db_ = w.heap.size := ⟨_, rfl⟩
  have hb_db_ : w.heap.size ≤ db_ := by omega
  rw [← hdb_] at hb
  try simp only [← hdb_]
  generalize w.alloc (.cells #[.int .u16 0, .int .u16 0, .bool false, .slice none 0 0] 25) = w1 at hx hb ⊢
  clear hdb_
  have HX_w1 := Lib.hid hx
  clear hx
  have B_db_ := Lib.hid hb
  clear hb
  have hdbl := row_lt B_db_.out
  have qb := (HX_w1.out.cell CB.out id)
  go_wp2_with fail
  refine (read_anyF P A l.length c l w1 (RB.keep HR.out HX_w1.out (fun _ _ _ => id)) HA.out HL.out).mono ?_
  rintro e w2 ⟨p1, g1, rfl, hr2, hb_p1, hb_g1, hx, hfz⟩
  have HFZ := Lib.hid (hfz (by omega))
  have HG1 := Lib.hid (hr2.ltg (by omega))
  clear qb hfz
  have HX_w2 := Lib.hid hx
  clear hx
  have HR2 := Lib.hid hr2
  clear hr2
  have ne_db__p1 : db_ ≠ p1 := by omega
  have ne_db__g1 : db_ ≠ g1 := by omega
  have ne_g1_p1 := HR2.out.apart
  go_wp2_with fail
  refine (rbytes_any p1 g1 0 l 8 w2 HR2.out h8).mono ?_
  rintro e w3 ⟨u3, rfl, A3, rfl, hA3, hb3, hr3, hx⟩
  obtain rfl : A3 = some ⟨g1, 0, none⟩ := hA3.resolve_left (by intro h; subst h; simp at h8)
  clear hA3
  have HX_w3 := Lib.hid hx
  clear hx
  have HB3 := Lib.hid hb3
  have HR3 := Lib.hid hr3
  clear hb3 hr3 HR2
  have hrd := HB3.out
  rw [HT8.out] at hrd
  have HRD := Lib.hid hrd
  clear hrd
  go_wp2_with fail
  refine (mustb_ok (some ⟨g1, 0, none⟩) 8 8 w3).mono ?_
  rintro e _ ⟨rfl, rfl⟩
  go_wp2_with fail
  refine (read_anyF _ (some ⟨g1, 0, none⟩) 8 8 [x0, x1, x2, x3, x4, x5, x6, x7] w3 HRD.out (fun h => by cases h) (by simp)).mono ?_
  rintro e w4 ⟨p2, g2, rfl, hr4, hb_p2, hb_g2, hx, _⟩
  have hp1 := HR3.out.lt
  have hdb3 := row_lt (((HX_w2.out.andThen HX_w3.out (fun i hi e => by have := hb_p1; omega)).block db_ (row_lt B_db_.out) id).trans B_db_.out)
  have hg13 : g1 < w3.heap.size := by
    obtain ⟨_, _, _, _, _, h⟩ := HRD.out
    obtain ⟨b, off, e, hb, hc⟩ := h 0 (by simp)
    subst hb
    exact World.block_lt_of_cell? w3 _ hc
  have ne_p1_p2 : p1 ≠ p2 := by omega
  have ne_p1_g2 : p1 ≠ g2 := by omega
  have ne_db__p2 : db_ ≠ p2 := by omega
  have ne_db__g2 : db_ ≠ g2 := by omega
  have ne_g1_p2 : g1 ≠ p2 := by omega
  have ne_g1_g2 : g1 ≠ g2 := by omega
  have HX_w4 := Lib.hid hx
  clear hx
  have HR4 := Lib.hid hr4
  clear hr4 hp1 hdb3 hg13
  go_wp2_with fail
  refine (ru16_cons p2 g2 _ x0 x1 [x2, x3, x4, x5, x6, x7] w4 HR4.out).mono ?_
  rintro e w5 ⟨rfl, hr, hx⟩
  have HX_w5 := Lib.hid hx
  clear hx
  have HR_w5 := Lib.hid hr
  clear hr HR4
  go_wp2_with fail
  refine (must16_ok _ w5).mono ?_
  rintro e _ ⟨rfl, rfl⟩
  replace B_db_ := Lib.hid (((((HX_w2.out.andThen HX_w3.out (fun i hi e => by have := hb_p1; omega)).trans HX_w4.out).andThen HX_w5.out (fun i hi e => by have := (HX_w2.out.andThen HX_w3.out (fun i hi e => by have := hb_p1; omega)).size; have := hb_p2; omega)).block db_ (row_lt B_db_.out) id).trans B_db_.out)
  have cdb_0 := row_cell (k := 0) (v := .int .u16 0) B_db_.out rfl
  have fdb_0 := row_frozen B_db_.out 0
  go_upto_region 4 with fail
  have hb : (w5.setCell ⟨db_, 0, none⟩ (.int .u16 (nb [x0, x1] : Int))).heap[db_]? = some (.cells #[.int .u16 (nb [x0, x1] : Int), .int .u16 0, .bool false, .slice none 0 0] 25) := (row_set B_db_.out 0 (.int .u16 (nb [x0, x1] : Int)))
  have hx : Ex (fun j => j = db_) w5 (w5.setCell ⟨db_, 0, none⟩ (.int .u16 (nb [x0, x1] : Int))) := ((Ex.refl (fun j => j = db_) w5).setCell (p := ⟨db_, 0, none⟩) (.inl rfl) (.int .u16 (nb [x0, x1] : Int)))
  clear cdb_0 fdb_0
  generalize (w5.setCell ⟨db_, 0, none⟩ (.int .u16 (nb [x0, x1] : Int))) = w6 at hx hb ⊢
  clear B_db_
  have HX_w6 := Lib.hid hx
  clear hx
  have B_db_ := Lib.hid hb
  clear hb
  go_wp2_with fail
  refine (ru16_cons p2 g2 _ x2 x3 [x4, x5, x6, x7] w6 (RD.keep HR_w5.out HX_w6.out ne_db__p2.symm (fun _ => ne_db__g2.symm))).mono ?_
  rintro e w7 ⟨rfl, hr, hx⟩
  have HX_w7 := Lib.hid hx
  clear hx
  have HR_w7 := Lib.hid hr
  clear hr HR_w5
  go_wp2_with fail
  refine (must16_ok _ w7).mono ?_
  rintro e _ ⟨rfl, rfl⟩
  replace B_db_ := Lib.hid ((HX_w7.out.block db_ (row_lt B_db_.out) ne_db__p2).trans B_db_.out)
  have cdb_1 := row_cell (k := 1) (v := .int .u16 0) B_db_.out rfl
  have fdb_1 := row_frozen B_db_.out 1
  go_upto_region 5 with fail
  have hb : (w7.setCell ⟨db_, 1, none⟩ (.int .u16 (nb [x2, x3] : Int))).heap[db_]? = some (.cells #[.int .u16 (nb [x0, x1] : Int), .int .u16 (nb [x2, x3] : Int), .bool false, .slice none 0 0] 25) := (row_set B_db_.out 1 (.int .u16 (nb [x2, x3] : Int)))
  have hx : Ex (fun j => j = db_) w7 (w7.setCell ⟨db_, 1, none⟩ (.int .u16 (nb [x2, x3] : Int))) := ((Ex.refl (fun j => j = db_) w7).setCell (p := ⟨db_, 1, none⟩) (.inl rfl) (.int .u16 (nb [x2, x3] : Int)))
  clear cdb_1 fdb_1
  generalize (w7.setCell ⟨db_, 1, none⟩ (.int .u16 (nb [x2, x3] : Int))) = w8 at hx hb ⊢
  clear B_db_
  have HX_w8 := Lib.hid hx
  clear hx
  have B_db_ := Lib.hid hb
  clear hb
  go_wp2_with fail
  refine (ru16_cons p2 g2 _ x4 x5 [x6, x7] w8 (RD.keep HR_w7.out HX_w8.out ne_db__p2.symm (fun _ => ne_db__g2.symm))).mono ?_
  rintro e w9 ⟨rfl, hr, hx⟩
  have HX_w9 := Lib.hid hx
  clear hx
  have HR_w9 := Lib.hid hr
  clear hr HR_w7
  go_wp2_with fail
  refine (must16_ok _ w9).mono ?_
  rintro e _ ⟨rfl, rfl⟩
  rw [HZ.out]
  go_wp2_with fail
  refine (check_no 3 w9).mono ?_
  rintro e _ ⟨rfl, rfl⟩
  have qb := (((((((((HX_w1.out.trans HX_w2.out).andThen HX_w3.out (fun i hi e => by have := HX_w1.out.size; have := hb_p1; omega)).trans HX_w4.out).andThen HX_w5.out (fun i hi e => by have := ((HX_w1.out.trans HX_w2.out).andThen HX_w3.out (fun i hi e => by have := HX_w1.out.size; have := hb_p1; omega)).size; have := hb_p2; omega)).andThen HX_w6.out (fun i hi e => by have := hb_db_; omega)).andThen HX_w7.out (fun i hi e => by have := ((HX_w1.out.trans HX_w2.out).andThen HX_w3.out (fun i hi e => by have := HX_w1.out.size; have := hb_p1; omega)).size; have := hb_p2; omega)).andThen HX_w8.out (fun i hi e => by have := hb_db_; omega)).andThen HX_w9.out (fun i hi e => by have := ((HX_w1.out.trans HX_w2.out).andThen HX_w3.out (fun i hi e => by have := HX_w1.out.size; have := hb_p1; omega)).size; have := hb_p2; omega)).cell CB.out id)
  go_wp2_with fail
  refine (check_no 2 w9).mono ?_
  rintro e _ ⟨rfl, rfl⟩
  clear qb
  go_wp2_with fail
  refine (ru16_cons p2 g2 _ x6 x7 [] w9 HR_w9.out).mono ?_
  rintro e wa ⟨rfl, hr, hx⟩
  have HX_wa := Lib.hid hx
  clear hx
  have HR_wa := Lib.hid hr
  clear hr HR_w9
  go_wp2_with fail
  refine (must16_ok _ wa).mono ?_
  rintro e _ ⟨rfl, rfl⟩
  rw [HMM.out]
  replace B_db_ := Lib.hid ((HX_wa.out.block db_ (row_lt ((HX_w9.out.block db_ (row_lt B_db_.out) ne_db__p2).trans B_db_.out)) ne_db__p2).trans ((HX_w9.out.block db_ (row_lt B_db_.out) ne_db__p2).trans B_db_.out))
  have cdb_2 := row_cell (k := 2) (v := .bool false) B_db_.out rfl
  have fdb_2 := row_frozen B_db_.out 2
  go_upto_region 9 with fail
  have hb : (wa.setCell ⟨db_, 2, none⟩ (.bool true)).heap[db_]? = some (.cells #[.int .u16 (nb [x0, x1] : Int), .int .u16 (nb [x2, x3] : Int), .bool true, .slice none 0 0] 25) := (row_set B_db_.out 2 (.bool true))
  have hx : Ex (fun j => j = db_) wa (wa.setCell ⟨db_, 2, none⟩ (.bool true)) := ((Ex.refl (fun j => j = db_) wa).setCell (p := ⟨db_, 2, none⟩) (.inl rfl) (.bool true))
  clear cdb_2 fdb_2
  generalize (wa.setCell ⟨db_, 2, none⟩ (.bool true)) = wb at hx hb ⊢
  clear B_db_
  have HX_wb := Lib.hid hx
  clear hx
  have B_db_ := Lib.hid hb
  clear hb
  have cdb_2 := row_cell (k := 2) (v := .bool true) B_db_.out rfl
  have hS0 : Ex (fun _ => False) wb wb.drew := (Ex.refl _ wb).drew
  refine wp_region_held_drew (S := fun W => Ex (fun _ => False) wb W) (by kernel_rfl) hS0 (fun _ => ?_)
  refine wpAnyH_take (i := 0) (oi := { dst := some 48, op := Go.Op.fieldAddr 25 (Go.Operand.tmp 3) 2, type := 0, pos := "udp.go:66", after := #[], guard := none }) (v := ?v1) rfl (by kernel_rfl) (by kernel_rfl) (by kernel_rfl) (fun _ _ _ h => h) (Or.inl ⟨by rfl, ?hy1⟩) (by assumption) ?rest1
  case hy1 => (intro w hSw; (try dsimp only at hSw); have ecdb_2 := hSw.cell cdb_2 id; go_simp <;> with_reducible rfl)
  try simp only [Act.put, List.setIfInBounds_toArray, List.set_cons_zero, List.set_cons_succ]
  refine wpAnyH_take (i := 1) (oi := { dst := some 49, op := Go.Op.load 4 (Go.Operand.tmp 48), type := 4, pos := "udp.go:66", after := #[{ on := 0, ground := Go.Ground.data }], guard := none }) (v := ?v2) rfl (by kernel_rfl) (by kernel_rfl) (by kernel_rfl) (fun _ _ _ h => h) (Or.inl ⟨by rfl, ?hy2⟩) (by assumption) ?rest2
  case hy2 => (intro w hSw; (try dsimp only at hSw); have ecdb_2 := hSw.cell cdb_2 id; go_simp <;> with_reducible rfl)
  try simp only [Act.put, List.setIfInBounds_toArray, List.set_cons_zero, List.set_cons_succ]
  refine wpAnyH_take (i := 2) (oi := { dst := some 50, op := Go.Op.unOp Go.UnOp.not 4 (Go.Operand.tmp 49), type := 4, pos := "udp.go:66", after := #[{ on := 1, ground := Go.Ground.data }], guard := none }) (v := ?v3) rfl (by kernel_rfl) (by kernel_rfl) (by kernel_rfl) (fun _ _ _ h => h) (Or.inl ⟨by rfl, ?hy3⟩) (by assumption) ?rest3
  case hy3 => (intro w hSw; (try dsimp only at hSw); have ecdb_2 := hSw.cell cdb_2 id; go_simp <;> with_reducible rfl)
  try simp only [Act.put, List.setIfInBounds_toArray, List.set_cons_zero, List.set_cons_succ]
  refine wpAnyH_take (i := 3) (oi := { dst := some 51, op := Go.Op.move (Go.Operand.tmp 50), type := 4, pos := "udp.go:66", after := #[{ on := 2, ground := Go.Ground.data }], guard := none }) (v := ?v4) rfl (by kernel_rfl) (by kernel_rfl) (by kernel_rfl) (fun _ _ _ h => h) (Or.inl ⟨by rfl, ?hy4⟩) (by assumption) ?rest4
  case hy4 => (intro w hSw; (try dsimp only at hSw); have ecdb_2 := hSw.cell cdb_2 id; go_simp <;> with_reducible rfl)
  try simp only [Act.put, List.setIfInBounds_toArray, List.set_cons_zero, List.set_cons_succ]
  refine wpAnyH_take (i := 4) (oi := { dst := some 52, op := Go.Op.load 32 (Go.Operand.tmp 1), type := 32, pos := "udp.go:66", after := #[{ on := 3, ground := Go.Ground.guard }], guard := some (3, true) }) (v := undef) rfl (by kernel_rfl) (by kernel_rfl) (by kernel_rfl) (fun _ _ _ h => h) (Or.inr ⟨by rfl, rfl⟩) (by assumption) ?rest5
  try simp only [Act.put, List.setIfInBounds_toArray, List.set_cons_zero, List.set_cons_succ]
  refine wpAnyH_take (i := 5) (oi := { dst := some 53, op := Go.Op.load 32 (Go.Operand.tmp 2), type := 32, pos := "udp.go:66", after := #[{ on := 3, ground := Go.Ground.guard }], guard := some (3, true) }) (v := undef) rfl (by kernel_rfl) (by kernel_rfl) (by kernel_rfl) (fun _ _ _ h => h) (Or.inr ⟨by rfl, rfl⟩) (by assumption) ?rest6
  try simp only [Act.put, List.setIfInBounds_toArray, List.set_cons_zero, List.set_cons_succ]
  refine wpAnyH_take (i := 6) (oi := { dst := some 54, op := Go.Op.move (Go.Operand.tmp 6), type := 3, pos := "udp.go:66", after := #[{ on := 3, ground := Go.Ground.guard }], guard := some (3, true) }) (v := undef) rfl (by kernel_rfl) (by kernel_rfl) (by kernel_rfl) (fun _ _ _ h => h) (Or.inr ⟨by rfl, rfl⟩) (by assumption) ?rest7
  try simp only [Act.put, List.setIfInBounds_toArray, List.set_cons_zero, List.set_cons_succ]
  refine wpAnyH_take (i := 7) (oi := { dst := some 55, op := Go.Op.call { callee := Go.Callee.value (Go.Operand.func 43), args := #[Go.Operand.tmp 52, Go.Operand.tmp 53, Go.Operand.const (Go.Value.int Go.IntKind.u8 17), Go.Operand.tmp 54], argTypes := #[32, 32, 5, 3] }, type := 22, pos := "udp.go:66", after := #[{ on := 4, ground := Go.Ground.data }, { on := 5, ground := Go.Ground.data }, { on := 6, ground := Go.Ground.data }, { on := 3, ground := Go.Ground.chain }, { on := 3, ground := Go.Ground.guard }], guard := some (3, true) }) (v := undef) rfl (by kernel_rfl) (by kernel_rfl) (by kernel_rfl) (fun _ _ _ h => h) (Or.inr ⟨by rfl, rfl⟩) (by assumption) ?rest8
  try simp only [Act.put, List.setIfInBounds_toArray, List.set_cons_zero, List.set_cons_succ]
  refine wpAnyH_take (i := 8) (oi := { dst := some 56, op := Go.Op.load 22 (Go.Operand.tmp 0), type := 22, pos := "udp.go:66", after := #[{ on := 3, ground := Go.Ground.guard }], guard := some (3, true) }) (v := undef) rfl (by kernel_rfl) (by kernel_rfl) (by kernel_rfl) (fun _ _ _ h => h) (Or.inr ⟨by rfl, rfl⟩) (by assumption) ?rest9
  try simp only [Act.put, List.setIfInBounds_toArray, List.set_cons_zero, List.set_cons_succ]
  refine wpAnyH_take (i := 9) (oi := { dst := some 57, op := Go.Op.move (Go.Operand.tmp 6), type := 3, pos := "udp.go:66", after := #[{ on := 3, ground := Go.Ground.guard }], guard := some (3, true) }) (v := undef) rfl (by kernel_rfl) (by kernel_rfl) (by kernel_rfl) (fun _ _ _ h => h) (Or.inr ⟨by rfl, rfl⟩) (by assumption) ?rest10
  try simp only [Act.put, List.setIfInBounds_toArray, List.set_cons_zero, List.set_cons_succ]
  refine wpAnyH_take (i := 10) (oi := { dst := some 58, op := Go.Op.slice 22 (Go.Operand.tmp 56) none (some (Go.Operand.tmp 57)) none, type := 22, pos := "udp.go:66", after := #[{ on := 8, ground := Go.Ground.data }, { on := 9, ground := Go.Ground.data }, { on := 3, ground := Go.Ground.guard }], guard := some (3, true) }) (v := undef) rfl (by kernel_rfl) (by kernel_rfl) (by kernel_rfl) (fun _ _ _ h => h) (Or.inr ⟨by rfl, rfl⟩) (by assumption) ?rest11
  try simp only [Act.put, List.setIfInBounds_toArray, List.set_cons_zero, List.set_cons_succ]
  refine wpAnyH_take (i := 11) (oi := { dst := some 59, op := Go.Op.buildSlice 112 2 #[(0, Go.Operand.tmp 55), (1, Go.Operand.tmp 58)], type := 112, pos := "udp.go:66", after := #[{ on := 7, ground := Go.Ground.data }, { on := 10, ground := Go.Ground.data }, { on := 3, ground := Go.Ground.guard }], guard := some (3, true) }) (v := undef) rfl (by kernel_rfl) (by kernel_rfl) (by kernel_rfl) (fun _ _ _ h => h) (Or.inr ⟨by rfl, rfl⟩) (by assumption) ?rest12
  try simp only [Act.put, List.setIfInBounds_toArray, List.set_cons_zero, List.set_cons_succ]
  refine wpAnyH_take (i := 12) (oi := { dst := some 60, op := Go.Op.call { callee := Go.Callee.value (Go.Operand.func 42), args := #[Go.Operand.tmp 59], argTypes := #[112] }, type := 4, pos := "udp.go:66", after := #[{ on := 11, ground := Go.Ground.data }, { on := 7, ground := Go.Ground.chain }, { on := 3, ground := Go.Ground.guard }], guard := some (3, true) }) (v := undef) rfl (by kernel_rfl) (by kernel_rfl) (by kernel_rfl) (fun _ _ _ h => h) (Or.inr ⟨by rfl, rfl⟩) (by assumption) ?rest13
  try simp only [Act.put, List.setIfInBounds_toArray, List.set_cons_zero, List.set_cons_succ]
  refine wpAnyH_take (i := 13) (oi := { dst := some 61, op := Go.Op.unOp Go.UnOp.not 4 (Go.Operand.tmp 60), type := 4, pos := "udp.go:66", after := #[{ on := 12, ground := Go.Ground.data }, { on := 3, ground := Go.Ground.guard }], guard := some (3, true) }) (v := undef) rfl (by kernel_rfl) (by kernel_rfl) (by kernel_rfl) (fun _ _ _ h => h) (Or.inr ⟨by rfl, rfl⟩) (by assumption) ?rest14
  try simp only [Act.put, List.setIfInBounds_toArray, List.set_cons_zero, List.set_cons_succ]
  refine wpAnyH_take (i := 14) (oi := { dst := some 62, op := Go.Op.pick (Go.Operand.tmp 51) (Go.Operand.tmp 61) (Go.Operand.const (Go.Value.bool false)), type := 4, pos := "udp.go:66", after := #[{ on := 3, ground := Go.Ground.data }, { on := 13, ground := Go.Ground.data }], guard := none }) (v := ?v15) rfl (by kernel_rfl) (by kernel_rfl) (by kernel_rfl) (fun _ _ _ h => h) (Or.inl ⟨by rfl, ?hy15⟩) (by assumption) ?rest15
  case hy15 => (intro w hSw; (try dsimp only at hSw); have ecdb_2 := hSw.cell cdb_2 id; go_simp <;> with_reducible rfl)
  try simp only [Act.put, List.setIfInBounds_toArray, List.set_cons_zero, List.set_cons_succ]
  refine wpAnyH_ready (rs := [15]) (by kernel_rfl) (by simp) ?_
  refine AllReadyH.cons (o := { dst := some 63, op := Go.Op.call { callee := Go.Callee.value (Go.Operand.func 41), args := #[Go.Operand.tmp 62, Go.Operand.const (Go.Value.int Go.IntKind.i64 4)], argTypes := #[4, 44] }, type := 0, pos := "udp.go:66", after := #[{ on := 14, ground := Go.Ground.data }, { on := 12, ground := Go.Ground.chain }], guard := none }) rfl (fun K hK => ?_) AllReadyH.nil
  go_simp
  refine (check_no 4 _).mono ?_
  rintro e we ⟨rfl, hwe⟩
  have hS1 : Ex (fun _ => False) wb we := by rw [← hwe]; exact hS0
  refine hK.out _ _ hS1 (fun _ => ?_)
  refine wpAnyH_done (by kernel_rfl) ?_ _
  have hx := hS1
  clear hS0 hS1 cdb_2
  have HX_we := Lib.hid hx
  clear hx
  replace HR3 := Lib.hid (RD.keep (RD.keep (RD.keep (RD.keep (RD.keep (RD.keep (RD.keep (RD.keep HR3.out (HX_w4.out.andThen HX_w5.out (fun i hi e => by have := hb_p2; omega)) id (fun _ => id)) HX_w6.out ne_db__p1.symm (fun _ => ne_db__g1.symm)) HX_w7.out ne_p1_p2 (fun _ => ne_g1_p2)) HX_w8.out ne_db__p1.symm (fun _ => ne_db__g1.symm)) HX_w9.out ne_p1_p2 (fun _ => ne_g1_p2)) HX_wa.out ne_p1_p2 (fun _ => ne_g1_p2)) HX_wb.out ne_db__p1.symm (fun _ => ne_db__g1.symm)) HX_we.out id (fun _ => id))
  clear hd1 hd2 hwz
  obtain ⟨m, rfl⟩ : ∃ m, sz = m + 8 := ⟨sz - 8, by have := HZ8.out; omega⟩
  have hml : m ≤ (l.drop 8).length := by have := HZLE.out; rw [List.length_drop]; omega
  have HML := Lib.hid hml
  have hwm : wrap64 (m : Int) = (m : Int) := by have := HSZL.out; unfold wrap64; omega
  clear hml
  go_wp2_with fail
  refine (rbytes_any p1 g1 _ (l.drop 8) m we HR3.out HML.out).mono ?_
  rintro e wc ⟨u, rfl, A9, rfl, hA9, hb9, _, hx⟩
  have HA9 := Lib.hid hA9
  clear hA9
  clear hwm
  have HX_wc := Lib.hid hx
  clear hx
  have HB9 := Lib.hid hb9
  clear hb9
  go_wp2_with fail
  refine (mustb_ok A9 m m wc).mono ?_
  rintro e _ ⟨rfl, rfl⟩
  replace B_db_ := Lib.hid ((HX_wc.out.block db_ (row_lt ((HX_we.out.block db_ (row_lt B_db_.out) id).trans B_db_.out)) ne_db__p1).trans ((HX_we.out.block db_ (row_lt B_db_.out) id).trans B_db_.out))
  have cdb_3 := row_cell (k := 3) (v := .slice none 0 0) B_db_.out rfl
  have fdb_3 := row_frozen B_db_.out 3
  go_upto_region 11 with fail
  have hb : (wc.setCell ⟨db_, 3, none⟩ (.slice A9 m m)).heap[db_]? = some (.cells #[.int .u16 (nb [x0, x1] : Int), .int .u16 (nb [x2, x3] : Int), .bool true, .slice A9 m m] 25) := (row_set B_db_.out 3 (.slice A9 m m))
  have hx : Ex (fun j => j = db_) wc (wc.setCell ⟨db_, 3, none⟩ (.slice A9 m m)) := ((Ex.refl (fun j => j = db_) wc).setCell (p := ⟨db_, 3, none⟩) (.inl rfl) (.slice A9 m m))
  clear cdb_3 fdb_3
  generalize (wc.setCell ⟨db_, 3, none⟩ (.slice A9 m m)) = wd at hx hb ⊢
  clear B_db_
  have HX_wd := Lib.hid hx
  clear hx
  have B_db_ := Lib.hid hb
  clear hb
  replace HB9 := Lib.hid (RB.keep HB9.out HX_wd.out (fun k _ hk e => ne_db__g1.symm (hk.symm.trans e)))
  have cdb_0 := row_cell (k := 0) (v := .int .u16 (nb [x0, x1] : Int)) B_db_.out rfl
  have cdb_1 := row_cell (k := 1) (v := .int .u16 (nb [x2, x3] : Int)) B_db_.out rfl
  have cdb_2 := row_cell (k := 2) (v := .bool true) B_db_.out rfl
  have cdb_3 := row_cell (k := 3) (v := .slice A9 m m) B_db_.out rfl
  have fdb_0 := row_frozen B_db_.out 0
  have fdb_1 := row_frozen B_db_.out 1
  have fdb_2 := row_frozen B_db_.out 2
  have fdb_3 := row_frozen B_db_.out 3
  go_wp2_with fail
  (try simp only [Exit.inBlock, Exit.then])
  have r0 : (wd.setCell ⟨db_, 0, none⟩ (.int .u16 (nb [x0, x1] : Int))).heap[db_]? = some (.cells #[.int .u16 (nb [x0, x1] : Int), .int .u16 (nb [x2, x3] : Int), .bool true, .slice A9 m m] 25) := row_set B_db_.out 0 (.int .u16 (nb [x0, x1] : Int))
  have r1 : ((wd.setCell ⟨db_, 0, none⟩ (.int .u16 (nb [x0, x1] : Int))).setCell ⟨db_, 1, none⟩ (.int .u16 (nb [x2, x3] : Int))).heap[db_]? = some (.cells #[.int .u16 (nb [x0, x1] : Int), .int .u16 (nb [x2, x3] : Int), .bool true, .slice A9 m m] 25) := row_set r0 1 (.int .u16 (nb [x2, x3] : Int))
  clear r0
  have r2 : (((wd.setCell ⟨db_, 0, none⟩ (.int .u16 (nb [x0, x1] : Int))).setCell ⟨db_, 1, none⟩ (.int .u16 (nb [x2, x3] : Int))).setCell ⟨db_, 2, none⟩ (.bool true)).heap[db_]? = some (.cells #[.int .u16 (nb [x0, x1] : Int), .int .u16 (nb [x2, x3] : Int), .bool true, .slice A9 m m] 25) := row_set r1 2 (.bool true)
  clear r1
  have r3 : ((((wd.setCell ⟨db_, 0, none⟩ (.int .u16 (nb [x0, x1] : Int))).setCell ⟨db_, 1, none⟩ (.int .u16 (nb [x2, x3] : Int))).setCell ⟨db_, 2, none⟩ (.bool true)).setCell ⟨db_, 3, none⟩ (.slice A9 m m)).heap[db_]? = some (.cells #[.int .u16 (nb [x0, x1] : Int), .int .u16 (nb [x2, x3] : Int), .bool true, .slice A9 m m] 25) := row_set r2 3 (.slice A9 m m)
  clear r2
  have hx : Ex (fun j => j = db_) wd ((((wd.setCell ⟨db_, 0, none⟩ (.int .u16 (nb [x0, x1] : Int))).setCell ⟨db_, 1, none⟩ (.int .u16 (nb [x2, x3] : Int))).setCell ⟨db_, 2, none⟩ (.bool true)).setCell ⟨db_, 3, none⟩ (.slice A9 m m)) := (((((Ex.refl (fun j => j = db_) wd).setCell (p := ⟨db_, 0, none⟩) (.inl rfl) (.int .u16 (nb [x0, x1] : Int))).setCell (p := ⟨db_, 1, none⟩) (.inl rfl) (.int .u16 (nb [x2, x3] : Int))).setCell (p := ⟨db_, 2, none⟩) (.inl rfl) (.bool true)).setCell (p := ⟨db_, 3, none⟩) (.inl rfl) (.slice A9 m m))
  clear cdb_0 cdb_1 cdb_2 cdb_3 fdb_0 fdb_1 fdb_2 fdb_3
  generalize ((((wd.setCell ⟨db_, 0, none⟩ (.int .u16 (nb [x0, x1] : Int))).setCell ⟨db_, 1, none⟩ (.int .u16 (nb [x2, x3] : Int))).setCell ⟨db_, 2, none⟩ (.bool true)).setCell ⟨db_, 3, none⟩ (.slice A9 m m)) = wz at r3 hx ⊢
  replace B_db_ := Lib.hid r3
  clear r3
  have HX_wz := Lib.hid hx
  clear hx
  replace HB9 := Lib.hid (RB.keep HB9.out HX_wz.out (fun k _ hk e => ne_db__g1.symm (hk.symm.trans e)))
  have hgz2 : g1 < wz.heap.size := by have h0 := HG1.out; have h1 := HX_w3.out.size; have h2 := HX_w4.out.size; have h3 := HX_w5.out.size; have h4 := HX_w6.out.size; have h5 := HX_w7.out.size; have h6 := HX_w8.out.size; have h7 := HX_w9.out.size; have h8 := HX_wa.out.size; have h9 := HX_wb.out.size; have h10 := HX_we.out.size; have h11 := HX_wc.out.size; have h12 := HX_wd.out.size; have h13 := HX_wz.out.size; omega
  have HRBZ := Lib.hid hgz2
  have hzz := HX_w1.out.size
  have hbl : (l.drop 8).take m = (l.take (m + 8)).drop 8 := by rw [List.drop_take, show m + 8 - 8 = m by omega]
  have hbn : ((l.take (m + 8)).drop 8).length = m := by have := HZLE.out; rw [List.length_drop, List.length_take]; omega
  have hb9 := HB9.out
  rw [hbl] at hb9
  rw [hbn]
  have hrb : RB wz (fun j => w.heap.size ≤ j) (.slice A9 m m) ((l.take (m + 8)).drop 8) := hb9.mono (fun k _ h => by omega)
  have hwr : WrB w wz A9 ((l.take (m + 8)).drop 8) := by
    intro hne
    rcases HA9.out with h | h
    · rw [← hbl, h] at hne; exact absurd (by simp) hne
    · have hgz := HG1.out
      have hzw := HX_w1.out.size
      exact ⟨g1, _, h, by omega, (by have := HRBZ.out; omega), (fun x => (HX_wz.out.frozen (p := ⟨g1, x, none⟩) (show g1 < wd.heap.size by have h0 := HG1.out; have h3 := HX_w3.out.size; have h4 := HX_w4.out.size; have h5 := HX_w5.out.size; have h6 := HX_w6.out.size; have h7 := HX_w7.out.size; have h8 := HX_w8.out.size; have h9 := HX_w9.out.size; have h10 := HX_wa.out.size; have h11 := HX_wb.out.size; have h12 := HX_we.out.size; have h13 := HX_wc.out.size; have h14 := HX_wd.out.size; omega) ne_db__g1.symm).trans ((fun x => (HX_wd.out.frozen (p := ⟨g1, x, none⟩) (show g1 < wc.heap.size by have h0 := HG1.out; have h3 := HX_w3.out.size; have h4 := HX_w4.out.size; have h5 := HX_w5.out.size; have h6 := HX_w6.out.size; have h7 := HX_w7.out.size; have h8 := HX_w8.out.size; have h9 := HX_w9.out.size; have h10 := HX_wa.out.size; have h11 := HX_wb.out.size; have h12 := HX_we.out.size; have h13 := HX_wc.out.size; omega) ne_db__g1.symm).trans ((fun x => (HX_wc.out.frozen (p := ⟨g1, x, none⟩) (show g1 < we.heap.size by have h0 := HG1.out; have h3 := HX_w3.out.size; have h4 := HX_w4.out.size; have h5 := HX_w5.out.size; have h6 := HX_w6.out.size; have h7 := HX_w7.out.size; have h8 := HX_w8.out.size; have h9 := HX_w9.out.size; have h10 := HX_wa.out.size; have h11 := HX_wb.out.size; have h12 := HX_we.out.size; omega) ne_g1_p1).trans ((fun x => (HX_we.out.frozen (p := ⟨g1, x, none⟩) (show g1 < wb.heap.size by have h0 := HG1.out; have h3 := HX_w3.out.size; have h4 := HX_w4.out.size; have h5 := HX_w5.out.size; have h6 := HX_w6.out.size; have h7 := HX_w7.out.size; have h8 := HX_w8.out.size; have h9 := HX_w9.out.size; have h10 := HX_wa.out.size; have h11 := HX_wb.out.size; omega) id).trans ((fun x => (HX_wb.out.frozen (p := ⟨g1, x, none⟩) (show g1 < wa.heap.size by have h0 := HG1.out; have h3 := HX_w3.out.size; have h4 := HX_w4.out.size; have h5 := HX_w5.out.size; have h6 := HX_w6.out.size; have h7 := HX_w7.out.size; have h8 := HX_w8.out.size; have h9 := HX_w9.out.size; have h10 := HX_wa.out.size; omega) ne_db__g1.symm).trans ((fun x => (HX_wa.out.frozen (p := ⟨g1, x, none⟩) (show g1 < w9.heap.size by have h0 := HG1.out; have h3 := HX_w3.out.size; have h4 := HX_w4.out.size; have h5 := HX_w5.out.size; have h6 := HX_w6.out.size; have h7 := HX_w7.out.size; have h8 := HX_w8.out.size; have h9 := HX_w9.out.size; omega) ne_g1_p2).trans ((fun x => (HX_w9.out.frozen (p := ⟨g1, x, none⟩) (show g1 < w8.heap.size by have h0 := HG1.out; have h3 := HX_w3.out.size; have h4 := HX_w4.out.size; have h5 := HX_w5.out.size; have h6 := HX_w6.out.size; have h7 := HX_w7.out.size; have h8 := HX_w8.out.size; omega) ne_g1_p2).trans ((fun x => (HX_w8.out.frozen (p := ⟨g1, x, none⟩) (show g1 < w7.heap.size by have h0 := HG1.out; have h3 := HX_w3.out.size; have h4 := HX_w4.out.size; have h5 := HX_w5.out.size; have h6 := HX_w6.out.size; have h7 := HX_w7.out.size; omega) ne_db__g1.symm).trans ((fun x => (HX_w7.out.frozen (p := ⟨g1, x, none⟩) (show g1 < w6.heap.size by have h0 := HG1.out; have h3 := HX_w3.out.size; have h4 := HX_w4.out.size; have h5 := HX_w5.out.size; have h6 := HX_w6.out.size; omega) ne_g1_p2).trans ((fun x => (HX_w6.out.frozen (p := ⟨g1, x, none⟩) (show g1 < w5.heap.size by have h0 := HG1.out; have h3 := HX_w3.out.size; have h4 := HX_w4.out.size; have h5 := HX_w5.out.size; omega) ne_db__g1.symm).trans ((fun x => ((HX_w4.out.andThen HX_w5.out (fun i hi e => by have := hb_p2; omega)).frozen (p := ⟨g1, x, none⟩) (show g1 < w3.heap.size by have h0 := HG1.out; have h3 := HX_w3.out.size; omega) id).trans ((fun x => (HX_w3.out.frozen (p := ⟨g1, x, none⟩) (show g1 < w2.heap.size by have h0 := HG1.out; omega) ne_g1_p1).trans (HFZ.out x)) x)) x)) x)) x)) x)) x)) x)) x)) x)) x)) x))⟩
  refine bodyPost_ret (v := .agg #[.int .u16 (nb [x0, x1] : Int), .int .u16 (nb [x2, x3] : Int), .bool true, .slice A9 m m]) ?_ rfl ⟨A9, rfl, hrb, hwr, ((((((((((((((HX_w1.out.trans HX_w2.out).andThen HX_w3.out (fun i hi e => by have := HX_w1.out.size; have := hb_p1; omega)).trans HX_w4.out).andThen HX_w5.out (fun i hi e => by have := ((HX_w1.out.trans HX_w2.out).andThen HX_w3.out (fun i hi e => by have := HX_w1.out.size; have := hb_p1; omega)).size; have := hb_p2; omega)).andThen HX_w6.out (fun i hi e => by have := hb_db_; omega)).andThen HX_w7.out (fun i hi e => by have := ((HX_w1.out.trans HX_w2.out).andThen HX_w3.out (fun i hi e => by have := HX_w1.out.size; have := hb_p1; omega)).size; have := hb_p2; omega)).andThen HX_w8.out (fun i hi e => by have := hb_db_; omega)).andThen HX_w9.out (fun i hi e => by have := ((HX_w1.out.trans HX_w2.out).andThen HX_w3.out (fun i hi e => by have := HX_w1.out.size; have := hb_p1; omega)).size; have := hb_p2; omega)).andThen HX_wa.out (fun i hi e => by have := ((HX_w1.out.trans HX_w2.out).andThen HX_w3.out (fun i hi e => by have := HX_w1.out.size; have := hb_p1; omega)).size; have := hb_p2; omega)).andThen HX_wb.out (fun i hi e => by have := hb_db_; omega)).trans HX_we.out).andThen HX_wc.out (fun i hi e => by have := HX_w1.out.size; have := hb_p1; omega)).andThen HX_wd.out (fun i hi e => by have := hb_db_; omega)).andThen HX_wz.out (fun i hi e => by have := hb_db_; omega))⟩
  exact results_cell_row (p := 3) rfl _ _ db_ 25 #[.int .u16 (nb [x0, x1] : Int), .int .u16 (nb [x2, x3] : Int), .bool true, .slice A9 m m] (0, 0) _ rfl B_db_.out Tryd.underlying25 rfl dg_size
set_option maxRecDepth 100000 in
set_option maxHeartbeats 8000000 in
theorem pclo_yesW (P : Nat → Prop) (pb ps pt : Nat) (A : Option Addr) (n c : Nat) (l : List UInt8) (s t : Int) (w : World) (hB : w.cell? ⟨pb, 0, none⟩ = some (.slice A n c)) (hS : w.cell? ⟨ps, 0, none⟩ = some (.int .u32 s)) (hT : w.cell? ⟨pt, 0, none⟩ = some (.int .u32 t)) (hr : RB w P (.slice A n c) l) (hA : A = none → c = 0) (hl : l.length ≤ 1000000000) (h8 : 8 ≤ l.length) (hz8 : 8 ≤ dsz l) (hzl : dsz l ≤ l.length) (hpl : dsm l ≠ 0) (hs6 : 0 ≤ s ∧ s < 4294967296) (ht6 : 0 ≤ t ∧ t < 4294967296) (hsum : su (psd s t 17 (dsz l : Int) ++ l.take (dsz l)) = 0) :
    Calls Tryd.prog 35 #[.pointer (some ⟨pb, 0, none⟩), .pointer (some ⟨ps, 0, none⟩), .pointer (some ⟨pt, 0, none⟩)] w fun e w' => ∃ A', e = .returned (dgv (pd l) (.slice A' (pd l).b.length (pd l).b.length)) ∧ RB w' (fun j => w.heap.size ≤ j) (.slice A' (pd l).b.length (pd l).b.length) (pd l).b ∧ WrB w w' A' (pd l).b ∧ Ex (fun _ => False) w w' := by
  obtain rfl : n = l.length := by obtain ⟨_, _, _, e, _⟩ := hr; injection e
  obtain ⟨x0, x1, x2, x3, x4, x5, x6, x7, ht8, hz, hmm, hpm⟩ := eight6 h8
  have HT8 := Lib.hid ht8
  have hszl : dsz l ≤ 65535 := by rw [hz]; have := nb2_le x4 x5; omega
  have hsml : dsm l ≤ 65535 := by rw [hmm]; have := nb2_le x6 x7; omega
  obtain ⟨sz, hsz⟩ : ∃ k, k = dsz l := ⟨_, rfl⟩
  obtain ⟨sm, hsm⟩ : ∃ k, k = dsm l := ⟨_, rfl⟩
  rw [← hsz] at hz hpm hszl hz8 hzl hsum
  rw [← hsm] at hmm hpm hsml hpl
  have HZ := Lib.hid hz.symm
  have HMM := Lib.hid hmm.symm
  have HSZL := Lib.hid hszl
  have HSML := Lib.hid hsml
  have HPM := Lib.hid hpm
  have HSZ := Lib.hid hsz
  have hwz : wrap64 (sz : Int) = (sz : Int) := by have := HSZL.out; unfold wrap64; omega
  clear ht8 hz hmm hszl hsml hpm hsz hsm
  have hd1 : decide ((sz : Int) < 8) = false := by rw [decide_eq_false_iff_not]; omega
  have hd2 : decide (l.length < sz) = false := by rw [decide_eq_false_iff_not]; omega
  have HZ8 := Lib.hid hz8
  have HZLE := Lib.hid hzl
  clear hz8 hzl
  obtain ⟨PS, hPS⟩ : ∃ p, p = psd s t 17 (sz : Int) := ⟨_, rfl⟩
  have hpsl : PS.length = 12 := by rw [hPS, psd_len]
  rw [← hPS] at hsum
  have HPS := Lib.hid hPS
  have HPSL := Lib.hid hpsl
  have HS6 := Lib.hid hs6
  have HT6 := Lib.hid ht6
  have hd3 : ((sm : Int) == 0) = false := by rw [beq_eq_false_iff_ne]; omega
  have hdp : decide (sm = 0) = false := by rw [decide_eq_false_iff_not]; exact hpl
  have hd4 : decide (su (PS ++ l.take sz) = 0) = true := by rw [decide_eq_true_eq]; exact hsum
  have HD4 := Lib.hid hd4
  have hpm := HPM.out
  rw [hdp] at hpm
  rw [hpm]
  clear hPS hpsl hsum hs6 ht6 hpl hdp hd4 hpm HPM
  have HR := Lib.hid hr
  have HA := Lib.hid hA
  have CB := Lib.hid hB
  have CS := Lib.hid hS
  have CT := Lib.hid hT
  have HL := Lib.hid hl
  clear hr hA hB hS hT hl
  go_enter Tryd.func35, Tryd.ntmps35
  go_upto_region 1 with fail
  have hx : Ex (fun _ => False) w (w.alloc (.cells #[.int .u16 0, .int .u16 0, .bool false, .slice none 0 0] 25)) := (Ex.refl _ w).alloc _
  have hb : (w.alloc (.cells #[.int .u16 0, .int .u16 0, .bool false, .slice none 0 0] 25)).heap[w.heap.size]? = some (.cells #[.int .u16 0, .int .u16 0, .bool false, .slice none 0 0] 25) := heap_alloc_new w _
  obtain ⟨db_, hdb_⟩ : ∃ db_, db_ = w.heap.size := ⟨_, rfl⟩
  have hb_db_ : w.heap.size ≤ db_ := by omega
  rw [← hdb_] at hb
  try simp only [← hdb_]
  generalize w.alloc (.cells #[.int .u16 0, .int .u16 0, .bool false, .slice none 0 0] 25) = w1 at hx hb ⊢
  clear hdb_
  have HX_w1 := Lib.hid hx
  clear hx
  have B_db_ := Lib.hid hb
  clear hb
  have hdbl := row_lt B_db_.out
  have qb := (HX_w1.out.cell CB.out id)
  go_wp2_with fail
  refine (read_anyF P A l.length c l w1 (RB.keep HR.out HX_w1.out (fun _ _ _ => id)) HA.out HL.out).mono ?_
  rintro e w2 ⟨p1, g1, rfl, hr2, hb_p1, hb_g1, hx, hfz⟩
  have HFZ := Lib.hid (hfz (by omega))
  have HG1 := Lib.hid (hr2.ltg (by omega))
  clear qb hfz
  have HX_w2 := Lib.hid hx
  clear hx
  have HR2 := Lib.hid hr2
  clear hr2
  have ne_db__p1 : db_ ≠ p1 := by omega
  have ne_db__g1 : db_ ≠ g1 := by omega
  have ne_g1_p1 := HR2.out.apart
  go_wp2_with fail
  refine (rbytes_any p1 g1 0 l 8 w2 HR2.out h8).mono ?_
  rintro e w3 ⟨u3, rfl, A3, rfl, hA3, hb3, hr3, hx⟩
  obtain rfl : A3 = some ⟨g1, 0, none⟩ := hA3.resolve_left (by intro h; subst h; simp at h8)
  clear hA3
  have HX_w3 := Lib.hid hx
  clear hx
  have HB3 := Lib.hid hb3
  have HR3 := Lib.hid hr3
  clear hb3 hr3 HR2
  have hrd := HB3.out
  rw [HT8.out] at hrd
  have HRD := Lib.hid hrd
  clear hrd
  go_wp2_with fail
  refine (mustb_ok (some ⟨g1, 0, none⟩) 8 8 w3).mono ?_
  rintro e _ ⟨rfl, rfl⟩
  go_wp2_with fail
  refine (read_anyF _ (some ⟨g1, 0, none⟩) 8 8 [x0, x1, x2, x3, x4, x5, x6, x7] w3 HRD.out (fun h => by cases h) (by simp)).mono ?_
  rintro e w4 ⟨p2, g2, rfl, hr4, hb_p2, hb_g2, hx, _⟩
  have hp1 := HR3.out.lt
  have hdb3 := row_lt (((HX_w2.out.andThen HX_w3.out (fun i hi e => by have := hb_p1; omega)).block db_ (row_lt B_db_.out) id).trans B_db_.out)
  have hg13 : g1 < w3.heap.size := by
    obtain ⟨_, _, _, _, _, h⟩ := HRD.out
    obtain ⟨b, off, e, hb, hc⟩ := h 0 (by simp)
    subst hb
    exact World.block_lt_of_cell? w3 _ hc
  have ne_p1_p2 : p1 ≠ p2 := by omega
  have ne_p1_g2 : p1 ≠ g2 := by omega
  have ne_db__p2 : db_ ≠ p2 := by omega
  have ne_db__g2 : db_ ≠ g2 := by omega
  have ne_g1_p2 : g1 ≠ p2 := by omega
  have ne_g1_g2 : g1 ≠ g2 := by omega
  have HX_w4 := Lib.hid hx
  clear hx
  have HR4 := Lib.hid hr4
  clear hr4 hp1 hdb3 hg13
  go_wp2_with fail
  refine (ru16_cons p2 g2 _ x0 x1 [x2, x3, x4, x5, x6, x7] w4 HR4.out).mono ?_
  rintro e w5 ⟨rfl, hr, hx⟩
  have HX_w5 := Lib.hid hx
  clear hx
  have HR_w5 := Lib.hid hr
  clear hr HR4
  go_wp2_with fail
  refine (must16_ok _ w5).mono ?_
  rintro e _ ⟨rfl, rfl⟩
  replace B_db_ := Lib.hid (((((HX_w2.out.andThen HX_w3.out (fun i hi e => by have := hb_p1; omega)).trans HX_w4.out).andThen HX_w5.out (fun i hi e => by have := (HX_w2.out.andThen HX_w3.out (fun i hi e => by have := hb_p1; omega)).size; have := hb_p2; omega)).block db_ (row_lt B_db_.out) id).trans B_db_.out)
  have cdb_0 := row_cell (k := 0) (v := .int .u16 0) B_db_.out rfl
  have fdb_0 := row_frozen B_db_.out 0
  go_upto_region 4 with fail
  have hb : (w5.setCell ⟨db_, 0, none⟩ (.int .u16 (nb [x0, x1] : Int))).heap[db_]? = some (.cells #[.int .u16 (nb [x0, x1] : Int), .int .u16 0, .bool false, .slice none 0 0] 25) := (row_set B_db_.out 0 (.int .u16 (nb [x0, x1] : Int)))
  have hx : Ex (fun j => j = db_) w5 (w5.setCell ⟨db_, 0, none⟩ (.int .u16 (nb [x0, x1] : Int))) := ((Ex.refl (fun j => j = db_) w5).setCell (p := ⟨db_, 0, none⟩) (.inl rfl) (.int .u16 (nb [x0, x1] : Int)))
  clear cdb_0 fdb_0
  generalize (w5.setCell ⟨db_, 0, none⟩ (.int .u16 (nb [x0, x1] : Int))) = w6 at hx hb ⊢
  clear B_db_
  have HX_w6 := Lib.hid hx
  clear hx
  have B_db_ := Lib.hid hb
  clear hb
  go_wp2_with fail
  refine (ru16_cons p2 g2 _ x2 x3 [x4, x5, x6, x7] w6 (RD.keep HR_w5.out HX_w6.out ne_db__p2.symm (fun _ => ne_db__g2.symm))).mono ?_
  rintro e w7 ⟨rfl, hr, hx⟩
  have HX_w7 := Lib.hid hx
  clear hx
  have HR_w7 := Lib.hid hr
  clear hr HR_w5
  go_wp2_with fail
  refine (must16_ok _ w7).mono ?_
  rintro e _ ⟨rfl, rfl⟩
  replace B_db_ := Lib.hid ((HX_w7.out.block db_ (row_lt B_db_.out) ne_db__p2).trans B_db_.out)
  have cdb_1 := row_cell (k := 1) (v := .int .u16 0) B_db_.out rfl
  have fdb_1 := row_frozen B_db_.out 1
  go_upto_region 5 with fail
  have hb : (w7.setCell ⟨db_, 1, none⟩ (.int .u16 (nb [x2, x3] : Int))).heap[db_]? = some (.cells #[.int .u16 (nb [x0, x1] : Int), .int .u16 (nb [x2, x3] : Int), .bool false, .slice none 0 0] 25) := (row_set B_db_.out 1 (.int .u16 (nb [x2, x3] : Int)))
  have hx : Ex (fun j => j = db_) w7 (w7.setCell ⟨db_, 1, none⟩ (.int .u16 (nb [x2, x3] : Int))) := ((Ex.refl (fun j => j = db_) w7).setCell (p := ⟨db_, 1, none⟩) (.inl rfl) (.int .u16 (nb [x2, x3] : Int)))
  clear cdb_1 fdb_1
  generalize (w7.setCell ⟨db_, 1, none⟩ (.int .u16 (nb [x2, x3] : Int))) = w8 at hx hb ⊢
  clear B_db_
  have HX_w8 := Lib.hid hx
  clear hx
  have B_db_ := Lib.hid hb
  clear hb
  go_wp2_with fail
  refine (ru16_cons p2 g2 _ x4 x5 [x6, x7] w8 (RD.keep HR_w7.out HX_w8.out ne_db__p2.symm (fun _ => ne_db__g2.symm))).mono ?_
  rintro e w9 ⟨rfl, hr, hx⟩
  have HX_w9 := Lib.hid hx
  clear hx
  have HR_w9 := Lib.hid hr
  clear hr HR_w7
  go_wp2_with fail
  refine (must16_ok _ w9).mono ?_
  rintro e _ ⟨rfl, rfl⟩
  rw [HZ.out]
  go_wp2_with fail
  refine (check_no 3 w9).mono ?_
  rintro e _ ⟨rfl, rfl⟩
  have qb := (((((((((HX_w1.out.trans HX_w2.out).andThen HX_w3.out (fun i hi e => by have := HX_w1.out.size; have := hb_p1; omega)).trans HX_w4.out).andThen HX_w5.out (fun i hi e => by have := ((HX_w1.out.trans HX_w2.out).andThen HX_w3.out (fun i hi e => by have := HX_w1.out.size; have := hb_p1; omega)).size; have := hb_p2; omega)).andThen HX_w6.out (fun i hi e => by have := hb_db_; omega)).andThen HX_w7.out (fun i hi e => by have := ((HX_w1.out.trans HX_w2.out).andThen HX_w3.out (fun i hi e => by have := HX_w1.out.size; have := hb_p1; omega)).size; have := hb_p2; omega)).andThen HX_w8.out (fun i hi e => by have := hb_db_; omega)).andThen HX_w9.out (fun i hi e => by have := ((HX_w1.out.trans HX_w2.out).andThen HX_w3.out (fun i hi e => by have := HX_w1.out.size; have := hb_p1; omega)).size; have := hb_p2; omega)).cell CB.out id)
  go_wp2_with fail
  refine (check_no 2 w9).mono ?_
  rintro e _ ⟨rfl, rfl⟩
  clear qb
  go_wp2_with fail
  refine (ru16_cons p2 g2 _ x6 x7 [] w9 HR_w9.out).mono ?_
  rintro e wa ⟨rfl, hr, hx⟩
  have HX_wa := Lib.hid hx
  clear hx
  have HR_wa := Lib.hid hr
  clear hr HR_w9
  go_wp2_with fail
  refine (must16_ok _ wa).mono ?_
  rintro e _ ⟨rfl, rfl⟩
  rw [HMM.out]
  replace B_db_ := Lib.hid ((HX_wa.out.block db_ (row_lt ((HX_w9.out.block db_ (row_lt B_db_.out) ne_db__p2).trans B_db_.out)) ne_db__p2).trans ((HX_w9.out.block db_ (row_lt B_db_.out) ne_db__p2).trans B_db_.out))
  have cdb_2 := row_cell (k := 2) (v := .bool false) B_db_.out rfl
  have fdb_2 := row_frozen B_db_.out 2
  go_upto_region 9 with fail
  have hb : (wa.setCell ⟨db_, 2, none⟩ (.bool false)).heap[db_]? = some (.cells #[.int .u16 (nb [x0, x1] : Int), .int .u16 (nb [x2, x3] : Int), .bool false, .slice none 0 0] 25) := (row_set B_db_.out 2 (.bool false))
  have hx : Ex (fun j => j = db_) wa (wa.setCell ⟨db_, 2, none⟩ (.bool false)) := ((Ex.refl (fun j => j = db_) wa).setCell (p := ⟨db_, 2, none⟩) (.inl rfl) (.bool false))
  clear cdb_2 fdb_2
  generalize (wa.setCell ⟨db_, 2, none⟩ (.bool false)) = wb at hx hb ⊢
  clear B_db_
  have HX_wb := Lib.hid hx
  clear hx
  have B_db_ := Lib.hid hb
  clear hb
  have cdb_2 := row_cell (k := 2) (v := .bool false) B_db_.out rfl
  have cb := (((((((((((HX_w1.out.trans HX_w2.out).andThen HX_w3.out (fun i hi e => by have := HX_w1.out.size; have := hb_p1; omega)).trans HX_w4.out).andThen HX_w5.out (fun i hi e => by have := ((HX_w1.out.trans HX_w2.out).andThen HX_w3.out (fun i hi e => by have := HX_w1.out.size; have := hb_p1; omega)).size; have := hb_p2; omega)).andThen HX_w6.out (fun i hi e => by have := hb_db_; omega)).andThen HX_w7.out (fun i hi e => by have := ((HX_w1.out.trans HX_w2.out).andThen HX_w3.out (fun i hi e => by have := HX_w1.out.size; have := hb_p1; omega)).size; have := hb_p2; omega)).andThen HX_w8.out (fun i hi e => by have := hb_db_; omega)).andThen HX_w9.out (fun i hi e => by have := ((HX_w1.out.trans HX_w2.out).andThen HX_w3.out (fun i hi e => by have := HX_w1.out.size; have := hb_p1; omega)).size; have := hb_p2; omega)).andThen HX_wa.out (fun i hi e => by have := ((HX_w1.out.trans HX_w2.out).andThen HX_w3.out (fun i hi e => by have := HX_w1.out.size; have := hb_p1; omega)).size; have := hb_p2; omega)).andThen HX_wb.out (fun i hi e => by have := hb_db_; omega)).cell CB.out id)
  have cs := (((((((((((HX_w1.out.trans HX_w2.out).andThen HX_w3.out (fun i hi e => by have := HX_w1.out.size; have := hb_p1; omega)).trans HX_w4.out).andThen HX_w5.out (fun i hi e => by have := ((HX_w1.out.trans HX_w2.out).andThen HX_w3.out (fun i hi e => by have := HX_w1.out.size; have := hb_p1; omega)).size; have := hb_p2; omega)).andThen HX_w6.out (fun i hi e => by have := hb_db_; omega)).andThen HX_w7.out (fun i hi e => by have := ((HX_w1.out.trans HX_w2.out).andThen HX_w3.out (fun i hi e => by have := HX_w1.out.size; have := hb_p1; omega)).size; have := hb_p2; omega)).andThen HX_w8.out (fun i hi e => by have := hb_db_; omega)).andThen HX_w9.out (fun i hi e => by have := ((HX_w1.out.trans HX_w2.out).andThen HX_w3.out (fun i hi e => by have := HX_w1.out.size; have := hb_p1; omega)).size; have := hb_p2; omega)).andThen HX_wa.out (fun i hi e => by have := ((HX_w1.out.trans HX_w2.out).andThen HX_w3.out (fun i hi e => by have := HX_w1.out.size; have := hb_p1; omega)).size; have := hb_p2; omega)).andThen HX_wb.out (fun i hi e => by have := hb_db_; omega)).cell CS.out id)
  have ct := (((((((((((HX_w1.out.trans HX_w2.out).andThen HX_w3.out (fun i hi e => by have := HX_w1.out.size; have := hb_p1; omega)).trans HX_w4.out).andThen HX_w5.out (fun i hi e => by have := ((HX_w1.out.trans HX_w2.out).andThen HX_w3.out (fun i hi e => by have := HX_w1.out.size; have := hb_p1; omega)).size; have := hb_p2; omega)).andThen HX_w6.out (fun i hi e => by have := hb_db_; omega)).andThen HX_w7.out (fun i hi e => by have := ((HX_w1.out.trans HX_w2.out).andThen HX_w3.out (fun i hi e => by have := HX_w1.out.size; have := hb_p1; omega)).size; have := hb_p2; omega)).andThen HX_w8.out (fun i hi e => by have := hb_db_; omega)).andThen HX_w9.out (fun i hi e => by have := ((HX_w1.out.trans HX_w2.out).andThen HX_w3.out (fun i hi e => by have := HX_w1.out.size; have := hb_p1; omega)).size; have := hb_p2; omega)).andThen HX_wa.out (fun i hi e => by have := ((HX_w1.out.trans HX_w2.out).andThen HX_w3.out (fun i hi e => by have := HX_w1.out.size; have := hb_p1; omega)).size; have := hb_p2; omega)).andThen HX_wb.out (fun i hi e => by have := hb_db_; omega)).cell CT.out id)
  have hszi : (sz : Int) ≤ (c : Int) := by have := HZLE.out; have h := HR.out; obtain ⟨_, _, _, e, h, _⟩ := h; injection e with _ _ e3; omega
  have hrt := (HR.out.keep ((((((((((HX_w1.out.trans HX_w2.out).andThen HX_w3.out (fun i hi e => by have := HX_w1.out.size; have := hb_p1; omega)).trans HX_w4.out).andThen HX_w5.out (fun i hi e => by have := ((HX_w1.out.trans HX_w2.out).andThen HX_w3.out (fun i hi e => by have := HX_w1.out.size; have := hb_p1; omega)).size; have := hb_p2; omega)).andThen HX_w6.out (fun i hi e => by have := hb_db_; omega)).andThen HX_w7.out (fun i hi e => by have := ((HX_w1.out.trans HX_w2.out).andThen HX_w3.out (fun i hi e => by have := HX_w1.out.size; have := hb_p1; omega)).size; have := hb_p2; omega)).andThen HX_w8.out (fun i hi e => by have := hb_db_; omega)).andThen HX_w9.out (fun i hi e => by have := ((HX_w1.out.trans HX_w2.out).andThen HX_w3.out (fun i hi e => by have := HX_w1.out.size; have := hb_p1; omega)).size; have := hb_p2; omega)).andThen HX_wa.out (fun i hi e => by have := ((HX_w1.out.trans HX_w2.out).andThen HX_w3.out (fun i hi e => by have := HX_w1.out.size; have := hb_p1; omega)).size; have := hb_p2; omega)).andThen HX_wb.out (fun i hi e => by have := hb_db_; omega)) (fun _ _ _ => id)).take sz
  have htl : (l.take sz).length = sz := by have := HZLE.out; rw [List.length_take]; omega
  rw [htl] at hrt
  have HRT := Lib.hid hrt
  have HTL := Lib.hid htl
  clear hrt htl
  have hS0 : Ex (fun _ => False) wb wb.drew := (Ex.refl _ wb).drew
  refine wp_region_held_drew (S := fun W => Ex (fun _ => False) wb W) (by kernel_rfl) hS0 (fun _ => ?_)
  refine wpAnyH_take (i := 0) (oi := { dst := some 48, op := Go.Op.fieldAddr 25 (Go.Operand.tmp 3) 2, type := 0, pos := "udp.go:66", after := #[], guard := none }) (v := ?v16) rfl (by kernel_rfl) (by kernel_rfl) (by kernel_rfl) (fun _ _ _ h => h) (Or.inl ⟨by rfl, ?hy16⟩) (by assumption) ?rest16
  case hy16 => (intro w hSw; (try dsimp only at hSw); have ecdb_2 := hSw.cell cdb_2 id; have ecb := hSw.cell cb id; have ecs := hSw.cell cs id; have ect := hSw.cell ct id; go_simp <;> with_reducible rfl)
  try simp only [Act.put, List.setIfInBounds_toArray, List.set_cons_zero, List.set_cons_succ]
  refine wpAnyH_take (i := 1) (oi := { dst := some 49, op := Go.Op.load 4 (Go.Operand.tmp 48), type := 4, pos := "udp.go:66", after := #[{ on := 0, ground := Go.Ground.data }], guard := none }) (v := ?v17) rfl (by kernel_rfl) (by kernel_rfl) (by kernel_rfl) (fun _ _ _ h => h) (Or.inl ⟨by rfl, ?hy17⟩) (by assumption) ?rest17
  case hy17 => (intro w hSw; (try dsimp only at hSw); have ecdb_2 := hSw.cell cdb_2 id; have ecb := hSw.cell cb id; have ecs := hSw.cell cs id; have ect := hSw.cell ct id; go_simp <;> with_reducible rfl)
  try simp only [Act.put, List.setIfInBounds_toArray, List.set_cons_zero, List.set_cons_succ]
  refine wpAnyH_take (i := 2) (oi := { dst := some 50, op := Go.Op.unOp Go.UnOp.not 4 (Go.Operand.tmp 49), type := 4, pos := "udp.go:66", after := #[{ on := 1, ground := Go.Ground.data }], guard := none }) (v := ?v18) rfl (by kernel_rfl) (by kernel_rfl) (by kernel_rfl) (fun _ _ _ h => h) (Or.inl ⟨by rfl, ?hy18⟩) (by assumption) ?rest18
  case hy18 => (intro w hSw; (try dsimp only at hSw); have ecdb_2 := hSw.cell cdb_2 id; have ecb := hSw.cell cb id; have ecs := hSw.cell cs id; have ect := hSw.cell ct id; go_simp <;> with_reducible rfl)
  try simp only [Act.put, List.setIfInBounds_toArray, List.set_cons_zero, List.set_cons_succ]
  refine wpAnyH_take (i := 3) (oi := { dst := some 51, op := Go.Op.move (Go.Operand.tmp 50), type := 4, pos := "udp.go:66", after := #[{ on := 2, ground := Go.Ground.data }], guard := none }) (v := ?v19) rfl (by kernel_rfl) (by kernel_rfl) (by kernel_rfl) (fun _ _ _ h => h) (Or.inl ⟨by rfl, ?hy19⟩) (by assumption) ?rest19
  case hy19 => (intro w hSw; (try dsimp only at hSw); have ecdb_2 := hSw.cell cdb_2 id; have ecb := hSw.cell cb id; have ecs := hSw.cell cs id; have ect := hSw.cell ct id; go_simp <;> with_reducible rfl)
  try simp only [Act.put, List.setIfInBounds_toArray, List.set_cons_zero, List.set_cons_succ]
  refine wpAnyH_take (i := 4) (oi := { dst := some 52, op := Go.Op.load 32 (Go.Operand.tmp 1), type := 32, pos := "udp.go:66", after := #[{ on := 3, ground := Go.Ground.guard }], guard := some (3, true) }) (v := ?v20) rfl (by kernel_rfl) (by kernel_rfl) (by kernel_rfl) (fun _ _ _ h => h) (Or.inl ⟨by rfl, ?hy20⟩) (by assumption) ?rest20
  case hy20 => (intro w hSw; (try dsimp only at hSw); have ecdb_2 := hSw.cell cdb_2 id; have ecb := hSw.cell cb id; have ecs := hSw.cell cs id; have ect := hSw.cell ct id; go_simp <;> with_reducible rfl)
  try simp only [Act.put, List.setIfInBounds_toArray, List.set_cons_zero, List.set_cons_succ]
  refine wpAnyH_take (i := 5) (oi := { dst := some 53, op := Go.Op.load 32 (Go.Operand.tmp 2), type := 32, pos := "udp.go:66", after := #[{ on := 3, ground := Go.Ground.guard }], guard := some (3, true) }) (v := ?v21) rfl (by kernel_rfl) (by kernel_rfl) (by kernel_rfl) (fun _ _ _ h => h) (Or.inl ⟨by rfl, ?hy21⟩) (by assumption) ?rest21
  case hy21 => (intro w hSw; (try dsimp only at hSw); have ecdb_2 := hSw.cell cdb_2 id; have ecb := hSw.cell cb id; have ecs := hSw.cell cs id; have ect := hSw.cell ct id; go_simp <;> with_reducible rfl)
  try simp only [Act.put, List.setIfInBounds_toArray, List.set_cons_zero, List.set_cons_succ]
  refine wpAnyH_take (i := 6) (oi := { dst := some 54, op := Go.Op.move (Go.Operand.tmp 6), type := 3, pos := "udp.go:66", after := #[{ on := 3, ground := Go.Ground.guard }], guard := some (3, true) }) (v := ?v22) rfl (by kernel_rfl) (by kernel_rfl) (by kernel_rfl) (fun _ _ _ h => h) (Or.inl ⟨by rfl, ?hy22⟩) (by assumption) ?rest22
  case hy22 => (intro w hSw; (try dsimp only at hSw); have ecdb_2 := hSw.cell cdb_2 id; have ecb := hSw.cell cb id; have ecs := hSw.cell cs id; have ect := hSw.cell ct id; go_simp <;> with_reducible rfl)
  try simp only [Act.put, List.setIfInBounds_toArray, List.set_cons_zero, List.set_cons_succ]
  refine wpAnyH_take (i := 8) (oi := { dst := some 56, op := Go.Op.load 22 (Go.Operand.tmp 0), type := 22, pos := "udp.go:66", after := #[{ on := 3, ground := Go.Ground.guard }], guard := some (3, true) }) (v := ?v23) rfl (by kernel_rfl) (by kernel_rfl) (by kernel_rfl) (fun _ _ _ h => h) (Or.inl ⟨by rfl, ?hy23⟩) (by assumption) ?rest23
  case hy23 => (intro w hSw; (try dsimp only at hSw); have ecdb_2 := hSw.cell cdb_2 id; have ecb := hSw.cell cb id; have ecs := hSw.cell cs id; have ect := hSw.cell ct id; go_simp <;> with_reducible rfl)
  try simp only [Act.put, List.setIfInBounds_toArray, List.set_cons_zero, List.set_cons_succ]
  refine wpAnyH_take (i := 9) (oi := { dst := some 57, op := Go.Op.move (Go.Operand.tmp 6), type := 3, pos := "udp.go:66", after := #[{ on := 3, ground := Go.Ground.guard }], guard := some (3, true) }) (v := ?v24) rfl (by kernel_rfl) (by kernel_rfl) (by kernel_rfl) (fun _ _ _ h => h) (Or.inl ⟨by rfl, ?hy24⟩) (by assumption) ?rest24
  case hy24 => (intro w hSw; (try dsimp only at hSw); have ecdb_2 := hSw.cell cdb_2 id; have ecb := hSw.cell cb id; have ecs := hSw.cell cs id; have ect := hSw.cell ct id; go_simp <;> with_reducible rfl)
  try simp only [Act.put, List.setIfInBounds_toArray, List.set_cons_zero, List.set_cons_succ]
  refine wpAnyH_take (i := 10) (oi := { dst := some 58, op := Go.Op.slice 22 (Go.Operand.tmp 56) none (some (Go.Operand.tmp 57)) none, type := 22, pos := "udp.go:66", after := #[{ on := 8, ground := Go.Ground.data }, { on := 9, ground := Go.Ground.data }, { on := 3, ground := Go.Ground.guard }], guard := some (3, true) }) (v := ?v25) rfl (by kernel_rfl) (by kernel_rfl) (by kernel_rfl) (fun _ _ _ h => h) (Or.inl ⟨by rfl, ?hy25⟩) (by assumption) ?rest25
  case hy25 => (intro w hSw; (try dsimp only at hSw); have ecdb_2 := hSw.cell cdb_2 id; have ecb := hSw.cell cb id; have ecs := hSw.cell cs id; have ect := hSw.cell ct id; go_simp <;> with_reducible rfl)
  try simp only [Act.put, List.setIfInBounds_toArray, List.set_cons_zero, List.set_cons_succ]
  refine wpAnyH_ready (rs := [7]) (by kernel_rfl) (by simp) ?_
  refine AllReadyH.cons (o := { dst := some 55, op := Go.Op.call { callee := Go.Callee.value (Go.Operand.func 43), args := #[Go.Operand.tmp 52, Go.Operand.tmp 53, Go.Operand.const (Go.Value.int Go.IntKind.u8 17), Go.Operand.tmp 54], argTypes := #[32, 32, 5, 3] }, type := 22, pos := "udp.go:66", after := #[{ on := 4, ground := Go.Ground.data }, { on := 5, ground := Go.Ground.data }, { on := 6, ground := Go.Ground.data }, { on := 3, ground := Go.Ground.chain }, { on := 3, ground := Go.Ground.guard }], guard := some (3, true) }) rfl (fun K hK => ?_) AllReadyH.nil
  go_simp
  refine (pseudo_any s t 17 (sz : Int) HS6.out HT6.out (by omega) (by have := HSZL.out; omega) _).mono ?_
  rintro e we ⟨v3, rfl, ho, hx⟩
  rw [← HPS.out] at ho
  have HO3 := Lib.hid ho.rb.any
  obtain ⟨A3, c3, rfl⟩ := ho.shape
  have hS1 := hS0.trans hx
  clear ho hx
  refine hK.out _ _ hS1 (fun _ => ?_)
  refine wpAnyH_ready (rs := [11]) (by kernel_rfl) (by simp) ?_
  refine AllReadyH.cons (o := { dst := some 59, op := Go.Op.buildSlice 112 2 #[(0, Go.Operand.tmp 55), (1, Go.Operand.tmp 58)], type := 112, pos := "udp.go:66", after := #[{ on := 7, ground := Go.Ground.data }, { on := 10, ground := Go.Ground.data }, { on := 3, ground := Go.Ground.guard }], guard := some (3, true) }) rfl (fun K hK => ?_) AllReadyH.nil
  go_simp
  have hS2 := hS1.alloc (.cells #[.slice A3 PS.length c3, .slice A sz c] 22)
  refine hK.out _ _ hS2 (fun _ => ?_)
  refine wpAnyH_ready (rs := [12]) (by kernel_rfl) (by simp) ?_
  refine AllReadyH.cons (o := { dst := some 60, op := Go.Op.call { callee := Go.Callee.value (Go.Operand.func 42), args := #[Go.Operand.tmp 59], argTypes := #[112] }, type := 4, pos := "udp.go:66", after := #[{ on := 11, ground := Go.Ground.data }, { on := 7, ground := Go.Ground.chain }, { on := 3, ground := Go.Ground.guard }], guard := some (3, true) }) rfl (fun K hK => ?_) AllReadyH.nil
  go_simp
  refine (valid2_any _ (.slice A3 PS.length c3) (.slice A sz c) PS (l.take sz) we _ _ (by simp) HO3.out (RB.any (HRT.out.keep hS1 (fun _ _ _ => id))) (by rw [HPSL.out, HTL.out]; have := HSZL.out; omega)).mono ?_
  rintro e wf ⟨rfl, hwf⟩
  have hS3 : Ex (fun _ => False) wb wf := by rw [← hwf]; exact hS2
  rw [HD4.out]
  refine hK.out _ _ hS3 (fun _ => ?_)
  refine wpAnyH_take (i := 13) (oi := { dst := some 61, op := Go.Op.unOp Go.UnOp.not 4 (Go.Operand.tmp 60), type := 4, pos := "udp.go:66", after := #[{ on := 12, ground := Go.Ground.data }, { on := 3, ground := Go.Ground.guard }], guard := some (3, true) }) (v := ?v26) rfl (by kernel_rfl) (by kernel_rfl) (by kernel_rfl) (fun _ _ _ h => h) (Or.inl ⟨by rfl, ?hy26⟩) (by assumption) ?rest26
  case hy26 => (intro w hSw; (try dsimp only at hSw); have ecdb_2 := hSw.cell cdb_2 id; have ecb := hSw.cell cb id; have ecs := hSw.cell cs id; have ect := hSw.cell ct id; go_simp <;> with_reducible rfl)
  try simp only [Act.put, List.setIfInBounds_toArray, List.set_cons_zero, List.set_cons_succ]
  refine wpAnyH_take (i := 14) (oi := { dst := some 62, op := Go.Op.pick (Go.Operand.tmp 51) (Go.Operand.tmp 61) (Go.Operand.const (Go.Value.bool false)), type := 4, pos := "udp.go:66", after := #[{ on := 3, ground := Go.Ground.data }, { on := 13, ground := Go.Ground.data }], guard := none }) (v := ?v27) rfl (by kernel_rfl) (by kernel_rfl) (by kernel_rfl) (fun _ _ _ h => h) (Or.inl ⟨by rfl, ?hy27⟩) (by assumption) ?rest27
  case hy27 => (intro w hSw; (try dsimp only at hSw); have ecdb_2 := hSw.cell cdb_2 id; have ecb := hSw.cell cb id; have ecs := hSw.cell cs id; have ect := hSw.cell ct id; go_simp <;> with_reducible rfl)
  try simp only [Act.put, List.setIfInBounds_toArray, List.set_cons_zero, List.set_cons_succ]
  refine wpAnyH_ready (rs := [15]) (by kernel_rfl) (by simp) ?_
  refine AllReadyH.cons (o := { dst := some 63, op := Go.Op.call { callee := Go.Callee.value (Go.Operand.func 41), args := #[Go.Operand.tmp 62, Go.Operand.const (Go.Value.int Go.IntKind.i64 4)], argTypes := #[4, 44] }, type := 0, pos := "udp.go:66", after := #[{ on := 14, ground := Go.Ground.data }, { on := 12, ground := Go.Ground.chain }], guard := none }) rfl (fun K hK => ?_) AllReadyH.nil
  go_simp
  refine (check_no 4 _).mono ?_
  rintro e wg ⟨rfl, hwg⟩
  have hS4 : Ex (fun _ => False) wb wg := by rw [← hwg]; exact hS3
  refine hK.out _ _ hS4 (fun _ => ?_)
  refine wpAnyH_done (by kernel_rfl) ?_ _
  have hx := hS4
  clear hS0 hS1 hS2 hS3 hS4 hszi cdb_2 cb cs ct
  have HX_wg := Lib.hid hx
  clear hx
  replace HR3 := Lib.hid (RD.keep (RD.keep (RD.keep (RD.keep (RD.keep (RD.keep (RD.keep (RD.keep HR3.out (HX_w4.out.andThen HX_w5.out (fun i hi e => by have := hb_p2; omega)) id (fun _ => id)) HX_w6.out ne_db__p1.symm (fun _ => ne_db__g1.symm)) HX_w7.out ne_p1_p2 (fun _ => ne_g1_p2)) HX_w8.out ne_db__p1.symm (fun _ => ne_db__g1.symm)) HX_w9.out ne_p1_p2 (fun _ => ne_g1_p2)) HX_wa.out ne_p1_p2 (fun _ => ne_g1_p2)) HX_wb.out ne_db__p1.symm (fun _ => ne_db__g1.symm)) HX_wg.out id (fun _ => id))
  clear hd1 hd2 hwz
  obtain ⟨m, rfl⟩ : ∃ m, sz = m + 8 := ⟨sz - 8, by have := HZ8.out; omega⟩
  have hml : m ≤ (l.drop 8).length := by have := HZLE.out; rw [List.length_drop]; omega
  have HML := Lib.hid hml
  have hwm : wrap64 (m : Int) = (m : Int) := by have := HSZL.out; unfold wrap64; omega
  clear hml
  go_wp2_with fail
  refine (rbytes_any p1 g1 _ (l.drop 8) m wg HR3.out HML.out).mono ?_
  rintro e wc ⟨u, rfl, A9, rfl, hA9, hb9, _, hx⟩
  have HA9 := Lib.hid hA9
  clear hA9
  clear hwm
  have HX_wc := Lib.hid hx
  clear hx
  have HB9 := Lib.hid hb9
  clear hb9
  go_wp2_with fail
  refine (mustb_ok A9 m m wc).mono ?_
  rintro e _ ⟨rfl, rfl⟩
  replace B_db_ := Lib.hid ((HX_wc.out.block db_ (row_lt ((HX_wg.out.block db_ (row_lt B_db_.out) id).trans B_db_.out)) ne_db__p1).trans ((HX_wg.out.block db_ (row_lt B_db_.out) id).trans B_db_.out))
  have cdb_3 := row_cell (k := 3) (v := .slice none 0 0) B_db_.out rfl
  have fdb_3 := row_frozen B_db_.out 3
  go_upto_region 11 with fail
  have hb : (wc.setCell ⟨db_, 3, none⟩ (.slice A9 m m)).heap[db_]? = some (.cells #[.int .u16 (nb [x0, x1] : Int), .int .u16 (nb [x2, x3] : Int), .bool false, .slice A9 m m] 25) := (row_set B_db_.out 3 (.slice A9 m m))
  have hx : Ex (fun j => j = db_) wc (wc.setCell ⟨db_, 3, none⟩ (.slice A9 m m)) := ((Ex.refl (fun j => j = db_) wc).setCell (p := ⟨db_, 3, none⟩) (.inl rfl) (.slice A9 m m))
  clear cdb_3 fdb_3
  generalize (wc.setCell ⟨db_, 3, none⟩ (.slice A9 m m)) = wd at hx hb ⊢
  clear B_db_
  have HX_wd := Lib.hid hx
  clear hx
  have B_db_ := Lib.hid hb
  clear hb
  replace HB9 := Lib.hid (RB.keep HB9.out HX_wd.out (fun k _ hk e => ne_db__g1.symm (hk.symm.trans e)))
  have cdb_0 := row_cell (k := 0) (v := .int .u16 (nb [x0, x1] : Int)) B_db_.out rfl
  have cdb_1 := row_cell (k := 1) (v := .int .u16 (nb [x2, x3] : Int)) B_db_.out rfl
  have cdb_2 := row_cell (k := 2) (v := .bool false) B_db_.out rfl
  have cdb_3 := row_cell (k := 3) (v := .slice A9 m m) B_db_.out rfl
  have fdb_0 := row_frozen B_db_.out 0
  have fdb_1 := row_frozen B_db_.out 1
  have fdb_2 := row_frozen B_db_.out 2
  have fdb_3 := row_frozen B_db_.out 3
  go_wp2_with fail
  (try simp only [Exit.inBlock, Exit.then])
  have r0 : (wd.setCell ⟨db_, 0, none⟩ (.int .u16 (nb [x0, x1] : Int))).heap[db_]? = some (.cells #[.int .u16 (nb [x0, x1] : Int), .int .u16 (nb [x2, x3] : Int), .bool false, .slice A9 m m] 25) := row_set B_db_.out 0 (.int .u16 (nb [x0, x1] : Int))
  have r1 : ((wd.setCell ⟨db_, 0, none⟩ (.int .u16 (nb [x0, x1] : Int))).setCell ⟨db_, 1, none⟩ (.int .u16 (nb [x2, x3] : Int))).heap[db_]? = some (.cells #[.int .u16 (nb [x0, x1] : Int), .int .u16 (nb [x2, x3] : Int), .bool false, .slice A9 m m] 25) := row_set r0 1 (.int .u16 (nb [x2, x3] : Int))
  clear r0
  have r2 : (((wd.setCell ⟨db_, 0, none⟩ (.int .u16 (nb [x0, x1] : Int))).setCell ⟨db_, 1, none⟩ (.int .u16 (nb [x2, x3] : Int))).setCell ⟨db_, 2, none⟩ (.bool false)).heap[db_]? = some (.cells #[.int .u16 (nb [x0, x1] : Int), .int .u16 (nb [x2, x3] : Int), .bool false, .slice A9 m m] 25) := row_set r1 2 (.bool false)
  clear r1
  have r3 : ((((wd.setCell ⟨db_, 0, none⟩ (.int .u16 (nb [x0, x1] : Int))).setCell ⟨db_, 1, none⟩ (.int .u16 (nb [x2, x3] : Int))).setCell ⟨db_, 2, none⟩ (.bool false)).setCell ⟨db_, 3, none⟩ (.slice A9 m m)).heap[db_]? = some (.cells #[.int .u16 (nb [x0, x1] : Int), .int .u16 (nb [x2, x3] : Int), .bool false, .slice A9 m m] 25) := row_set r2 3 (.slice A9 m m)
  clear r2
  have hx : Ex (fun j => j = db_) wd ((((wd.setCell ⟨db_, 0, none⟩ (.int .u16 (nb [x0, x1] : Int))).setCell ⟨db_, 1, none⟩ (.int .u16 (nb [x2, x3] : Int))).setCell ⟨db_, 2, none⟩ (.bool false)).setCell ⟨db_, 3, none⟩ (.slice A9 m m)) := (((((Ex.refl (fun j => j = db_) wd).setCell (p := ⟨db_, 0, none⟩) (.inl rfl) (.int .u16 (nb [x0, x1] : Int))).setCell (p := ⟨db_, 1, none⟩) (.inl rfl) (.int .u16 (nb [x2, x3] : Int))).setCell (p := ⟨db_, 2, none⟩) (.inl rfl) (.bool false)).setCell (p := ⟨db_, 3, none⟩) (.inl rfl) (.slice A9 m m))
  clear cdb_0 cdb_1 cdb_2 cdb_3 fdb_0 fdb_1 fdb_2 fdb_3
  generalize ((((wd.setCell ⟨db_, 0, none⟩ (.int .u16 (nb [x0, x1] : Int))).setCell ⟨db_, 1, none⟩ (.int .u16 (nb [x2, x3] : Int))).setCell ⟨db_, 2, none⟩ (.bool false)).setCell ⟨db_, 3, none⟩ (.slice A9 m m)) = wz at r3 hx ⊢
  replace B_db_ := Lib.hid r3
  clear r3
  have HX_wz := Lib.hid hx
  clear hx
  replace HB9 := Lib.hid (RB.keep HB9.out HX_wz.out (fun k _ hk e => ne_db__g1.symm (hk.symm.trans e)))
  have hgz2 : g1 < wz.heap.size := by have h0 := HG1.out; have h1 := HX_w3.out.size; have h2 := HX_w4.out.size; have h3 := HX_w5.out.size; have h4 := HX_w6.out.size; have h5 := HX_w7.out.size; have h6 := HX_w8.out.size; have h7 := HX_w9.out.size; have h8 := HX_wa.out.size; have h9 := HX_wb.out.size; have h10 := HX_wg.out.size; have h11 := HX_wc.out.size; have h12 := HX_wd.out.size; have h13 := HX_wz.out.size; omega
  have HRBZ := Lib.hid hgz2
  have hzz := HX_w1.out.size
  have hbl : (l.drop 8).take m = (l.take (m + 8)).drop 8 := by rw [List.drop_take, show m + 8 - 8 = m by omega]
  have hbn : ((l.take (m + 8)).drop 8).length = m := by have := HZLE.out; rw [List.length_drop, List.length_take]; omega
  have hb9 := HB9.out
  rw [hbl] at hb9
  rw [hbn]
  have hrb : RB wz (fun j => w.heap.size ≤ j) (.slice A9 m m) ((l.take (m + 8)).drop 8) := hb9.mono (fun k _ h => by omega)
  have hwr : WrB w wz A9 ((l.take (m + 8)).drop 8) := by
    intro hne
    rcases HA9.out with h | h
    · rw [← hbl, h] at hne; exact absurd (by simp) hne
    · have hgz := HG1.out
      have hzw := HX_w1.out.size
      exact ⟨g1, _, h, by omega, (by have := HRBZ.out; omega), (fun x => (HX_wz.out.frozen (p := ⟨g1, x, none⟩) (show g1 < wd.heap.size by have h0 := HG1.out; have h3 := HX_w3.out.size; have h4 := HX_w4.out.size; have h5 := HX_w5.out.size; have h6 := HX_w6.out.size; have h7 := HX_w7.out.size; have h8 := HX_w8.out.size; have h9 := HX_w9.out.size; have h10 := HX_wa.out.size; have h11 := HX_wb.out.size; have h12 := HX_wg.out.size; have h13 := HX_wc.out.size; have h14 := HX_wd.out.size; omega) ne_db__g1.symm).trans ((fun x => (HX_wd.out.frozen (p := ⟨g1, x, none⟩) (show g1 < wc.heap.size by have h0 := HG1.out; have h3 := HX_w3.out.size; have h4 := HX_w4.out.size; have h5 := HX_w5.out.size; have h6 := HX_w6.out.size; have h7 := HX_w7.out.size; have h8 := HX_w8.out.size; have h9 := HX_w9.out.size; have h10 := HX_wa.out.size; have h11 := HX_wb.out.size; have h12 := HX_wg.out.size; have h13 := HX_wc.out.size; omega) ne_db__g1.symm).trans ((fun x => (HX_wc.out.frozen (p := ⟨g1, x, none⟩) (show g1 < wg.heap.size by have h0 := HG1.out; have h3 := HX_w3.out.size; have h4 := HX_w4.out.size; have h5 := HX_w5.out.size; have h6 := HX_w6.out.size; have h7 := HX_w7.out.size; have h8 := HX_w8.out.size; have h9 := HX_w9.out.size; have h10 := HX_wa.out.size; have h11 := HX_wb.out.size; have h12 := HX_wg.out.size; omega) ne_g1_p1).trans ((fun x => (HX_wg.out.frozen (p := ⟨g1, x, none⟩) (show g1 < wb.heap.size by have h0 := HG1.out; have h3 := HX_w3.out.size; have h4 := HX_w4.out.size; have h5 := HX_w5.out.size; have h6 := HX_w6.out.size; have h7 := HX_w7.out.size; have h8 := HX_w8.out.size; have h9 := HX_w9.out.size; have h10 := HX_wa.out.size; have h11 := HX_wb.out.size; omega) id).trans ((fun x => (HX_wb.out.frozen (p := ⟨g1, x, none⟩) (show g1 < wa.heap.size by have h0 := HG1.out; have h3 := HX_w3.out.size; have h4 := HX_w4.out.size; have h5 := HX_w5.out.size; have h6 := HX_w6.out.size; have h7 := HX_w7.out.size; have h8 := HX_w8.out.size; have h9 := HX_w9.out.size; have h10 := HX_wa.out.size; omega) ne_db__g1.symm).trans ((fun x => (HX_wa.out.frozen (p := ⟨g1, x, none⟩) (show g1 < w9.heap.size by have h0 := HG1.out; have h3 := HX_w3.out.size; have h4 := HX_w4.out.size; have h5 := HX_w5.out.size; have h6 := HX_w6.out.size; have h7 := HX_w7.out.size; have h8 := HX_w8.out.size; have h9 := HX_w9.out.size; omega) ne_g1_p2).trans ((fun x => (HX_w9.out.frozen (p := ⟨g1, x, none⟩) (show g1 < w8.heap.size by have h0 := HG1.out; have h3 := HX_w3.out.size; have h4 := HX_w4.out.size; have h5 := HX_w5.out.size; have h6 := HX_w6.out.size; have h7 := HX_w7.out.size; have h8 := HX_w8.out.size; omega) ne_g1_p2).trans ((fun x => (HX_w8.out.frozen (p := ⟨g1, x, none⟩) (show g1 < w7.heap.size by have h0 := HG1.out; have h3 := HX_w3.out.size; have h4 := HX_w4.out.size; have h5 := HX_w5.out.size; have h6 := HX_w6.out.size; have h7 := HX_w7.out.size; omega) ne_db__g1.symm).trans ((fun x => (HX_w7.out.frozen (p := ⟨g1, x, none⟩) (show g1 < w6.heap.size by have h0 := HG1.out; have h3 := HX_w3.out.size; have h4 := HX_w4.out.size; have h5 := HX_w5.out.size; have h6 := HX_w6.out.size; omega) ne_g1_p2).trans ((fun x => (HX_w6.out.frozen (p := ⟨g1, x, none⟩) (show g1 < w5.heap.size by have h0 := HG1.out; have h3 := HX_w3.out.size; have h4 := HX_w4.out.size; have h5 := HX_w5.out.size; omega) ne_db__g1.symm).trans ((fun x => ((HX_w4.out.andThen HX_w5.out (fun i hi e => by have := hb_p2; omega)).frozen (p := ⟨g1, x, none⟩) (show g1 < w3.heap.size by have h0 := HG1.out; have h3 := HX_w3.out.size; omega) id).trans ((fun x => (HX_w3.out.frozen (p := ⟨g1, x, none⟩) (show g1 < w2.heap.size by have h0 := HG1.out; omega) ne_g1_p1).trans (HFZ.out x)) x)) x)) x)) x)) x)) x)) x)) x)) x)) x)) x))⟩
  refine bodyPost_ret (v := .agg #[.int .u16 (nb [x0, x1] : Int), .int .u16 (nb [x2, x3] : Int), .bool false, .slice A9 m m]) ?_ rfl ⟨A9, rfl, hrb, hwr, ((((((((((((((HX_w1.out.trans HX_w2.out).andThen HX_w3.out (fun i hi e => by have := HX_w1.out.size; have := hb_p1; omega)).trans HX_w4.out).andThen HX_w5.out (fun i hi e => by have := ((HX_w1.out.trans HX_w2.out).andThen HX_w3.out (fun i hi e => by have := HX_w1.out.size; have := hb_p1; omega)).size; have := hb_p2; omega)).andThen HX_w6.out (fun i hi e => by have := hb_db_; omega)).andThen HX_w7.out (fun i hi e => by have := ((HX_w1.out.trans HX_w2.out).andThen HX_w3.out (fun i hi e => by have := HX_w1.out.size; have := hb_p1; omega)).size; have := hb_p2; omega)).andThen HX_w8.out (fun i hi e => by have := hb_db_; omega)).andThen HX_w9.out (fun i hi e => by have := ((HX_w1.out.trans HX_w2.out).andThen HX_w3.out (fun i hi e => by have := HX_w1.out.size; have := hb_p1; omega)).size; have := hb_p2; omega)).andThen HX_wa.out (fun i hi e => by have := ((HX_w1.out.trans HX_w2.out).andThen HX_w3.out (fun i hi e => by have := HX_w1.out.size; have := hb_p1; omega)).size; have := hb_p2; omega)).andThen HX_wb.out (fun i hi e => by have := hb_db_; omega)).trans HX_wg.out).andThen HX_wc.out (fun i hi e => by have := HX_w1.out.size; have := hb_p1; omega)).andThen HX_wd.out (fun i hi e => by have := hb_db_; omega)).andThen HX_wz.out (fun i hi e => by have := hb_db_; omega))⟩
  exact results_cell_row (p := 3) rfl _ _ db_ 25 #[.int .u16 (nb [x0, x1] : Int), .int .u16 (nb [x2, x3] : Int), .bool false, .slice A9 m m] (0, 0) _ rfl B_db_.out Tryd.underlying25 rfl dg_size
set_option maxRecDepth 100000 in
set_option maxHeartbeats 4000000 in
theorem taken_retW (pb ps pt : Nat) (w : World) (n0 n1 : Int) (pl : Bool) (m : Nat) (bl : List UInt8) (h : ∀ w1, Ex (fun _ => False) w w1 → Calls Tryd.prog 35 #[.pointer (some ⟨pb, 0, none⟩), .pointer (some ⟨ps, 0, none⟩), .pointer (some ⟨pt, 0, none⟩)] w1 fun e w' => ∃ A', e = .returned (.agg #[.int .u16 n0, .int .u16 n1, .bool pl, .slice A' m m]) ∧ RB w' (fun j => w1.heap.size ≤ j) (.slice A' m m) bl ∧ WrB w1 w' A' bl ∧ Ex (fun _ => False) w1 w') :
    Calls Tryd.prog 34 #[.func (.func 35) #[] #[.pointer (some ⟨pb, 0, none⟩), .pointer (some ⟨ps, 0, none⟩), .pointer (some ⟨pt, 0, none⟩)]] w fun e w' => ∃ A', e = .returned (.tuple #[.agg #[.int .u16 n0, .int .u16 n1, .bool pl, .slice A' m m], .nilIface]) ∧ RB w' (fun j => w.heap.size ≤ j) (.slice A' m m) bl ∧ WrB w w' A' bl ∧ Ex (fun _ => False) w w' := by
  have hmf : ∀ (fn : Fn) (first cap : Array Value) (w : World), (Instr.makeFunc fn first cap).run Tryd.prog w = .ok (.func fn first cap) w := fun _ _ _ _ => rfl
  have H := Lib.hid h
  clear h
  go_enter_defers Tryd.func34, Tryd.ntmps34
  go_upto_region 1 with fail
  have hx : Ex (fun _ => False) w (w.alloc (.cells #[.int .u16 0, .int .u16 0, .bool false, .slice none 0 0] 25)) := (Ex.refl _ w).alloc _
  have hb : (w.alloc (.cells #[.int .u16 0, .int .u16 0, .bool false, .slice none 0 0] 25)).heap[w.heap.size]? = some (.cells #[.int .u16 0, .int .u16 0, .bool false, .slice none 0 0] 25) := heap_alloc_new w _
  have hs1 : (w.alloc (.cells #[.int .u16 0, .int .u16 0, .bool false, .slice none 0 0] 25)).heap.size = w.heap.size + 1 := by simp
  obtain ⟨bp, hbp⟩ : ∃ bp, bp = w.heap.size := ⟨_, rfl⟩
  have hb_bp : w.heap.size ≤ bp := by omega
  rw [← hbp] at hb hs1 
  try simp only [← hbp]
  generalize w.alloc (.cells #[.int .u16 0, .int .u16 0, .bool false, .slice none 0 0] 25) = w1 at hx hb  hs1 ⊢
  try simp only [← hs1]
  clear hs1
  clear hbp
  have HX_w1 := Lib.hid hx
  clear hx
  have B_bp := Lib.hid hb
  clear hb
  have hx : Ex (fun _ => False) w1 (w1.alloc (.cells #[.nilIface] 29)) := (Ex.refl _ w1).alloc _
  have hb : (w1.alloc (.cells #[.nilIface] 29)).heap[w1.heap.size]? = some (.cells #[.nilIface] 29) := heap_alloc_new w1 _
  obtain ⟨bq, hbq⟩ : ∃ bq, bq = w1.heap.size := ⟨_, rfl⟩
  have hb_bq : w1.heap.size ≤ bq := by omega
  rw [← hbq] at hb
  try simp only [← hbq]
  generalize w1.alloc (.cells #[.nilIface] 29) = w2 at hx hb ⊢
  clear hbq
  have HX_w2 := Lib.hid hx
  clear hx
  have B_bq := Lib.hid hb
  clear hb
  have hpq := row_lt B_bp.out
  have ne_bp_bq : bp ≠ bq := by omega
  go_wp2_with fail
  refine (H.out w2 (HX_w1.out.trans HX_w2.out)).mono ?_
  rintro e w3 ⟨A', rfl, hb, hwr, hx⟩
  have HWR := Lib.hid hwr
  clear hwr
  have hbq2 := row_lt B_bq.out
  have hz2 := (HX_w1.out.trans HX_w2.out).size
  clear H
  have HX_w3 := Lib.hid hx
  clear hx
  have HB := Lib.hid hb
  clear hb
  replace B_bp := Lib.hid (((HX_w2.out.trans HX_w3.out).block bp (row_lt B_bp.out) id).trans B_bp.out)
  replace B_bq := Lib.hid ((HX_w3.out.block bq (row_lt B_bq.out) id).trans B_bq.out)
  have cbp0 := row_cell (k := 0) (v := .int .u16 0) B_bp.out rfl
  have cbp1 := row_cell (k := 1) (v := .int .u16 0) B_bp.out rfl
  have cbp2 := row_cell (k := 2) (v := .bool false) B_bp.out rfl
  have cbp3 := row_cell (k := 3) (v := .slice none 0 0) B_bp.out rfl
  have fbp0 := row_frozen B_bp.out 0
  have fbp1 := row_frozen B_bp.out 1
  have fbp2 := row_frozen B_bp.out 2
  have fbp3 := row_frozen B_bp.out 3
  have cbq0 := row_cell (k := 0) (v := .nilIface) B_bq.out rfl
  have fbq0 := row_frozen B_bq.out 0
  go_wp2_with fail
  have r0 : (w3.setCell ⟨bp, 0, none⟩ (.int .u16 n0)).heap[bp]? = some (.cells #[.int .u16 n0, .int .u16 0, .bool false, .slice none 0 0] 25) := row_set B_bp.out 0 (.int .u16 n0)
  have r1 : ((w3.setCell ⟨bp, 0, none⟩ (.int .u16 n0)).setCell ⟨bp, 1, none⟩ (.int .u16 n1)).heap[bp]? = some (.cells #[.int .u16 n0, .int .u16 n1, .bool false, .slice none 0 0] 25) := row_set r0 1 (.int .u16 n1)
  clear r0
  have r2 : (((w3.setCell ⟨bp, 0, none⟩ (.int .u16 n0)).setCell ⟨bp, 1, none⟩ (.int .u16 n1)).setCell ⟨bp, 2, none⟩ (.bool pl)).heap[bp]? = some (.cells #[.int .u16 n0, .int .u16 n1, .bool pl, .slice none 0 0] 25) := row_set r1 2 (.bool pl)
  clear r1
  have r3 : ((((w3.setCell ⟨bp, 0, none⟩ (.int .u16 n0)).setCell ⟨bp, 1, none⟩ (.int .u16 n1)).setCell ⟨bp, 2, none⟩ (.bool pl)).setCell ⟨bp, 3, none⟩ (.slice A' m m)).heap[bp]? = some (.cells #[.int .u16 n0, .int .u16 n1, .bool pl, .slice A' m m] 25) := row_set r2 3 (.slice A' m m)
  clear r2
  have hx : Ex (fun j => j = bp) w3 ((((w3.setCell ⟨bp, 0, none⟩ (.int .u16 n0)).setCell ⟨bp, 1, none⟩ (.int .u16 n1)).setCell ⟨bp, 2, none⟩ (.bool pl)).setCell ⟨bp, 3, none⟩ (.slice A' m m)) := (((((Ex.refl (fun j => j = bp) w3).setCell (p := ⟨bp, 0, none⟩) (.inl rfl) (.int .u16 n0)).setCell (p := ⟨bp, 1, none⟩) (.inl rfl) (.int .u16 n1)).setCell (p := ⟨bp, 2, none⟩) (.inl rfl) (.bool pl)).setCell (p := ⟨bp, 3, none⟩) (.inl rfl) (.slice A' m m))
  generalize ((((w3.setCell ⟨bp, 0, none⟩ (.int .u16 n0)).setCell ⟨bp, 1, none⟩ (.int .u16 n1)).setCell ⟨bp, 2, none⟩ (.bool pl)).setCell ⟨bp, 3, none⟩ (.slice A' m m)) = w4 at r3 hx ⊢
  replace B_bp := Lib.hid r3
  clear r3
  have HX_w4 := Lib.hid hx
  clear hx
  clear cbp0 cbp1 cbp2 cbp3 fbp0 fbp1 fbp2 fbp3 cbq0 fbq0
  replace B_bq := Lib.hid ((HX_w4.out.block bq (row_lt B_bq.out) ne_bp_bq.symm).trans B_bq.out)
  have r0 : (w4.setCell ⟨bq, 0, none⟩ (.nilIface)).heap[bq]? = some (.cells #[.nilIface] 29) := row_set B_bq.out 0 (.nilIface)
  have hx : Ex (fun j => j = bq) w4 (w4.setCell ⟨bq, 0, none⟩ (.nilIface)) := ((Ex.refl (fun j => j = bq) w4).setCell (p := ⟨bq, 0, none⟩) (.inl rfl) (.nilIface))
  generalize (w4.setCell ⟨bq, 0, none⟩ (.nilIface)) = w5 at r0 hx ⊢
  replace B_bq := Lib.hid r0
  clear r0
  have HX_w5 := Lib.hid hx
  clear hx
  replace B_bp := Lib.hid ((HX_w5.out.block bp (row_lt B_bp.out) ne_bp_bq).trans B_bp.out)
  have hrb : RB w5 (fun j => w.heap.size ≤ j) (.slice A' m m) bl := ((HB.out.keep HX_w4.out (fun k _ hk e => by omega)).keep HX_w5.out (fun k _ hk e => by omega)).mono (fun k _ hk => by omega)
  have HRB := Lib.hid hrb
  have hwr := (HWR.out.keep (w := w2) (Nat.le_refl _) HX_w4.out (fun j hj => by omega)).keep (w := w) hz2 HX_w5.out (fun j hj => by omega)
  have HWR2 := Lib.hid hwr
  clear hwr
  clear hrb HB
  refine leaves_cons (f := 58) (args := #[.pointer (some ⟨bp, 0, none⟩), .pointer (some ⟨bq, 0, none⟩)]) (by simp) (by simp [go_sem]) ?_
  refine (taken1_idle _ _ _).mono ?_
  rintro e u' w6 ⟨rfl, rfl, rfl⟩
  exact ⟨_, taken_results _ bp bq _ _ _ rfl rfl B_bp.out B_bq.out, A', rfl, HRB.out, HWR2.out, ((((HX_w1.out.trans HX_w2.out).trans HX_w3.out).andThen HX_w4.out (fun i hi e => by have := hb_bp; omega)).andThen HX_w5.out (fun i hi e => by have := HX_w1.out.size; have := hb_bq; omega))⟩
set_option maxRecDepth 100000 in
theorem clo_yesW (P : Nat → Prop) (A : Option Addr) (n c : Nat) (l : List UInt8) (s t : Int) (pb ps pt : Nat) (w : World) (hB : w.cell? ⟨pb, 0, none⟩ = some (.slice A n c)) (hS : w.cell? ⟨ps, 0, none⟩ = some (.int .u32 s)) (hT : w.cell? ⟨pt, 0, none⟩ = some (.int .u32 t)) (hr : RB w P (.slice A n c) l) (hA : A = none → c = 0) (hl : l.length ≤ 1000000000) (hs : 0 ≤ s ∧ s < 4294967296) (ht : 0 ≤ t ∧ t < 4294967296) (h : uerr l s t = none) :
    Calls Tryd.prog 35 #[.pointer (some ⟨pb, 0, none⟩), .pointer (some ⟨ps, 0, none⟩), .pointer (some ⟨pt, 0, none⟩)] w fun e w' => ∃ A', e = .returned (dgv (pd l) (.slice A' (pd l).b.length (pd l).b.length)) ∧ RB w' (fun j => w.heap.size ≤ j) (.slice A' (pd l).b.length (pd l).b.length) (pd l).b ∧ WrB w w' A' (pd l).b ∧ Ex (fun _ => False) w w' := by
  unfold uerr at h
  split at h
  case isTrue h8 =>
    cases h
  case isFalse h8 =>
    split at h
    case isTrue hz =>
      cases h
    case isFalse hz =>
      split at h
      case isTrue hx =>
        cases h
      case isFalse hx =>
        split at h
        case isTrue hq =>
          cases h
        case isFalse hq =>
          by_cases hpl : dsm l = 0
          · exact pclo_plainW P pb ps pt A n c l s t w hB hS hT hr hA hl (by omega) (by omega) (by omega) hpl
          · exact pclo_yesW P pb ps pt A n c l s t w hB hS hT hr hA hl (by omega) (by omega) (by omega) hpl hs ht (Decidable.byContradiction fun h' => hq ⟨hpl, h'⟩)
set_option maxRecDepth 100000 in
set_option maxHeartbeats 4000000 in
theorem uparse_yesW (P : Nat → Prop) (A : Option Addr) (n c : Nat) (l : List UInt8) (s t : Int) (w : World) (hr : RB w P (.slice A n c) l) (hA : A = none → c = 0) (hl : l.length ≤ 1000000000) (hs : 0 ≤ s ∧ s < 4294967296) (ht : 0 ≤ t ∧ t < 4294967296) (h : uerr l s t = none) :
    Calls Tryd.prog 16 #[.slice A n c, .int .u32 s, .int .u32 t] w fun e w' => ∃ A', e = .returned (.tuple #[dgv (pd l) (.slice A' (pd l).b.length (pd l).b.length), .nilIface]) ∧ RB w' (fun j => w.heap.size ≤ j) (.slice A' (pd l).b.length (pd l).b.length) (pd l).b ∧ WrB w w' A' (pd l).b ∧ Ex (fun _ => False) w w' := by
  have hmf : ∀ (fn : Fn) (first cap : Array Value) (w : World), (Instr.makeFunc fn first cap).run Tryd.prog w = .ok (.func fn first cap) w := fun _ _ _ _ => rfl
  have HR := Lib.hid hr
  have HC := Lib.hid (fun (pb ps pt : Nat) (w : World) hB hS hT hr => clo_yesW P A n c l s t pb ps pt w hB hS hT hr hA hl hs ht h)
  clear hr h hA hl hs ht
  go_enter Tryd.func16, Tryd.ntmps16
  go_upto_region 1 with fail
  have hx : Ex (fun _ => False) w (w.alloc (.cells #[.slice A n c] 22)) := (Ex.refl _ w).alloc _
  have hb : (w.alloc (.cells #[.slice A n c] 22)).heap[w.heap.size]? = some (.cells #[.slice A n c] 22) := heap_alloc_new w _
  have hs1 : (w.alloc (.cells #[.slice A n c] 22)).heap.size = w.heap.size + 1 := by simp
  obtain ⟨xb0, hxb0⟩ : ∃ xb0, xb0 = w.heap.size := ⟨_, rfl⟩
  have hb_xb0 : w.heap.size ≤ xb0 := by omega
  rw [← hxb0] at hb hs1 
  try simp only [← hxb0]
  generalize w.alloc (.cells #[.slice A n c] 22) = w1 at hx hb  hs1 ⊢
  try simp only [← hs1]
  clear hs1
  clear hxb0
  have HX_w1 := Lib.hid hx
  clear hx
  have B_xb0 := Lib.hid hb
  clear hb
  have hx : Ex (fun _ => False) w1 (w1.alloc (.cells #[.int .u32 s] 32)) := (Ex.refl _ w1).alloc _
  have hb : (w1.alloc (.cells #[.int .u32 s] 32)).heap[w1.heap.size]? = some (.cells #[.int .u32 s] 32) := heap_alloc_new w1 _
  have hs1 : (w1.alloc (.cells #[.int .u32 s] 32)).heap.size = w1.heap.size + 1 := by simp
  obtain ⟨xs0, hxs0⟩ : ∃ xs0, xs0 = w1.heap.size := ⟨_, rfl⟩
  have hb_xs0 : w1.heap.size ≤ xs0 := by omega
  rw [← hxs0] at hb hs1 
  try simp only [← hxs0]
  generalize w1.alloc (.cells #[.int .u32 s] 32) = w2 at hx hb  hs1 ⊢
  try simp only [← hs1]
  clear hs1
  clear hxs0
  have HX_w2 := Lib.hid hx
  clear hx
  have B_xs0 := Lib.hid hb
  clear hb
  have hx : Ex (fun _ => False) w2 (w2.alloc (.cells #[.int .u32 t] 32)) := (Ex.refl _ w2).alloc _
  have hb : (w2.alloc (.cells #[.int .u32 t] 32)).heap[w2.heap.size]? = some (.cells #[.int .u32 t] 32) := heap_alloc_new w2 _
  have hs1 : (w2.alloc (.cells #[.int .u32 t] 32)).heap.size = w2.heap.size + 1 := by simp
  obtain ⟨xt0, hxt0⟩ : ∃ xt0, xt0 = w2.heap.size := ⟨_, rfl⟩
  have hb_xt0 : w2.heap.size ≤ xt0 := by omega
  rw [← hxt0] at hb hs1 
  try simp only [← hxt0]
  generalize w2.alloc (.cells #[.int .u32 t] 32) = w3 at hx hb  hs1 ⊢
  try simp only [← hs1]
  clear hs1
  clear hxt0
  have HX_w3 := Lib.hid hx
  clear hx
  have B_xt0 := Lib.hid hb
  clear hb
  have hx : Ex (fun _ => False) w3 (w3.alloc (.cells #[.int .u16 0, .int .u16 0, .bool false, .slice none 0 0] 25)) := (Ex.refl _ w3).alloc _
  have hb : (w3.alloc (.cells #[.int .u16 0, .int .u16 0, .bool false, .slice none 0 0] 25)).heap[w3.heap.size]? = some (.cells #[.int .u16 0, .int .u16 0, .bool false, .slice none 0 0] 25) := heap_alloc_new w3 _
  obtain ⟨rb, hrb⟩ : ∃ rb, rb = w3.heap.size := ⟨_, rfl⟩
  have hb_rb : w3.heap.size ≤ rb := by omega
  rw [← hrb] at hb
  try simp only [← hrb]
  generalize w3.alloc (.cells #[.int .u16 0, .int .u16 0, .bool false, .slice none 0 0] 25) = w4 at hx hb ⊢
  clear hrb
  have HX_w4 := Lib.hid hx
  clear hx
  have B_rb := Lib.hid hb
  clear hb
  go_wp2_with fail
  refine (taken_retW xb0 xs0 xt0 w4 (pd l).src (pd l).dst (pd l).pl (pd l).b.length (pd l).b (fun w1 hx1 => HC.out xb0 xs0 xt0 w1 (hx1.cell (row_cell ((((HX_w2.out.trans HX_w3.out).trans HX_w4.out).block xb0 (row_lt B_xb0.out) id).trans B_xb0.out) rfl) id) (hx1.cell (row_cell (((HX_w3.out.trans HX_w4.out).block xs0 (row_lt B_xs0.out) id).trans B_xs0.out) rfl) id) (hx1.cell (row_cell ((HX_w4.out.block xt0 (row_lt B_xt0.out) id).trans B_xt0.out) rfl) id) ((RB.keep HR.out (((HX_w1.out.trans HX_w2.out).trans HX_w3.out).trans HX_w4.out) (fun _ _ _ => id)).keep hx1 (fun _ _ _ => id)))).mono ?_
  rintro e w5 ⟨A5, rfl, hb, hwr, hx⟩
  have hrb4 := row_lt B_rb.out
  have hz04 := (((HX_w1.out.trans HX_w2.out).trans HX_w3.out).trans HX_w4.out).size
  clear HC
  have HX_w5 := Lib.hid hx
  clear hx
  have HB := Lib.hid hb
  have HWR := Lib.hid hwr
  clear hb hwr
  replace B_rb := Lib.hid ((HX_w5.out.block rb (row_lt B_rb.out) id).trans B_rb.out)
  have crb0 := row_cell (k := 0) (v := .int .u16 0) B_rb.out rfl
  have crb1 := row_cell (k := 1) (v := .int .u16 0) B_rb.out rfl
  have crb2 := row_cell (k := 2) (v := .bool false) B_rb.out rfl
  have crb3 := row_cell (k := 3) (v := .slice none 0 0) B_rb.out rfl
  have frb0 := row_frozen B_rb.out 0
  have frb1 := row_frozen B_rb.out 1
  have frb2 := row_frozen B_rb.out 2
  have frb3 := row_frozen B_rb.out 3
  go_wp2_with fail
  (try simp only [Exit.inBlock, Exit.then])
  have r0 : (w5.setCell ⟨rb, 0, none⟩ (.int .u16 (pd l).src)).heap[rb]? = some (.cells #[.int .u16 (pd l).src, .int .u16 0, .bool false, .slice none 0 0] 25) := row_set B_rb.out 0 (.int .u16 (pd l).src)
  have r1 : ((w5.setCell ⟨rb, 0, none⟩ (.int .u16 (pd l).src)).setCell ⟨rb, 1, none⟩ (.int .u16 (pd l).dst)).heap[rb]? = some (.cells #[.int .u16 (pd l).src, .int .u16 (pd l).dst, .bool false, .slice none 0 0] 25) := row_set r0 1 (.int .u16 (pd l).dst)
  clear r0
  have r2 : (((w5.setCell ⟨rb, 0, none⟩ (.int .u16 (pd l).src)).setCell ⟨rb, 1, none⟩ (.int .u16 (pd l).dst)).setCell ⟨rb, 2, none⟩ (.bool (pd l).pl)).heap[rb]? = some (.cells #[.int .u16 (pd l).src, .int .u16 (pd l).dst, .bool (pd l).pl, .slice none 0 0] 25) := row_set r1 2 (.bool (pd l).pl)
  clear r1
  have r3 : ((((w5.setCell ⟨rb, 0, none⟩ (.int .u16 (pd l).src)).setCell ⟨rb, 1, none⟩ (.int .u16 (pd l).dst)).setCell ⟨rb, 2, none⟩ (.bool (pd l).pl)).setCell ⟨rb, 3, none⟩ (.slice A5 (pd l).b.length (pd l).b.length)).heap[rb]? = some (.cells #[.int .u16 (pd l).src, .int .u16 (pd l).dst, .bool (pd l).pl, .slice A5 (pd l).b.length (pd l).b.length] 25) := row_set r2 3 (.slice A5 (pd l).b.length (pd l).b.length)
  clear r2
  have hx : Ex (fun j => j = rb) w5 ((((w5.setCell ⟨rb, 0, none⟩ (.int .u16 (pd l).src)).setCell ⟨rb, 1, none⟩ (.int .u16 (pd l).dst)).setCell ⟨rb, 2, none⟩ (.bool (pd l).pl)).setCell ⟨rb, 3, none⟩ (.slice A5 (pd l).b.length (pd l).b.length)) := (((((Ex.refl (fun j => j = rb) w5).setCell (p := ⟨rb, 0, none⟩) (.inl rfl) (.int .u16 (pd l).src)).setCell (p := ⟨rb, 1, none⟩) (.inl rfl) (.int .u16 (pd l).dst)).setCell (p := ⟨rb, 2, none⟩) (.inl rfl) (.bool (pd l).pl)).setCell (p := ⟨rb, 3, none⟩) (.inl rfl) (.slice A5 (pd l).b.length (pd l).b.length))
  clear crb0 crb1 crb2 crb3 frb0 frb1 frb2 frb3
  generalize ((((w5.setCell ⟨rb, 0, none⟩ (.int .u16 (pd l).src)).setCell ⟨rb, 1, none⟩ (.int .u16 (pd l).dst)).setCell ⟨rb, 2, none⟩ (.bool (pd l).pl)).setCell ⟨rb, 3, none⟩ (.slice A5 (pd l).b.length (pd l).b.length)) = wz at r3 hx ⊢
  replace B_rb := Lib.hid r3
  clear r3
  have HX_wz := Lib.hid hx
  clear hx
  refine bodyPost_ret (v := .tuple #[.agg #[.int .u16 (pd l).src, .int .u16 (pd l).dst, .bool (pd l).pl, .slice A5 (pd l).b.length (pd l).b.length], .nilIface]) ?_ rfl ⟨A5, rfl, ((HB.out.keep HX_wz.out (fun k _ hk e => by omega)).mono (fun k _ hk => by omega)), HWR.out.keep hz04 HX_wz.out (fun j hj => by omega), (((((HX_w1.out.trans HX_w2.out).trans HX_w3.out).trans HX_w4.out).trans HX_w5.out).andThen HX_wz.out (fun i hi e => by have := ((HX_w1.out.trans HX_w2.out).trans HX_w3.out).size; have := hb_rb; omega))⟩
  exact results_cell_row2 (p := 6) (u := 7) rfl _ _ rb 25 #[.int .u16 (pd l).src, .int .u16 (pd l).dst, .bool (pd l).pl, .slice A5 (pd l).b.length (pd l).b.length] (0, 0) _ _ rfl rfl B_rb.out Tryd.underlying25 rfl dg_size
end Go.Proofs.YtfcfpkhcpijkfaaDoor
