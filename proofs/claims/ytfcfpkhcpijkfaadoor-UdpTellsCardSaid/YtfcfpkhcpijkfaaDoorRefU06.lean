/-
  The contract of the reference's Parse of a datagram. By an AI agent.
-/
import Derived.Test.YtfcfpkhcpijkfaaDoorRefT06
import Derived.Test.YtfcfpkhcpijkfaaDoorRefNum
import Derived.Deep.DeepCutAuto
import Derived.Deep.CutBlock
import Derived.IntWalk
namespace Go.Proofs.YtfcfpkhcpijkfaaDoor
open Go.RowKit

theorem rzdg : rdv zdg = .agg #[.int .u32 0, .int .u32 0, .bool false, .string ⟨#[]⟩] := rfl
theorem dbs_sub (l : List UInt8) (i j : Nat) (_h : j ≤ l.length) : (bs l).extract i j = bs ((l.take j).drop i) := by
  apply ByteArray.ext
  simp only [bs, ByteArray.data_extract, List.extract_toArray, List.extract_eq_take_drop]
  rw [List.drop_take]
theorem sub8_get {l : List UInt8} (h : 8 ≤ l.length) : (bs l).extract 0 2 = bs [l.getD 0 0, l.getD 1 0] ∧ (bs l).extract 2 4 = bs [l.getD 2 0, l.getD 3 0] ∧ (bs l).extract 4 6 = bs [l.getD 4 0, l.getD 5 0] ∧ (bs l).extract 6 8 = bs [l.getD 6 0, l.getD 7 0] := by
  obtain ⟨x0, l, rfl⟩ := List.exists_cons_of_length_pos (l := l) (by omega)
  obtain ⟨x1, l, rfl⟩ := List.exists_cons_of_length_pos (l := l) (by simp at h; omega)
  obtain ⟨x2, l, rfl⟩ := List.exists_cons_of_length_pos (l := l) (by simp at h; omega)
  obtain ⟨x3, l, rfl⟩ := List.exists_cons_of_length_pos (l := l) (by simp at h; omega)
  obtain ⟨x4, l, rfl⟩ := List.exists_cons_of_length_pos (l := l) (by simp at h; omega)
  obtain ⟨x5, l, rfl⟩ := List.exists_cons_of_length_pos (l := l) (by simp at h; omega)
  obtain ⟨x6, l, rfl⟩ := List.exists_cons_of_length_pos (l := l) (by simp at h; omega)
  obtain ⟨x7, l, rfl⟩ := List.exists_cons_of_length_pos (l := l) (by simp at h; omega)
  refine ⟨?_, ?_, ?_, ?_⟩
  · rw [dbs_sub _ _ _ (by omega)]; rfl
  · rw [dbs_sub _ _ _ (by omega)]; rfl
  · rw [dbs_sub _ _ _ (by omega)]; rfl
  · rw [dbs_sub _ _ _ (by omega)]; rfl
theorem tx6s : bs (etx [lay6, lay1] 2) = ⟨#[117, 100, 112, 58, 32, 111, 99, 116, 101, 116, 115, 58, 32, 101, 114, 114, 111, 114, 32, 50]⟩ := by decide
theorem tx63 : bs (etx [lay6] 3) = ⟨#[117, 100, 112, 58, 32, 101, 114, 114, 111, 114, 32, 51]⟩ := by decide
theorem tx62 : bs (etx [lay6] 2) = ⟨#[117, 100, 112, 58, 32, 101, 114, 114, 111, 114, 32, 50]⟩ := by decide
theorem tx64 : bs (etx [lay6] 4) = ⟨#[117, 100, 112, 58, 32, 101, 114, 114, 111, 114, 32, 52]⟩ := by decide
set_option maxRecDepth 100000 in
set_option maxHeartbeats 4000000 in
theorem rp6_short (l : List UInt8) (s t : Int) (w : World) (hl : l.length ≤ 1000000) (h8 : l.length < 8) :
    Calls Tryd.prog 17 #[.string (bs l), .int .u32 s, .int .u32 t] w fun e w' => e = .returned (.tuple #[rdv zdg, .string (bs (etx [lay6, lay1] 2))]) ∧ Ex (fun _ => False) w w' := by
  have hz := bs_size l
  have HL := Lib.hid hl
  clear hl
  rw [tx6s, rzdg]
  go_enter Tryd.func17, Tryd.ntmps17
  go_upto_region 1 with fail
  have hx : Ex (fun _ => False) w (w.alloc (.cells #[.int .u32 0, .int .u32 0, .bool false, .string ⟨#[]⟩] 34)) := (Ex.refl _ w).alloc _
  have hb : (w.alloc (.cells #[.int .u32 0, .int .u32 0, .bool false, .string ⟨#[]⟩] 34)).heap[w.heap.size]? = some (.cells #[.int .u32 0, .int .u32 0, .bool false, .string ⟨#[]⟩] 34) := heap_alloc_new w _
  obtain ⟨rb, hrb⟩ : ∃ rb, rb = w.heap.size := ⟨_, rfl⟩
  have hb_rb : w.heap.size ≤ rb := by omega
  rw [← hrb] at hb
  try simp only [← hrb]
  generalize w.alloc (.cells #[.int .u32 0, .int .u32 0, .bool false, .string ⟨#[]⟩] 34) = w1 at hx hb ⊢
  clear hrb
  have HX_w1 := Lib.hid hx
  clear hx
  have B_rb := Lib.hid hb
  clear hb
  have crb0 := row_cell (k := 0) (v := .int .u32 0) B_rb.out rfl
  have crb1 := row_cell (k := 1) (v := .int .u32 0) B_rb.out rfl
  have crb2 := row_cell (k := 2) (v := .bool false) B_rb.out rfl
  have crb3 := row_cell (k := 3) (v := .string ⟨#[]⟩) B_rb.out rfl
  have frb0 := row_frozen B_rb.out 0
  have frb1 := row_frozen B_rb.out 1
  have frb2 := row_frozen B_rb.out 2
  have frb3 := row_frozen B_rb.out 3
  go_wp2_with fail
  (try simp only [Exit.inBlock, Exit.then])
  have r0 : (w1.setCell ⟨rb, 0, none⟩ (.int .u32 0)).heap[rb]? = some (.cells #[.int .u32 0, .int .u32 0, .bool false, .string ⟨#[]⟩] 34) := row_set B_rb.out 0 (.int .u32 0)
  have r1 : ((w1.setCell ⟨rb, 0, none⟩ (.int .u32 0)).setCell ⟨rb, 1, none⟩ (.int .u32 0)).heap[rb]? = some (.cells #[.int .u32 0, .int .u32 0, .bool false, .string ⟨#[]⟩] 34) := row_set r0 1 (.int .u32 0)
  clear r0
  have r2 : (((w1.setCell ⟨rb, 0, none⟩ (.int .u32 0)).setCell ⟨rb, 1, none⟩ (.int .u32 0)).setCell ⟨rb, 2, none⟩ (.bool false)).heap[rb]? = some (.cells #[.int .u32 0, .int .u32 0, .bool false, .string ⟨#[]⟩] 34) := row_set r1 2 (.bool false)
  clear r1
  have r3 : ((((w1.setCell ⟨rb, 0, none⟩ (.int .u32 0)).setCell ⟨rb, 1, none⟩ (.int .u32 0)).setCell ⟨rb, 2, none⟩ (.bool false)).setCell ⟨rb, 3, none⟩ (.string ⟨#[]⟩)).heap[rb]? = some (.cells #[.int .u32 0, .int .u32 0, .bool false, .string ⟨#[]⟩] 34) := row_set r2 3 (.string ⟨#[]⟩)
  clear r2
  have hx : Ex (fun j => j = rb) w1 ((((w1.setCell ⟨rb, 0, none⟩ (.int .u32 0)).setCell ⟨rb, 1, none⟩ (.int .u32 0)).setCell ⟨rb, 2, none⟩ (.bool false)).setCell ⟨rb, 3, none⟩ (.string ⟨#[]⟩)) := (((((Ex.refl (fun j => j = rb) w1).setCell (p := ⟨rb, 0, none⟩) (.inl rfl) (.int .u32 0)).setCell (p := ⟨rb, 1, none⟩) (.inl rfl) (.int .u32 0)).setCell (p := ⟨rb, 2, none⟩) (.inl rfl) (.bool false)).setCell (p := ⟨rb, 3, none⟩) (.inl rfl) (.string ⟨#[]⟩))
  clear crb0 crb1 crb2 crb3 frb0 frb1 frb2 frb3
  generalize ((((w1.setCell ⟨rb, 0, none⟩ (.int .u32 0)).setCell ⟨rb, 1, none⟩ (.int .u32 0)).setCell ⟨rb, 2, none⟩ (.bool false)).setCell ⟨rb, 3, none⟩ (.string ⟨#[]⟩)) = wz at r3 hx ⊢
  replace B_rb := Lib.hid r3
  clear r3
  have HX_wz := Lib.hid hx
  clear hx
  refine bodyPost_ret (v := .tuple #[.agg #[.int .u32 0, .int .u32 0, .bool false, .string ⟨#[]⟩], .string ⟨#[117, 100, 112, 58, 32, 111, 99, 116, 101, 116, 115, 58, 32, 101, 114, 114, 111, 114, 32, 50]⟩]) ?_ rfl ⟨rfl, (HX_w1.out.andThen HX_wz.out (fun i hi e => by have := hb_rb; omega))⟩
  exact results_cell_row2 (p := 6) (u := 7) rfl _ _ rb 34 #[.int .u32 0, .int .u32 0, .bool false, .string ⟨#[]⟩] (0, 0) _ _ rfl rfl B_rb.out Tryd.underlying34 rfl rd_size
set_option maxRecDepth 100000 in
set_option maxHeartbeats 4000000 in
theorem rp6_form (l : List UInt8) (s t : Int) (w : World) (hl : l.length ≤ 1000000) (h8 : 8 ≤ l.length) (hz8 : dsz l < 8) :
    Calls Tryd.prog 17 #[.string (bs l), .int .u32 s, .int .u32 t] w fun e w' => e = .returned (.tuple #[rdv zdg, .string (bs (etx [lay6] 3))]) ∧ Ex (fun _ => False) w w' := by
  have hz := bs_size l
  have HL := Lib.hid hl
  clear hl
  rw [tx63, rzdg]
  obtain ⟨s02, s24, s46, s68⟩ := sub8_get h8
  obtain ⟨sz, hsz⟩ : ∃ k, nb [l.getD 4 0, l.getD 5 0] = k := ⟨_, rfl⟩
  have hszd : dsz l = sz := hsz
  rw [hszd] at hz8
  have hszl : sz ≤ 65535 := by rw [← hsz]; have := nb2_le (l.getD 4 0) (l.getD 5 0); omega
  have HSZ := Lib.hid hsz
  have HSZD := Lib.hid hszd
  have HSZL := Lib.hid hszl
  have hwz : wrap64 (sz : Int) = (sz : Int) := by unfold wrap64; omega
  clear hsz hszd hszl
  have hd1 : decide ((sz : Int) < 8) = true := by rw [decide_eq_true_eq]; omega
  clear hz8
  go_enter Tryd.func17, Tryd.ntmps17
  go_upto_region 1 with fail
  have hx : Ex (fun _ => False) w (w.alloc (.cells #[.int .u32 0, .int .u32 0, .bool false, .string ⟨#[]⟩] 34)) := (Ex.refl _ w).alloc _
  have hb : (w.alloc (.cells #[.int .u32 0, .int .u32 0, .bool false, .string ⟨#[]⟩] 34)).heap[w.heap.size]? = some (.cells #[.int .u32 0, .int .u32 0, .bool false, .string ⟨#[]⟩] 34) := heap_alloc_new w _
  obtain ⟨rb, hrb⟩ : ∃ rb, rb = w.heap.size := ⟨_, rfl⟩
  have hb_rb : w.heap.size ≤ rb := by omega
  rw [← hrb] at hb
  try simp only [← hrb]
  generalize w.alloc (.cells #[.int .u32 0, .int .u32 0, .bool false, .string ⟨#[]⟩] 34) = w1 at hx hb ⊢
  clear hrb
  have HX_w1 := Lib.hid hx
  clear hx
  have B_rb := Lib.hid hb
  clear hb
  go_wp2_with fail
  refine (rnum_any [l.getD 4 0, l.getD 5 0] (by simp) _).mono ?_
  rintro e _ ⟨rfl, rfl⟩
  rw [HSZ.out]
  have crb0 := row_cell (k := 0) (v := .int .u32 0) B_rb.out rfl
  have crb1 := row_cell (k := 1) (v := .int .u32 0) B_rb.out rfl
  have crb2 := row_cell (k := 2) (v := .bool false) B_rb.out rfl
  have crb3 := row_cell (k := 3) (v := .string ⟨#[]⟩) B_rb.out rfl
  have frb0 := row_frozen B_rb.out 0
  have frb1 := row_frozen B_rb.out 1
  have frb2 := row_frozen B_rb.out 2
  have frb3 := row_frozen B_rb.out 3
  go_wp2_with fail
  (try simp only [Exit.inBlock, Exit.then])
  have r0 : (w1.setCell ⟨rb, 0, none⟩ (.int .u32 0)).heap[rb]? = some (.cells #[.int .u32 0, .int .u32 0, .bool false, .string ⟨#[]⟩] 34) := row_set B_rb.out 0 (.int .u32 0)
  have r1 : ((w1.setCell ⟨rb, 0, none⟩ (.int .u32 0)).setCell ⟨rb, 1, none⟩ (.int .u32 0)).heap[rb]? = some (.cells #[.int .u32 0, .int .u32 0, .bool false, .string ⟨#[]⟩] 34) := row_set r0 1 (.int .u32 0)
  clear r0
  have r2 : (((w1.setCell ⟨rb, 0, none⟩ (.int .u32 0)).setCell ⟨rb, 1, none⟩ (.int .u32 0)).setCell ⟨rb, 2, none⟩ (.bool false)).heap[rb]? = some (.cells #[.int .u32 0, .int .u32 0, .bool false, .string ⟨#[]⟩] 34) := row_set r1 2 (.bool false)
  clear r1
  have r3 : ((((w1.setCell ⟨rb, 0, none⟩ (.int .u32 0)).setCell ⟨rb, 1, none⟩ (.int .u32 0)).setCell ⟨rb, 2, none⟩ (.bool false)).setCell ⟨rb, 3, none⟩ (.string ⟨#[]⟩)).heap[rb]? = some (.cells #[.int .u32 0, .int .u32 0, .bool false, .string ⟨#[]⟩] 34) := row_set r2 3 (.string ⟨#[]⟩)
  clear r2
  have hx : Ex (fun j => j = rb) w1 ((((w1.setCell ⟨rb, 0, none⟩ (.int .u32 0)).setCell ⟨rb, 1, none⟩ (.int .u32 0)).setCell ⟨rb, 2, none⟩ (.bool false)).setCell ⟨rb, 3, none⟩ (.string ⟨#[]⟩)) := (((((Ex.refl (fun j => j = rb) w1).setCell (p := ⟨rb, 0, none⟩) (.inl rfl) (.int .u32 0)).setCell (p := ⟨rb, 1, none⟩) (.inl rfl) (.int .u32 0)).setCell (p := ⟨rb, 2, none⟩) (.inl rfl) (.bool false)).setCell (p := ⟨rb, 3, none⟩) (.inl rfl) (.string ⟨#[]⟩))
  clear crb0 crb1 crb2 crb3 frb0 frb1 frb2 frb3
  generalize ((((w1.setCell ⟨rb, 0, none⟩ (.int .u32 0)).setCell ⟨rb, 1, none⟩ (.int .u32 0)).setCell ⟨rb, 2, none⟩ (.bool false)).setCell ⟨rb, 3, none⟩ (.string ⟨#[]⟩)) = wz at r3 hx ⊢
  replace B_rb := Lib.hid r3
  clear r3
  have HX_wz := Lib.hid hx
  clear hx
  refine bodyPost_ret (v := .tuple #[.agg #[.int .u32 0, .int .u32 0, .bool false, .string ⟨#[]⟩], .string ⟨#[117, 100, 112, 58, 32, 101, 114, 114, 111, 114, 32, 51]⟩]) ?_ rfl ⟨rfl, (HX_w1.out.andThen HX_wz.out (fun i hi e => by have := hb_rb; omega))⟩
  exact results_cell_row2 (p := 6) (u := 7) rfl _ _ rb 34 #[.int .u32 0, .int .u32 0, .bool false, .string ⟨#[]⟩] (0, 0) _ _ rfl rfl B_rb.out Tryd.underlying34 rfl rd_size
set_option maxRecDepth 100000 in
set_option maxHeartbeats 4000000 in
theorem rp6_cut (l : List UInt8) (s t : Int) (w : World) (hl : l.length ≤ 1000000) (h8 : 8 ≤ l.length) (hz8 : 8 ≤ dsz l) (hzl : l.length < dsz l) :
    Calls Tryd.prog 17 #[.string (bs l), .int .u32 s, .int .u32 t] w fun e w' => e = .returned (.tuple #[rdv zdg, .string (bs (etx [lay6] 2))]) ∧ Ex (fun _ => False) w w' := by
  have hz := bs_size l
  have HL := Lib.hid hl
  clear hl
  rw [tx62, rzdg]
  obtain ⟨s02, s24, s46, s68⟩ := sub8_get h8
  obtain ⟨sz, hsz⟩ : ∃ k, nb [l.getD 4 0, l.getD 5 0] = k := ⟨_, rfl⟩
  have hszd : dsz l = sz := hsz
  rw [hszd] at hz8 hzl
  have hszl : sz ≤ 65535 := by rw [← hsz]; have := nb2_le (l.getD 4 0) (l.getD 5 0); omega
  have HSZ := Lib.hid hsz
  have HSZD := Lib.hid hszd
  have HSZL := Lib.hid hszl
  have hwz : wrap64 (sz : Int) = (sz : Int) := by unfold wrap64; omega
  clear hsz hszd hszl
  have hd1 : decide ((sz : Int) < 8) = false := by rw [decide_eq_false_iff_not]; omega
  have hd2 : decide (l.length < sz) = true := by rw [decide_eq_true_eq]; omega
  clear hz8 hzl
  go_enter Tryd.func17, Tryd.ntmps17
  go_upto_region 1 with fail
  have hx : Ex (fun _ => False) w (w.alloc (.cells #[.int .u32 0, .int .u32 0, .bool false, .string ⟨#[]⟩] 34)) := (Ex.refl _ w).alloc _
  have hb : (w.alloc (.cells #[.int .u32 0, .int .u32 0, .bool false, .string ⟨#[]⟩] 34)).heap[w.heap.size]? = some (.cells #[.int .u32 0, .int .u32 0, .bool false, .string ⟨#[]⟩] 34) := heap_alloc_new w _
  obtain ⟨rb, hrb⟩ : ∃ rb, rb = w.heap.size := ⟨_, rfl⟩
  have hb_rb : w.heap.size ≤ rb := by omega
  rw [← hrb] at hb
  try simp only [← hrb]
  generalize w.alloc (.cells #[.int .u32 0, .int .u32 0, .bool false, .string ⟨#[]⟩] 34) = w1 at hx hb ⊢
  clear hrb
  have HX_w1 := Lib.hid hx
  clear hx
  have B_rb := Lib.hid hb
  clear hb
  go_wp2_with fail
  refine (rnum_any [l.getD 4 0, l.getD 5 0] (by simp) _).mono ?_
  rintro e _ ⟨rfl, rfl⟩
  rw [HSZ.out]
  have crb0 := row_cell (k := 0) (v := .int .u32 0) B_rb.out rfl
  have crb1 := row_cell (k := 1) (v := .int .u32 0) B_rb.out rfl
  have crb2 := row_cell (k := 2) (v := .bool false) B_rb.out rfl
  have crb3 := row_cell (k := 3) (v := .string ⟨#[]⟩) B_rb.out rfl
  have frb0 := row_frozen B_rb.out 0
  have frb1 := row_frozen B_rb.out 1
  have frb2 := row_frozen B_rb.out 2
  have frb3 := row_frozen B_rb.out 3
  go_wp2_with fail
  (try simp only [Exit.inBlock, Exit.then])
  have r0 : (w1.setCell ⟨rb, 0, none⟩ (.int .u32 0)).heap[rb]? = some (.cells #[.int .u32 0, .int .u32 0, .bool false, .string ⟨#[]⟩] 34) := row_set B_rb.out 0 (.int .u32 0)
  have r1 : ((w1.setCell ⟨rb, 0, none⟩ (.int .u32 0)).setCell ⟨rb, 1, none⟩ (.int .u32 0)).heap[rb]? = some (.cells #[.int .u32 0, .int .u32 0, .bool false, .string ⟨#[]⟩] 34) := row_set r0 1 (.int .u32 0)
  clear r0
  have r2 : (((w1.setCell ⟨rb, 0, none⟩ (.int .u32 0)).setCell ⟨rb, 1, none⟩ (.int .u32 0)).setCell ⟨rb, 2, none⟩ (.bool false)).heap[rb]? = some (.cells #[.int .u32 0, .int .u32 0, .bool false, .string ⟨#[]⟩] 34) := row_set r1 2 (.bool false)
  clear r1
  have r3 : ((((w1.setCell ⟨rb, 0, none⟩ (.int .u32 0)).setCell ⟨rb, 1, none⟩ (.int .u32 0)).setCell ⟨rb, 2, none⟩ (.bool false)).setCell ⟨rb, 3, none⟩ (.string ⟨#[]⟩)).heap[rb]? = some (.cells #[.int .u32 0, .int .u32 0, .bool false, .string ⟨#[]⟩] 34) := row_set r2 3 (.string ⟨#[]⟩)
  clear r2
  have hx : Ex (fun j => j = rb) w1 ((((w1.setCell ⟨rb, 0, none⟩ (.int .u32 0)).setCell ⟨rb, 1, none⟩ (.int .u32 0)).setCell ⟨rb, 2, none⟩ (.bool false)).setCell ⟨rb, 3, none⟩ (.string ⟨#[]⟩)) := (((((Ex.refl (fun j => j = rb) w1).setCell (p := ⟨rb, 0, none⟩) (.inl rfl) (.int .u32 0)).setCell (p := ⟨rb, 1, none⟩) (.inl rfl) (.int .u32 0)).setCell (p := ⟨rb, 2, none⟩) (.inl rfl) (.bool false)).setCell (p := ⟨rb, 3, none⟩) (.inl rfl) (.string ⟨#[]⟩))
  clear crb0 crb1 crb2 crb3 frb0 frb1 frb2 frb3
  generalize ((((w1.setCell ⟨rb, 0, none⟩ (.int .u32 0)).setCell ⟨rb, 1, none⟩ (.int .u32 0)).setCell ⟨rb, 2, none⟩ (.bool false)).setCell ⟨rb, 3, none⟩ (.string ⟨#[]⟩)) = wz at r3 hx ⊢
  replace B_rb := Lib.hid r3
  clear r3
  have HX_wz := Lib.hid hx
  clear hx
  refine bodyPost_ret (v := .tuple #[.agg #[.int .u32 0, .int .u32 0, .bool false, .string ⟨#[]⟩], .string ⟨#[117, 100, 112, 58, 32, 101, 114, 114, 111, 114, 32, 50]⟩]) ?_ rfl ⟨rfl, (HX_w1.out.andThen HX_wz.out (fun i hi e => by have := hb_rb; omega))⟩
  exact results_cell_row2 (p := 6) (u := 7) rfl _ _ rb 34 #[.int .u32 0, .int .u32 0, .bool false, .string ⟨#[]⟩] (0, 0) _ _ rfl rfl B_rb.out Tryd.underlying34 rfl rd_size
set_option maxRecDepth 100000 in
set_option maxHeartbeats 4000000 in
theorem rp6_plain (l : List UInt8) (s t : Int) (w : World) (hl : l.length ≤ 1000000) (h8 : 8 ≤ l.length) (hz8 : 8 ≤ dsz l) (hzl : dsz l ≤ l.length) (hps : dsm l = 0) :
    Calls Tryd.prog 17 #[.string (bs l), .int .u32 s, .int .u32 t] w fun e w' => e = .returned (.tuple #[rdv (pd l), .string ⟨#[]⟩]) ∧ Ex (fun _ => False) w w' := by
  have hz := bs_size l
  have HL := Lib.hid hl
  clear hl
  obtain ⟨s02, s24, s46, s68⟩ := sub8_get h8
  obtain ⟨sz, hsz⟩ : ∃ k, nb [l.getD 4 0, l.getD 5 0] = k := ⟨_, rfl⟩
  have hszd : dsz l = sz := hsz
  rw [hszd] at hz8 hzl
  have hszl : sz ≤ 65535 := by rw [← hsz]; have := nb2_le (l.getD 4 0) (l.getD 5 0); omega
  have HSZ := Lib.hid hsz
  have HSZD := Lib.hid hszd
  have HSZL := Lib.hid hszl
  have hwz : wrap64 (sz : Int) = (sz : Int) := by unfold wrap64; omega
  clear hsz hszd hszl
  have hd1 : decide ((sz : Int) < 8) = false := by rw [decide_eq_false_iff_not]; omega
  have hd2 : decide (l.length < sz) = false := by rw [decide_eq_false_iff_not]; omega
  have q1 : (bs l).extract 8 sz = bs ((l.take sz).drop 8) := dbs_sub l 8 sz hzl
  have q2 : (bs l).extract 0 sz = bs (l.take sz) := by rw [dbs_sub l 0 sz hzl, List.drop_zero]
  have q3 : (8 : Int) ≤ (sz : Int) := by omega
  have i2 : (2 : Int) ≤ (l.length : Int) := by omega
  have i4 : (4 : Int) ≤ (l.length : Int) := by omega
  have i6 : (6 : Int) ≤ (l.length : Int) := by omega
  have i8 : (8 : Int) ≤ (l.length : Int) := by omega
  have q4 : sz ≤ l.length := hzl
  have q5 : (sz : Int) ≤ (l.length : Int) := by omega
  obtain ⟨n0, hn0⟩ : ∃ k, nb [l.getD 0 0, l.getD 1 0] = k := ⟨_, rfl⟩
  obtain ⟨n1, hn1⟩ : ∃ k, nb [l.getD 2 0, l.getD 3 0] = k := ⟨_, rfl⟩
  obtain ⟨sm, hsm⟩ : ∃ k, nb [l.getD 6 0, l.getD 7 0] = k := ⟨_, rfl⟩
  have hpl : dsm l = sm := hsm
  rw [hpl] at hps
  obtain ⟨bb, hbb⟩ : ∃ b, (l.take sz).drop 8 = b := ⟨_, rfl⟩
  rw [hbb] at q1
  obtain ⟨pl, hplv⟩ : ∃ b : Bool, b = true := ⟨_, rfl⟩
  have hd3 : ((sm : Int) == 0) = pl := by rw [hplv]; rw [beq_iff_eq]; omega
  have hpd : pd l = ⟨(n0 : Int), (n1 : Int), pl, bb⟩ := by
    have e : pd l = ⟨(nb [l.getD 0 0, l.getD 1 0] : Int), (nb [l.getD 2 0, l.getD 3 0] : Int), decide (dsm l = 0), (l.take (dsz l)).drop 8⟩ := rfl
    rw [e, hn0, hn1, HSZD.out, hbb, hpl, hplv]
    congr 1
    rw [decide_eq_true_eq]; exact hps
  rw [hpd]
  have hrv : rdv ⟨(n0 : Int), (n1 : Int), pl, bb⟩ = .agg #[.int .u32 (n0 : Int), .int .u32 (n1 : Int), .bool pl, .string (bs bb)] := rfl
  rw [hrv]
  have HN0 := Lib.hid hn0
  have HN1 := Lib.hid hn1
  have HSM := Lib.hid hsm
  have HPLV := Lib.hid hplv
  have HZL := Lib.hid hzl
  clear hz8 hzl hn0 hn1 hsm hpl hps hbb hplv hpd hrv
  go_enter Tryd.func17, Tryd.ntmps17
  go_upto_region 1 with fail
  have hx : Ex (fun _ => False) w (w.alloc (.cells #[.int .u32 0, .int .u32 0, .bool false, .string ⟨#[]⟩] 34)) := (Ex.refl _ w).alloc _
  have hb : (w.alloc (.cells #[.int .u32 0, .int .u32 0, .bool false, .string ⟨#[]⟩] 34)).heap[w.heap.size]? = some (.cells #[.int .u32 0, .int .u32 0, .bool false, .string ⟨#[]⟩] 34) := heap_alloc_new w _
  obtain ⟨rb, hrb⟩ : ∃ rb, rb = w.heap.size := ⟨_, rfl⟩
  have hb_rb : w.heap.size ≤ rb := by omega
  rw [← hrb] at hb
  try simp only [← hrb]
  generalize w.alloc (.cells #[.int .u32 0, .int .u32 0, .bool false, .string ⟨#[]⟩] 34) = w1 at hx hb ⊢
  clear hrb
  have HX_w1 := Lib.hid hx
  clear hx
  have B_rb := Lib.hid hb
  clear hb
  go_wp2_with fail
  refine (rnum_any [l.getD 4 0, l.getD 5 0] (by simp) _).mono ?_
  rintro e _ ⟨rfl, rfl⟩
  rw [HSZ.out]
  go_upto_region 8 with fail
  try rw [hwz]
  go_cut [9] (fun x wx => ∃ pb : Nat, x = .pointer (some ⟨pb, 0, none⟩) ∧ Hid (wx.heap[pb]? = some (.cells #[.int .u32 (n0 : Int), .int .u32 (n1 : Int), .bool pl, .string (bs bb)] 34)) ∧ Hid (Ex (fun _ => False) w1 wx))
  case first =>
    have hS0 : Ex (fun _ => False) w1 w1.drew := (Ex.refl _ w1).drew
    refine wp_region_held_drew (S := fun W => Ex (fun _ => False) w1 W) (by kernel_rfl) hS0 (fun _ => ?_)
    generalize w1.drew = wd at hS0 ⊢
    have HX_wd := Lib.hid hS0
    have hS := hS0
    clear hS0
    refine wpAnyH_take (i := 0) (oi := { dst := some 26, op := Go.Op.move (Go.Operand.tmp 0), type := 9, pos := "ref.go:49", after := #[], guard := none }) (v := ?v1) rfl (by kernel_rfl) (by kernel_rfl) (by kernel_rfl) (fun _ _ _ h => h) (Or.inl ⟨by rfl, ?hy1⟩) (by assumption) ?rest1
    case hy1 => (intro w hSw; (try dsimp only at hSw); go_simp <;> with_reducible rfl)
    try simp only [Act.put, List.setIfInBounds_toArray, List.set_cons_zero, List.set_cons_succ]
    refine wpAnyH_take (i := 1) (oi := { dst := some 27, op := Go.Op.slice 9 (Go.Operand.tmp 26) none (some (Go.Operand.const (Go.Value.int Go.IntKind.i64 2))) none, type := 9, pos := "ref.go:49", after := #[{ on := 0, ground := Go.Ground.data }], guard := none }) (v := ?v2) rfl (by kernel_rfl) (by kernel_rfl) (by kernel_rfl) (fun _ _ _ h => h) (Or.inl ⟨by rfl, ?hy2⟩) (by assumption) ?rest2
    case hy2 => (intro w hSw; (try dsimp only at hSw); go_simp <;> with_reducible rfl)
    try simp only [Act.put, List.setIfInBounds_toArray, List.set_cons_zero, List.set_cons_succ]
    refine wpAnyH_take (i := 3) (oi := { dst := some 29, op := Go.Op.move (Go.Operand.tmp 0), type := 9, pos := "ref.go:49", after := #[], guard := none }) (v := ?v3) rfl (by kernel_rfl) (by kernel_rfl) (by kernel_rfl) (fun _ _ _ h => h) (Or.inl ⟨by rfl, ?hy3⟩) (by assumption) ?rest3
    case hy3 => (intro w hSw; (try dsimp only at hSw); go_simp <;> with_reducible rfl)
    try simp only [Act.put, List.setIfInBounds_toArray, List.set_cons_zero, List.set_cons_succ]
    refine wpAnyH_take (i := 4) (oi := { dst := some 30, op := Go.Op.slice 9 (Go.Operand.tmp 29) (some (Go.Operand.const (Go.Value.int Go.IntKind.i64 2))) (some (Go.Operand.const (Go.Value.int Go.IntKind.i64 4))) none, type := 9, pos := "ref.go:49", after := #[{ on := 3, ground := Go.Ground.data }], guard := none }) (v := ?v4) rfl (by kernel_rfl) (by kernel_rfl) (by kernel_rfl) (fun _ _ _ h => h) (Or.inl ⟨by rfl, ?hy4⟩) (by assumption) ?rest4
    case hy4 => (intro w hSw; (try dsimp only at hSw); go_simp <;> with_reducible rfl)
    try simp only [Act.put, List.setIfInBounds_toArray, List.set_cons_zero, List.set_cons_succ]
    refine wpAnyH_take (i := 6) (oi := { dst := some 32, op := Go.Op.move (Go.Operand.tmp 0), type := 9, pos := "ref.go:49", after := #[], guard := none }) (v := ?v5) rfl (by kernel_rfl) (by kernel_rfl) (by kernel_rfl) (fun _ _ _ h => h) (Or.inl ⟨by rfl, ?hy5⟩) (by assumption) ?rest5
    case hy5 => (intro w hSw; (try dsimp only at hSw); go_simp <;> with_reducible rfl)
    try simp only [Act.put, List.setIfInBounds_toArray, List.set_cons_zero, List.set_cons_succ]
    refine wpAnyH_take (i := 7) (oi := { dst := some 33, op := Go.Op.slice 9 (Go.Operand.tmp 32) (some (Go.Operand.const (Go.Value.int Go.IntKind.i64 6))) (some (Go.Operand.const (Go.Value.int Go.IntKind.i64 8))) none, type := 9, pos := "ref.go:49", after := #[{ on := 6, ground := Go.Ground.data }], guard := none }) (v := ?v6) rfl (by kernel_rfl) (by kernel_rfl) (by kernel_rfl) (fun _ _ _ h => h) (Or.inl ⟨by rfl, ?hy6⟩) (by assumption) ?rest6
    case hy6 => (intro w hSw; (try dsimp only at hSw); go_simp <;> with_reducible rfl)
    try simp only [Act.put, List.setIfInBounds_toArray, List.set_cons_zero, List.set_cons_succ]
    refine wpAnyH_take (i := 10) (oi := { dst := some 36, op := Go.Op.move (Go.Operand.tmp 0), type := 9, pos := "ref.go:49", after := #[], guard := none }) (v := ?v7) rfl (by kernel_rfl) (by kernel_rfl) (by kernel_rfl) (fun _ _ _ h => h) (Or.inl ⟨by rfl, ?hy7⟩) (by assumption) ?rest7
    case hy7 => (intro w hSw; (try dsimp only at hSw); go_simp <;> with_reducible rfl)
    try simp only [Act.put, List.setIfInBounds_toArray, List.set_cons_zero, List.set_cons_succ]
    refine wpAnyH_take (i := 11) (oi := { dst := some 37, op := Go.Op.move (Go.Operand.tmp 8), type := 3, pos := "ref.go:49", after := #[], guard := none }) (v := ?v8) rfl (by kernel_rfl) (by kernel_rfl) (by kernel_rfl) (fun _ _ _ h => h) (Or.inl ⟨by rfl, ?hy8⟩) (by assumption) ?rest8
    case hy8 => (intro w hSw; (try dsimp only at hSw); go_simp <;> with_reducible rfl)
    try simp only [Act.put, List.setIfInBounds_toArray, List.set_cons_zero, List.set_cons_succ]
    refine wpAnyH_take (i := 12) (oi := { dst := some 38, op := Go.Op.slice 9 (Go.Operand.tmp 36) (some (Go.Operand.const (Go.Value.int Go.IntKind.i64 8))) (some (Go.Operand.tmp 37)) none, type := 9, pos := "ref.go:49", after := #[{ on := 10, ground := Go.Ground.data }, { on := 11, ground := Go.Ground.data }], guard := none }) (v := ?v9) rfl (by kernel_rfl) (by kernel_rfl) (by kernel_rfl) (fun _ _ _ h => h) (Or.inl ⟨by rfl, ?hy9⟩) (by assumption) ?rest9
    case hy9 => (intro w hSw; (try dsimp only at hSw); go_simp <;> with_reducible rfl)
    try simp only [Act.put, List.setIfInBounds_toArray, List.set_cons_zero, List.set_cons_succ]
    refine wpAnyH_ready (rs := [2, 14]) (by kernel_rfl) (by simp) ?_
    refine AllReadyH.cons (o := { dst := some 28, op := Go.Op.call { callee := Go.Callee.value (Go.Operand.func 44), args := #[Go.Operand.tmp 27], argTypes := #[9] }, type := 26, pos := "ref.go:49", after := #[{ on := 1, ground := Go.Ground.data }], guard := none }) rfl (fun K hK => ?_) ?_
    ·
      go_simp
      refine (rnum_any [l.getD 0 0, l.getD 1 0] (by simp) _).mono ?_
      rintro e v ⟨rfl, rfl⟩
      rw [HN0.out]
      refine hK.out _ _ hS (fun _ => ?_)
      refine wpAnyH_ready (rs := [5, 14]) (by kernel_rfl) (by simp) ?_
      refine AllReadyH.cons (o := { dst := some 31, op := Go.Op.call { callee := Go.Callee.value (Go.Operand.func 44), args := #[Go.Operand.tmp 30], argTypes := #[9] }, type := 26, pos := "ref.go:49", after := #[{ on := 4, ground := Go.Ground.data }, { on := 2, ground := Go.Ground.chain }], guard := none }) rfl (fun K hK => ?_) ?_
      ·
        go_simp
        refine (rnum_any [l.getD 2 0, l.getD 3 0] (by simp) _).mono ?_
        rintro e v ⟨rfl, rfl⟩
        rw [HN1.out]
        refine hK.out _ _ hS (fun _ => ?_)
        refine wpAnyH_ready (rs := [8, 14]) (by kernel_rfl) (by simp) ?_
        refine AllReadyH.cons (o := { dst := some 34, op := Go.Op.call { callee := Go.Callee.value (Go.Operand.func 44), args := #[Go.Operand.tmp 33], argTypes := #[9] }, type := 26, pos := "ref.go:49", after := #[{ on := 7, ground := Go.Ground.data }, { on := 5, ground := Go.Ground.chain }], guard := none }) rfl (fun K hK => ?_) ?_
        ·
          go_simp
          refine (rnum_any [l.getD 6 0, l.getD 7 0] (by simp) _).mono ?_
          rintro e v ⟨rfl, rfl⟩
          rw [HSM.out]
          refine hK.out _ _ hS (fun _ => ?_)
          refine wpAnyH_take (i := 9) (oi := { dst := some 35, op := Go.Op.binOp Go.BinOp.eql 26 (Go.Operand.tmp 34) (Go.Operand.const (Go.Value.int Go.IntKind.u32 0)) 26, type := 4, pos := "ref.go:49", after := #[{ on := 8, ground := Go.Ground.data }], guard := none }) (v := ?v10) rfl (by kernel_rfl) (by kernel_rfl) (by kernel_rfl) (fun _ _ _ h => h) (Or.inl ⟨by rfl, ?hy10⟩) (by assumption) ?rest10
          case hy10 => (intro w hSw; (try dsimp only at hSw); go_simp <;> with_reducible rfl)
          try simp only [Act.put, List.setIfInBounds_toArray, List.set_cons_zero, List.set_cons_succ]
          refine wpAnyH_take (i := 13) (oi := { dst := some 39, op := Go.Op.build 34 #[(0, Go.Operand.tmp 28), (1, Go.Operand.tmp 31), (2, Go.Operand.tmp 35), (3, Go.Operand.tmp 38)], type := 34, pos := "ref.go:49", after := #[{ on := 2, ground := Go.Ground.data }, { on := 5, ground := Go.Ground.data }, { on := 9, ground := Go.Ground.data }, { on := 12, ground := Go.Ground.data }], guard := none }) (v := ?v11) rfl (by kernel_rfl) (by kernel_rfl) (by kernel_rfl) (fun _ _ _ h => h) (Or.inl ⟨by rfl, ?hy11⟩) (by assumption) ?rest11
          case hy11 => (intro w hSw; (try dsimp only at hSw); go_simp <;> with_reducible rfl)
          try simp only [Act.put, List.setIfInBounds_toArray, List.set_cons_zero, List.set_cons_succ]
          refine wpAnyH_ready (rs := [14]) (by kernel_rfl) (by simp) ?_
          refine AllReadyH.cons (o := { dst := some 9, op := Go.Op.alloc 34, type := 0, pos := "ref.go:49", after := #[], guard := none }) rfl (fun K hK => ?_) AllReadyH.nil
          go_simp
          have hx : Ex (fun _ => False) wd (wd.alloc (.cells #[.int .u32 0, .int .u32 0, .bool false, .string ⟨#[]⟩] 34)) := (Ex.refl _ wd).alloc _
          have hb : (wd.alloc (.cells #[.int .u32 0, .int .u32 0, .bool false, .string ⟨#[]⟩] 34)).heap[wd.heap.size]? = some (.cells #[.int .u32 0, .int .u32 0, .bool false, .string ⟨#[]⟩] 34) := heap_alloc_new wd _
          obtain ⟨pb, hpb⟩ : ∃ pb, pb = wd.heap.size := ⟨_, rfl⟩
          have hb_pb : wd.heap.size ≤ pb := by omega
          rw [← hpb] at hb
          try simp only [← hpb]
          generalize wd.alloc (.cells #[.int .u32 0, .int .u32 0, .bool false, .string ⟨#[]⟩] 34) = we at hx hb ⊢
          clear hpb
          have HX_we := Lib.hid hx
          clear hx
          have B_pb := Lib.hid hb
          clear hb
          have hS : Ex (fun _ => False) w1 we := (HX_wd.out.trans HX_we.out)
          refine hK.out _ _ hS (fun _ => ?_)
          refine wpAnyH_ready (rs := [15]) (by kernel_rfl) (by simp) ?_
          refine AllReadyH.cons (o := { dst := none, op := Go.Op.store 34 (Go.Operand.tmp 9) (Go.Operand.tmp 39), type := 0, pos := "ref.go:49", after := #[{ on := 14, ground := Go.Ground.data }, { on := 13, ground := Go.Ground.data }, { on := 8, ground := Go.Ground.chain }, { on := 0, ground := Go.Ground.phase }, { on := 1, ground := Go.Ground.phase }, { on := 2, ground := Go.Ground.phase }, { on := 3, ground := Go.Ground.phase }, { on := 4, ground := Go.Ground.phase }, { on := 5, ground := Go.Ground.phase }, { on := 6, ground := Go.Ground.phase }, { on := 7, ground := Go.Ground.phase }, { on := 8, ground := Go.Ground.phase }, { on := 9, ground := Go.Ground.phase }, { on := 10, ground := Go.Ground.phase }, { on := 11, ground := Go.Ground.phase }, { on := 12, ground := Go.Ground.phase }, { on := 13, ground := Go.Ground.phase }, { on := 14, ground := Go.Ground.phase }], guard := none }) rfl (fun K hK => ?_) AllReadyH.nil
          have cpb0 := row_cell (k := 0) (v := .int .u32 0) B_pb.out rfl
          have cpb1 := row_cell (k := 1) (v := .int .u32 0) B_pb.out rfl
          have cpb2 := row_cell (k := 2) (v := .bool false) B_pb.out rfl
          have cpb3 := row_cell (k := 3) (v := .string ⟨#[]⟩) B_pb.out rfl
          have fpb0 := row_frozen B_pb.out 0
          have fpb1 := row_frozen B_pb.out 1
          have fpb2 := row_frozen B_pb.out 2
          have fpb3 := row_frozen B_pb.out 3
          go_simp
          have r0 : (we.setCell ⟨pb, 0, none⟩ (.int .u32 (n0 : Int))).heap[pb]? = some (.cells #[.int .u32 (n0 : Int), .int .u32 0, .bool false, .string ⟨#[]⟩] 34) := row_set B_pb.out 0 (.int .u32 (n0 : Int))
          have r1 : ((we.setCell ⟨pb, 0, none⟩ (.int .u32 (n0 : Int))).setCell ⟨pb, 1, none⟩ (.int .u32 (n1 : Int))).heap[pb]? = some (.cells #[.int .u32 (n0 : Int), .int .u32 (n1 : Int), .bool false, .string ⟨#[]⟩] 34) := row_set r0 1 (.int .u32 (n1 : Int))
          clear r0
          have r2 : (((we.setCell ⟨pb, 0, none⟩ (.int .u32 (n0 : Int))).setCell ⟨pb, 1, none⟩ (.int .u32 (n1 : Int))).setCell ⟨pb, 2, none⟩ (.bool pl)).heap[pb]? = some (.cells #[.int .u32 (n0 : Int), .int .u32 (n1 : Int), .bool pl, .string ⟨#[]⟩] 34) := row_set r1 2 (.bool pl)
          clear r1
          have r3 : ((((we.setCell ⟨pb, 0, none⟩ (.int .u32 (n0 : Int))).setCell ⟨pb, 1, none⟩ (.int .u32 (n1 : Int))).setCell ⟨pb, 2, none⟩ (.bool pl)).setCell ⟨pb, 3, none⟩ (.string (bs bb))).heap[pb]? = some (.cells #[.int .u32 (n0 : Int), .int .u32 (n1 : Int), .bool pl, .string (bs bb)] 34) := row_set r2 3 (.string (bs bb))
          clear r2
          have hx : Ex (fun j => j = pb) we ((((we.setCell ⟨pb, 0, none⟩ (.int .u32 (n0 : Int))).setCell ⟨pb, 1, none⟩ (.int .u32 (n1 : Int))).setCell ⟨pb, 2, none⟩ (.bool pl)).setCell ⟨pb, 3, none⟩ (.string (bs bb))) := (((((Ex.refl (fun j => j = pb) we).setCell (p := ⟨pb, 0, none⟩) (.inl rfl) (.int .u32 (n0 : Int))).setCell (p := ⟨pb, 1, none⟩) (.inl rfl) (.int .u32 (n1 : Int))).setCell (p := ⟨pb, 2, none⟩) (.inl rfl) (.bool pl)).setCell (p := ⟨pb, 3, none⟩) (.inl rfl) (.string (bs bb)))
          clear cpb0 cpb1 cpb2 cpb3 fpb0 fpb1 fpb2 fpb3
          generalize ((((we.setCell ⟨pb, 0, none⟩ (.int .u32 (n0 : Int))).setCell ⟨pb, 1, none⟩ (.int .u32 (n1 : Int))).setCell ⟨pb, 2, none⟩ (.bool pl)).setCell ⟨pb, 3, none⟩ (.string (bs bb))) = wf at r3 hx ⊢
          replace B_pb := Lib.hid r3
          clear r3
          have HX_wf := Lib.hid hx
          clear hx
          have hS : Ex (fun _ => False) w1 wf := ((HX_wd.out.trans HX_we.out).andThen HX_wf.out (fun i hi e => by have := HX_wd.out.size; have := hb_pb; omega))
          refine hK.out _ _ hS (fun _ => ?_)
          refine wpAnyH_done (by kernel_rfl) ?_ _
          go_wp2_with fail
          go_meet
          exact ⟨pb, rfl, Lib.hid B_pb.out, Lib.hid ((HX_wd.out.trans HX_we.out).andThen HX_wf.out (fun i hi e => by have := HX_wd.out.size; have := hb_pb; omega))⟩
        refine AllReadyH.cons (o := { dst := some 9, op := Go.Op.alloc 34, type := 0, pos := "ref.go:49", after := #[], guard := none }) rfl (fun K hK => ?_) AllReadyH.nil
        go_simp
        have hx : Ex (fun _ => False) wd (wd.alloc (.cells #[.int .u32 0, .int .u32 0, .bool false, .string ⟨#[]⟩] 34)) := (Ex.refl _ wd).alloc _
        have hb : (wd.alloc (.cells #[.int .u32 0, .int .u32 0, .bool false, .string ⟨#[]⟩] 34)).heap[wd.heap.size]? = some (.cells #[.int .u32 0, .int .u32 0, .bool false, .string ⟨#[]⟩] 34) := heap_alloc_new wd _
        obtain ⟨pb, hpb⟩ : ∃ pb, pb = wd.heap.size := ⟨_, rfl⟩
        have hb_pb : wd.heap.size ≤ pb := by omega
        rw [← hpb] at hb
        try simp only [← hpb]
        generalize wd.alloc (.cells #[.int .u32 0, .int .u32 0, .bool false, .string ⟨#[]⟩] 34) = we at hx hb ⊢
        clear hpb
        have HX_we := Lib.hid hx
        clear hx
        have B_pb := Lib.hid hb
        clear hb
        have hS : Ex (fun _ => False) w1 we := (HX_wd.out.trans HX_we.out)
        refine hK.out _ _ hS (fun _ => ?_)
        refine wpAnyH_ready (rs := [8]) (by kernel_rfl) (by simp) ?_
        refine AllReadyH.cons (o := { dst := some 34, op := Go.Op.call { callee := Go.Callee.value (Go.Operand.func 44), args := #[Go.Operand.tmp 33], argTypes := #[9] }, type := 26, pos := "ref.go:49", after := #[{ on := 7, ground := Go.Ground.data }, { on := 5, ground := Go.Ground.chain }], guard := none }) rfl (fun K hK => ?_) AllReadyH.nil
        go_simp
        refine (rnum_any [l.getD 6 0, l.getD 7 0] (by simp) _).mono ?_
        rintro e v ⟨rfl, rfl⟩
        rw [HSM.out]
        refine hK.out _ _ hS (fun _ => ?_)
        refine wpAnyH_take (i := 9) (oi := { dst := some 35, op := Go.Op.binOp Go.BinOp.eql 26 (Go.Operand.tmp 34) (Go.Operand.const (Go.Value.int Go.IntKind.u32 0)) 26, type := 4, pos := "ref.go:49", after := #[{ on := 8, ground := Go.Ground.data }], guard := none }) (v := ?v12) rfl (by kernel_rfl) (by kernel_rfl) (by kernel_rfl) (fun _ _ _ h => h) (Or.inl ⟨by rfl, ?hy12⟩) (by assumption) ?rest12
        case hy12 => (intro w hSw; (try dsimp only at hSw); go_simp <;> with_reducible rfl)
        try simp only [Act.put, List.setIfInBounds_toArray, List.set_cons_zero, List.set_cons_succ]
        refine wpAnyH_take (i := 13) (oi := { dst := some 39, op := Go.Op.build 34 #[(0, Go.Operand.tmp 28), (1, Go.Operand.tmp 31), (2, Go.Operand.tmp 35), (3, Go.Operand.tmp 38)], type := 34, pos := "ref.go:49", after := #[{ on := 2, ground := Go.Ground.data }, { on := 5, ground := Go.Ground.data }, { on := 9, ground := Go.Ground.data }, { on := 12, ground := Go.Ground.data }], guard := none }) (v := ?v13) rfl (by kernel_rfl) (by kernel_rfl) (by kernel_rfl) (fun _ _ _ h => h) (Or.inl ⟨by rfl, ?hy13⟩) (by assumption) ?rest13
        case hy13 => (intro w hSw; (try dsimp only at hSw); go_simp <;> with_reducible rfl)
        try simp only [Act.put, List.setIfInBounds_toArray, List.set_cons_zero, List.set_cons_succ]
        refine wpAnyH_ready (rs := [15]) (by kernel_rfl) (by simp) ?_
        refine AllReadyH.cons (o := { dst := none, op := Go.Op.store 34 (Go.Operand.tmp 9) (Go.Operand.tmp 39), type := 0, pos := "ref.go:49", after := #[{ on := 14, ground := Go.Ground.data }, { on := 13, ground := Go.Ground.data }, { on := 8, ground := Go.Ground.chain }, { on := 0, ground := Go.Ground.phase }, { on := 1, ground := Go.Ground.phase }, { on := 2, ground := Go.Ground.phase }, { on := 3, ground := Go.Ground.phase }, { on := 4, ground := Go.Ground.phase }, { on := 5, ground := Go.Ground.phase }, { on := 6, ground := Go.Ground.phase }, { on := 7, ground := Go.Ground.phase }, { on := 8, ground := Go.Ground.phase }, { on := 9, ground := Go.Ground.phase }, { on := 10, ground := Go.Ground.phase }, { on := 11, ground := Go.Ground.phase }, { on := 12, ground := Go.Ground.phase }, { on := 13, ground := Go.Ground.phase }, { on := 14, ground := Go.Ground.phase }], guard := none }) rfl (fun K hK => ?_) AllReadyH.nil
        have cpb0 := row_cell (k := 0) (v := .int .u32 0) B_pb.out rfl
        have cpb1 := row_cell (k := 1) (v := .int .u32 0) B_pb.out rfl
        have cpb2 := row_cell (k := 2) (v := .bool false) B_pb.out rfl
        have cpb3 := row_cell (k := 3) (v := .string ⟨#[]⟩) B_pb.out rfl
        have fpb0 := row_frozen B_pb.out 0
        have fpb1 := row_frozen B_pb.out 1
        have fpb2 := row_frozen B_pb.out 2
        have fpb3 := row_frozen B_pb.out 3
        go_simp
        have r0 : (we.setCell ⟨pb, 0, none⟩ (.int .u32 (n0 : Int))).heap[pb]? = some (.cells #[.int .u32 (n0 : Int), .int .u32 0, .bool false, .string ⟨#[]⟩] 34) := row_set B_pb.out 0 (.int .u32 (n0 : Int))
        have r1 : ((we.setCell ⟨pb, 0, none⟩ (.int .u32 (n0 : Int))).setCell ⟨pb, 1, none⟩ (.int .u32 (n1 : Int))).heap[pb]? = some (.cells #[.int .u32 (n0 : Int), .int .u32 (n1 : Int), .bool false, .string ⟨#[]⟩] 34) := row_set r0 1 (.int .u32 (n1 : Int))
        clear r0
        have r2 : (((we.setCell ⟨pb, 0, none⟩ (.int .u32 (n0 : Int))).setCell ⟨pb, 1, none⟩ (.int .u32 (n1 : Int))).setCell ⟨pb, 2, none⟩ (.bool pl)).heap[pb]? = some (.cells #[.int .u32 (n0 : Int), .int .u32 (n1 : Int), .bool pl, .string ⟨#[]⟩] 34) := row_set r1 2 (.bool pl)
        clear r1
        have r3 : ((((we.setCell ⟨pb, 0, none⟩ (.int .u32 (n0 : Int))).setCell ⟨pb, 1, none⟩ (.int .u32 (n1 : Int))).setCell ⟨pb, 2, none⟩ (.bool pl)).setCell ⟨pb, 3, none⟩ (.string (bs bb))).heap[pb]? = some (.cells #[.int .u32 (n0 : Int), .int .u32 (n1 : Int), .bool pl, .string (bs bb)] 34) := row_set r2 3 (.string (bs bb))
        clear r2
        have hx : Ex (fun j => j = pb) we ((((we.setCell ⟨pb, 0, none⟩ (.int .u32 (n0 : Int))).setCell ⟨pb, 1, none⟩ (.int .u32 (n1 : Int))).setCell ⟨pb, 2, none⟩ (.bool pl)).setCell ⟨pb, 3, none⟩ (.string (bs bb))) := (((((Ex.refl (fun j => j = pb) we).setCell (p := ⟨pb, 0, none⟩) (.inl rfl) (.int .u32 (n0 : Int))).setCell (p := ⟨pb, 1, none⟩) (.inl rfl) (.int .u32 (n1 : Int))).setCell (p := ⟨pb, 2, none⟩) (.inl rfl) (.bool pl)).setCell (p := ⟨pb, 3, none⟩) (.inl rfl) (.string (bs bb)))
        clear cpb0 cpb1 cpb2 cpb3 fpb0 fpb1 fpb2 fpb3
        generalize ((((we.setCell ⟨pb, 0, none⟩ (.int .u32 (n0 : Int))).setCell ⟨pb, 1, none⟩ (.int .u32 (n1 : Int))).setCell ⟨pb, 2, none⟩ (.bool pl)).setCell ⟨pb, 3, none⟩ (.string (bs bb))) = wf at r3 hx ⊢
        replace B_pb := Lib.hid r3
        clear r3
        have HX_wf := Lib.hid hx
        clear hx
        have hS : Ex (fun _ => False) w1 wf := ((HX_wd.out.trans HX_we.out).andThen HX_wf.out (fun i hi e => by have := HX_wd.out.size; have := hb_pb; omega))
        refine hK.out _ _ hS (fun _ => ?_)
        refine wpAnyH_done (by kernel_rfl) ?_ _
        go_wp2_with fail
        go_meet
        exact ⟨pb, rfl, Lib.hid B_pb.out, Lib.hid ((HX_wd.out.trans HX_we.out).andThen HX_wf.out (fun i hi e => by have := HX_wd.out.size; have := hb_pb; omega))⟩
      refine AllReadyH.cons (o := { dst := some 9, op := Go.Op.alloc 34, type := 0, pos := "ref.go:49", after := #[], guard := none }) rfl (fun K hK => ?_) AllReadyH.nil
      go_simp
      have hx : Ex (fun _ => False) wd (wd.alloc (.cells #[.int .u32 0, .int .u32 0, .bool false, .string ⟨#[]⟩] 34)) := (Ex.refl _ wd).alloc _
      have hb : (wd.alloc (.cells #[.int .u32 0, .int .u32 0, .bool false, .string ⟨#[]⟩] 34)).heap[wd.heap.size]? = some (.cells #[.int .u32 0, .int .u32 0, .bool false, .string ⟨#[]⟩] 34) := heap_alloc_new wd _
      obtain ⟨pb, hpb⟩ : ∃ pb, pb = wd.heap.size := ⟨_, rfl⟩
      have hb_pb : wd.heap.size ≤ pb := by omega
      rw [← hpb] at hb
      try simp only [← hpb]
      generalize wd.alloc (.cells #[.int .u32 0, .int .u32 0, .bool false, .string ⟨#[]⟩] 34) = we at hx hb ⊢
      clear hpb
      have HX_we := Lib.hid hx
      clear hx
      have B_pb := Lib.hid hb
      clear hb
      have hS : Ex (fun _ => False) w1 we := (HX_wd.out.trans HX_we.out)
      refine hK.out _ _ hS (fun _ => ?_)
      refine wpAnyH_ready (rs := [5]) (by kernel_rfl) (by simp) ?_
      refine AllReadyH.cons (o := { dst := some 31, op := Go.Op.call { callee := Go.Callee.value (Go.Operand.func 44), args := #[Go.Operand.tmp 30], argTypes := #[9] }, type := 26, pos := "ref.go:49", after := #[{ on := 4, ground := Go.Ground.data }, { on := 2, ground := Go.Ground.chain }], guard := none }) rfl (fun K hK => ?_) AllReadyH.nil
      go_simp
      refine (rnum_any [l.getD 2 0, l.getD 3 0] (by simp) _).mono ?_
      rintro e v ⟨rfl, rfl⟩
      rw [HN1.out]
      refine hK.out _ _ hS (fun _ => ?_)
      refine wpAnyH_ready (rs := [8]) (by kernel_rfl) (by simp) ?_
      refine AllReadyH.cons (o := { dst := some 34, op := Go.Op.call { callee := Go.Callee.value (Go.Operand.func 44), args := #[Go.Operand.tmp 33], argTypes := #[9] }, type := 26, pos := "ref.go:49", after := #[{ on := 7, ground := Go.Ground.data }, { on := 5, ground := Go.Ground.chain }], guard := none }) rfl (fun K hK => ?_) AllReadyH.nil
      go_simp
      refine (rnum_any [l.getD 6 0, l.getD 7 0] (by simp) _).mono ?_
      rintro e v ⟨rfl, rfl⟩
      rw [HSM.out]
      refine hK.out _ _ hS (fun _ => ?_)
      refine wpAnyH_take (i := 9) (oi := { dst := some 35, op := Go.Op.binOp Go.BinOp.eql 26 (Go.Operand.tmp 34) (Go.Operand.const (Go.Value.int Go.IntKind.u32 0)) 26, type := 4, pos := "ref.go:49", after := #[{ on := 8, ground := Go.Ground.data }], guard := none }) (v := ?v14) rfl (by kernel_rfl) (by kernel_rfl) (by kernel_rfl) (fun _ _ _ h => h) (Or.inl ⟨by rfl, ?hy14⟩) (by assumption) ?rest14
      case hy14 => (intro w hSw; (try dsimp only at hSw); go_simp <;> with_reducible rfl)
      try simp only [Act.put, List.setIfInBounds_toArray, List.set_cons_zero, List.set_cons_succ]
      refine wpAnyH_take (i := 13) (oi := { dst := some 39, op := Go.Op.build 34 #[(0, Go.Operand.tmp 28), (1, Go.Operand.tmp 31), (2, Go.Operand.tmp 35), (3, Go.Operand.tmp 38)], type := 34, pos := "ref.go:49", after := #[{ on := 2, ground := Go.Ground.data }, { on := 5, ground := Go.Ground.data }, { on := 9, ground := Go.Ground.data }, { on := 12, ground := Go.Ground.data }], guard := none }) (v := ?v15) rfl (by kernel_rfl) (by kernel_rfl) (by kernel_rfl) (fun _ _ _ h => h) (Or.inl ⟨by rfl, ?hy15⟩) (by assumption) ?rest15
      case hy15 => (intro w hSw; (try dsimp only at hSw); go_simp <;> with_reducible rfl)
      try simp only [Act.put, List.setIfInBounds_toArray, List.set_cons_zero, List.set_cons_succ]
      refine wpAnyH_ready (rs := [15]) (by kernel_rfl) (by simp) ?_
      refine AllReadyH.cons (o := { dst := none, op := Go.Op.store 34 (Go.Operand.tmp 9) (Go.Operand.tmp 39), type := 0, pos := "ref.go:49", after := #[{ on := 14, ground := Go.Ground.data }, { on := 13, ground := Go.Ground.data }, { on := 8, ground := Go.Ground.chain }, { on := 0, ground := Go.Ground.phase }, { on := 1, ground := Go.Ground.phase }, { on := 2, ground := Go.Ground.phase }, { on := 3, ground := Go.Ground.phase }, { on := 4, ground := Go.Ground.phase }, { on := 5, ground := Go.Ground.phase }, { on := 6, ground := Go.Ground.phase }, { on := 7, ground := Go.Ground.phase }, { on := 8, ground := Go.Ground.phase }, { on := 9, ground := Go.Ground.phase }, { on := 10, ground := Go.Ground.phase }, { on := 11, ground := Go.Ground.phase }, { on := 12, ground := Go.Ground.phase }, { on := 13, ground := Go.Ground.phase }, { on := 14, ground := Go.Ground.phase }], guard := none }) rfl (fun K hK => ?_) AllReadyH.nil
      have cpb0 := row_cell (k := 0) (v := .int .u32 0) B_pb.out rfl
      have cpb1 := row_cell (k := 1) (v := .int .u32 0) B_pb.out rfl
      have cpb2 := row_cell (k := 2) (v := .bool false) B_pb.out rfl
      have cpb3 := row_cell (k := 3) (v := .string ⟨#[]⟩) B_pb.out rfl
      have fpb0 := row_frozen B_pb.out 0
      have fpb1 := row_frozen B_pb.out 1
      have fpb2 := row_frozen B_pb.out 2
      have fpb3 := row_frozen B_pb.out 3
      go_simp
      have r0 : (we.setCell ⟨pb, 0, none⟩ (.int .u32 (n0 : Int))).heap[pb]? = some (.cells #[.int .u32 (n0 : Int), .int .u32 0, .bool false, .string ⟨#[]⟩] 34) := row_set B_pb.out 0 (.int .u32 (n0 : Int))
      have r1 : ((we.setCell ⟨pb, 0, none⟩ (.int .u32 (n0 : Int))).setCell ⟨pb, 1, none⟩ (.int .u32 (n1 : Int))).heap[pb]? = some (.cells #[.int .u32 (n0 : Int), .int .u32 (n1 : Int), .bool false, .string ⟨#[]⟩] 34) := row_set r0 1 (.int .u32 (n1 : Int))
      clear r0
      have r2 : (((we.setCell ⟨pb, 0, none⟩ (.int .u32 (n0 : Int))).setCell ⟨pb, 1, none⟩ (.int .u32 (n1 : Int))).setCell ⟨pb, 2, none⟩ (.bool pl)).heap[pb]? = some (.cells #[.int .u32 (n0 : Int), .int .u32 (n1 : Int), .bool pl, .string ⟨#[]⟩] 34) := row_set r1 2 (.bool pl)
      clear r1
      have r3 : ((((we.setCell ⟨pb, 0, none⟩ (.int .u32 (n0 : Int))).setCell ⟨pb, 1, none⟩ (.int .u32 (n1 : Int))).setCell ⟨pb, 2, none⟩ (.bool pl)).setCell ⟨pb, 3, none⟩ (.string (bs bb))).heap[pb]? = some (.cells #[.int .u32 (n0 : Int), .int .u32 (n1 : Int), .bool pl, .string (bs bb)] 34) := row_set r2 3 (.string (bs bb))
      clear r2
      have hx : Ex (fun j => j = pb) we ((((we.setCell ⟨pb, 0, none⟩ (.int .u32 (n0 : Int))).setCell ⟨pb, 1, none⟩ (.int .u32 (n1 : Int))).setCell ⟨pb, 2, none⟩ (.bool pl)).setCell ⟨pb, 3, none⟩ (.string (bs bb))) := (((((Ex.refl (fun j => j = pb) we).setCell (p := ⟨pb, 0, none⟩) (.inl rfl) (.int .u32 (n0 : Int))).setCell (p := ⟨pb, 1, none⟩) (.inl rfl) (.int .u32 (n1 : Int))).setCell (p := ⟨pb, 2, none⟩) (.inl rfl) (.bool pl)).setCell (p := ⟨pb, 3, none⟩) (.inl rfl) (.string (bs bb)))
      clear cpb0 cpb1 cpb2 cpb3 fpb0 fpb1 fpb2 fpb3
      generalize ((((we.setCell ⟨pb, 0, none⟩ (.int .u32 (n0 : Int))).setCell ⟨pb, 1, none⟩ (.int .u32 (n1 : Int))).setCell ⟨pb, 2, none⟩ (.bool pl)).setCell ⟨pb, 3, none⟩ (.string (bs bb))) = wf at r3 hx ⊢
      replace B_pb := Lib.hid r3
      clear r3
      have HX_wf := Lib.hid hx
      clear hx
      have hS : Ex (fun _ => False) w1 wf := ((HX_wd.out.trans HX_we.out).andThen HX_wf.out (fun i hi e => by have := HX_wd.out.size; have := hb_pb; omega))
      refine hK.out _ _ hS (fun _ => ?_)
      refine wpAnyH_done (by kernel_rfl) ?_ _
      go_wp2_with fail
      go_meet
      exact ⟨pb, rfl, Lib.hid B_pb.out, Lib.hid ((HX_wd.out.trans HX_we.out).andThen HX_wf.out (fun i hi e => by have := HX_wd.out.size; have := hb_pb; omega))⟩
    refine AllReadyH.cons (o := { dst := some 9, op := Go.Op.alloc 34, type := 0, pos := "ref.go:49", after := #[], guard := none }) rfl (fun K hK => ?_) AllReadyH.nil
    go_simp
    have hx : Ex (fun _ => False) wd (wd.alloc (.cells #[.int .u32 0, .int .u32 0, .bool false, .string ⟨#[]⟩] 34)) := (Ex.refl _ wd).alloc _
    have hb : (wd.alloc (.cells #[.int .u32 0, .int .u32 0, .bool false, .string ⟨#[]⟩] 34)).heap[wd.heap.size]? = some (.cells #[.int .u32 0, .int .u32 0, .bool false, .string ⟨#[]⟩] 34) := heap_alloc_new wd _
    obtain ⟨pb, hpb⟩ : ∃ pb, pb = wd.heap.size := ⟨_, rfl⟩
    have hb_pb : wd.heap.size ≤ pb := by omega
    rw [← hpb] at hb
    try simp only [← hpb]
    generalize wd.alloc (.cells #[.int .u32 0, .int .u32 0, .bool false, .string ⟨#[]⟩] 34) = we at hx hb ⊢
    clear hpb
    have HX_we := Lib.hid hx
    clear hx
    have B_pb := Lib.hid hb
    clear hb
    have hS : Ex (fun _ => False) w1 we := (HX_wd.out.trans HX_we.out)
    refine hK.out _ _ hS (fun _ => ?_)
    refine wpAnyH_ready (rs := [2]) (by kernel_rfl) (by simp) ?_
    refine AllReadyH.cons (o := { dst := some 28, op := Go.Op.call { callee := Go.Callee.value (Go.Operand.func 44), args := #[Go.Operand.tmp 27], argTypes := #[9] }, type := 26, pos := "ref.go:49", after := #[{ on := 1, ground := Go.Ground.data }], guard := none }) rfl (fun K hK => ?_) AllReadyH.nil
    go_simp
    refine (rnum_any [l.getD 0 0, l.getD 1 0] (by simp) _).mono ?_
    rintro e v ⟨rfl, rfl⟩
    rw [HN0.out]
    refine hK.out _ _ hS (fun _ => ?_)
    refine wpAnyH_ready (rs := [5]) (by kernel_rfl) (by simp) ?_
    refine AllReadyH.cons (o := { dst := some 31, op := Go.Op.call { callee := Go.Callee.value (Go.Operand.func 44), args := #[Go.Operand.tmp 30], argTypes := #[9] }, type := 26, pos := "ref.go:49", after := #[{ on := 4, ground := Go.Ground.data }, { on := 2, ground := Go.Ground.chain }], guard := none }) rfl (fun K hK => ?_) AllReadyH.nil
    go_simp
    refine (rnum_any [l.getD 2 0, l.getD 3 0] (by simp) _).mono ?_
    rintro e v ⟨rfl, rfl⟩
    rw [HN1.out]
    refine hK.out _ _ hS (fun _ => ?_)
    refine wpAnyH_ready (rs := [8]) (by kernel_rfl) (by simp) ?_
    refine AllReadyH.cons (o := { dst := some 34, op := Go.Op.call { callee := Go.Callee.value (Go.Operand.func 44), args := #[Go.Operand.tmp 33], argTypes := #[9] }, type := 26, pos := "ref.go:49", after := #[{ on := 7, ground := Go.Ground.data }, { on := 5, ground := Go.Ground.chain }], guard := none }) rfl (fun K hK => ?_) AllReadyH.nil
    go_simp
    refine (rnum_any [l.getD 6 0, l.getD 7 0] (by simp) _).mono ?_
    rintro e v ⟨rfl, rfl⟩
    rw [HSM.out]
    refine hK.out _ _ hS (fun _ => ?_)
    refine wpAnyH_take (i := 9) (oi := { dst := some 35, op := Go.Op.binOp Go.BinOp.eql 26 (Go.Operand.tmp 34) (Go.Operand.const (Go.Value.int Go.IntKind.u32 0)) 26, type := 4, pos := "ref.go:49", after := #[{ on := 8, ground := Go.Ground.data }], guard := none }) (v := ?v16) rfl (by kernel_rfl) (by kernel_rfl) (by kernel_rfl) (fun _ _ _ h => h) (Or.inl ⟨by rfl, ?hy16⟩) (by assumption) ?rest16
    case hy16 => (intro w hSw; (try dsimp only at hSw); go_simp <;> with_reducible rfl)
    try simp only [Act.put, List.setIfInBounds_toArray, List.set_cons_zero, List.set_cons_succ]
    refine wpAnyH_take (i := 13) (oi := { dst := some 39, op := Go.Op.build 34 #[(0, Go.Operand.tmp 28), (1, Go.Operand.tmp 31), (2, Go.Operand.tmp 35), (3, Go.Operand.tmp 38)], type := 34, pos := "ref.go:49", after := #[{ on := 2, ground := Go.Ground.data }, { on := 5, ground := Go.Ground.data }, { on := 9, ground := Go.Ground.data }, { on := 12, ground := Go.Ground.data }], guard := none }) (v := ?v17) rfl (by kernel_rfl) (by kernel_rfl) (by kernel_rfl) (fun _ _ _ h => h) (Or.inl ⟨by rfl, ?hy17⟩) (by assumption) ?rest17
    case hy17 => (intro w hSw; (try dsimp only at hSw); go_simp <;> with_reducible rfl)
    try simp only [Act.put, List.setIfInBounds_toArray, List.set_cons_zero, List.set_cons_succ]
    refine wpAnyH_ready (rs := [15]) (by kernel_rfl) (by simp) ?_
    refine AllReadyH.cons (o := { dst := none, op := Go.Op.store 34 (Go.Operand.tmp 9) (Go.Operand.tmp 39), type := 0, pos := "ref.go:49", after := #[{ on := 14, ground := Go.Ground.data }, { on := 13, ground := Go.Ground.data }, { on := 8, ground := Go.Ground.chain }, { on := 0, ground := Go.Ground.phase }, { on := 1, ground := Go.Ground.phase }, { on := 2, ground := Go.Ground.phase }, { on := 3, ground := Go.Ground.phase }, { on := 4, ground := Go.Ground.phase }, { on := 5, ground := Go.Ground.phase }, { on := 6, ground := Go.Ground.phase }, { on := 7, ground := Go.Ground.phase }, { on := 8, ground := Go.Ground.phase }, { on := 9, ground := Go.Ground.phase }, { on := 10, ground := Go.Ground.phase }, { on := 11, ground := Go.Ground.phase }, { on := 12, ground := Go.Ground.phase }, { on := 13, ground := Go.Ground.phase }, { on := 14, ground := Go.Ground.phase }], guard := none }) rfl (fun K hK => ?_) AllReadyH.nil
    have cpb0 := row_cell (k := 0) (v := .int .u32 0) B_pb.out rfl
    have cpb1 := row_cell (k := 1) (v := .int .u32 0) B_pb.out rfl
    have cpb2 := row_cell (k := 2) (v := .bool false) B_pb.out rfl
    have cpb3 := row_cell (k := 3) (v := .string ⟨#[]⟩) B_pb.out rfl
    have fpb0 := row_frozen B_pb.out 0
    have fpb1 := row_frozen B_pb.out 1
    have fpb2 := row_frozen B_pb.out 2
    have fpb3 := row_frozen B_pb.out 3
    go_simp
    have r0 : (we.setCell ⟨pb, 0, none⟩ (.int .u32 (n0 : Int))).heap[pb]? = some (.cells #[.int .u32 (n0 : Int), .int .u32 0, .bool false, .string ⟨#[]⟩] 34) := row_set B_pb.out 0 (.int .u32 (n0 : Int))
    have r1 : ((we.setCell ⟨pb, 0, none⟩ (.int .u32 (n0 : Int))).setCell ⟨pb, 1, none⟩ (.int .u32 (n1 : Int))).heap[pb]? = some (.cells #[.int .u32 (n0 : Int), .int .u32 (n1 : Int), .bool false, .string ⟨#[]⟩] 34) := row_set r0 1 (.int .u32 (n1 : Int))
    clear r0
    have r2 : (((we.setCell ⟨pb, 0, none⟩ (.int .u32 (n0 : Int))).setCell ⟨pb, 1, none⟩ (.int .u32 (n1 : Int))).setCell ⟨pb, 2, none⟩ (.bool pl)).heap[pb]? = some (.cells #[.int .u32 (n0 : Int), .int .u32 (n1 : Int), .bool pl, .string ⟨#[]⟩] 34) := row_set r1 2 (.bool pl)
    clear r1
    have r3 : ((((we.setCell ⟨pb, 0, none⟩ (.int .u32 (n0 : Int))).setCell ⟨pb, 1, none⟩ (.int .u32 (n1 : Int))).setCell ⟨pb, 2, none⟩ (.bool pl)).setCell ⟨pb, 3, none⟩ (.string (bs bb))).heap[pb]? = some (.cells #[.int .u32 (n0 : Int), .int .u32 (n1 : Int), .bool pl, .string (bs bb)] 34) := row_set r2 3 (.string (bs bb))
    clear r2
    have hx : Ex (fun j => j = pb) we ((((we.setCell ⟨pb, 0, none⟩ (.int .u32 (n0 : Int))).setCell ⟨pb, 1, none⟩ (.int .u32 (n1 : Int))).setCell ⟨pb, 2, none⟩ (.bool pl)).setCell ⟨pb, 3, none⟩ (.string (bs bb))) := (((((Ex.refl (fun j => j = pb) we).setCell (p := ⟨pb, 0, none⟩) (.inl rfl) (.int .u32 (n0 : Int))).setCell (p := ⟨pb, 1, none⟩) (.inl rfl) (.int .u32 (n1 : Int))).setCell (p := ⟨pb, 2, none⟩) (.inl rfl) (.bool pl)).setCell (p := ⟨pb, 3, none⟩) (.inl rfl) (.string (bs bb)))
    clear cpb0 cpb1 cpb2 cpb3 fpb0 fpb1 fpb2 fpb3
    generalize ((((we.setCell ⟨pb, 0, none⟩ (.int .u32 (n0 : Int))).setCell ⟨pb, 1, none⟩ (.int .u32 (n1 : Int))).setCell ⟨pb, 2, none⟩ (.bool pl)).setCell ⟨pb, 3, none⟩ (.string (bs bb))) = wf at r3 hx ⊢
    replace B_pb := Lib.hid r3
    clear r3
    have HX_wf := Lib.hid hx
    clear hx
    have hS : Ex (fun _ => False) w1 wf := ((HX_wd.out.trans HX_we.out).andThen HX_wf.out (fun i hi e => by have := HX_wd.out.size; have := hb_pb; omega))
    refine hK.out _ _ hS (fun _ => ?_)
    refine wpAnyH_done (by kernel_rfl) ?_ _
    go_wp2_with fail
    go_meet
    exact ⟨pb, rfl, Lib.hid B_pb.out, Lib.hid ((HX_wd.out.trans HX_we.out).andThen HX_wf.out (fun i hi e => by have := HX_wd.out.size; have := hb_pb; omega))⟩
  case rest =>
    obtain ⟨pb, rfl, B_pb, hx⟩ := hcut
    have hx := hx.out
    clear q1
    have HX_wc := Lib.hid hx
    clear hx
    obtain rfl := HPLV.out
    have cpb2 := row_cell (k := 2) (v := .bool true) B_pb.out rfl
    go_upto_region 9 with fail
    have hS0 : Ex (fun _ => False) wc wc.drew := (Ex.refl _ wc).drew
    refine wp_region_held_drew (S := fun W => Ex (fun _ => False) wc W) (by kernel_rfl) hS0 (fun _ => ?_)
    have hx := hS0
    generalize wc.drew = wh at hx hS0 ⊢
    refine wpAnyH_take (i := 0) (oi := { dst := some 40, op := Go.Op.fieldAddr 34 (Go.Operand.tmp 9) 2, type := 0, pos := "ref.go:50", after := #[], guard := none }) (v := ?v18) rfl (by kernel_rfl) (by kernel_rfl) (by kernel_rfl) (fun _ _ _ h => h) (Or.inl ⟨by rfl, ?hy18⟩) (by assumption) ?rest18
    case hy18 => (intro w hSw; (try dsimp only at hSw); have ecpb2 := hSw.cell cpb2 id; go_simp <;> with_reducible rfl)
    try simp only [Act.put, List.setIfInBounds_toArray, List.set_cons_zero, List.set_cons_succ]
    refine wpAnyH_take (i := 1) (oi := { dst := some 41, op := Go.Op.load 4 (Go.Operand.tmp 40), type := 4, pos := "ref.go:50", after := #[{ on := 0, ground := Go.Ground.data }], guard := none }) (v := ?v19) rfl (by kernel_rfl) (by kernel_rfl) (by kernel_rfl) (fun _ _ _ h => h) (Or.inl ⟨by rfl, ?hy19⟩) (by assumption) ?rest19
    case hy19 => (intro w hSw; (try dsimp only at hSw); have ecpb2 := hSw.cell cpb2 id; go_simp <;> with_reducible rfl)
    try simp only [Act.put, List.setIfInBounds_toArray, List.set_cons_zero, List.set_cons_succ]
    refine wpAnyH_take (i := 2) (oi := { dst := some 42, op := Go.Op.unOp Go.UnOp.not 4 (Go.Operand.tmp 41), type := 4, pos := "ref.go:50", after := #[{ on := 1, ground := Go.Ground.data }], guard := none }) (v := ?v20) rfl (by kernel_rfl) (by kernel_rfl) (by kernel_rfl) (fun _ _ _ h => h) (Or.inl ⟨by rfl, ?hy20⟩) (by assumption) ?rest20
    case hy20 => (intro w hSw; (try dsimp only at hSw); have ecpb2 := hSw.cell cpb2 id; go_simp <;> with_reducible rfl)
    try simp only [Act.put, List.setIfInBounds_toArray, List.set_cons_zero, List.set_cons_succ]
    refine wpAnyH_take (i := 3) (oi := { dst := some 43, op := Go.Op.move (Go.Operand.tmp 42), type := 4, pos := "ref.go:50", after := #[{ on := 2, ground := Go.Ground.data }], guard := none }) (v := ?v21) rfl (by kernel_rfl) (by kernel_rfl) (by kernel_rfl) (fun _ _ _ h => h) (Or.inl ⟨by rfl, ?hy21⟩) (by assumption) ?rest21
    case hy21 => (intro w hSw; (try dsimp only at hSw); have ecpb2 := hSw.cell cpb2 id; go_simp <;> with_reducible rfl)
    try simp only [Act.put, List.setIfInBounds_toArray, List.set_cons_zero, List.set_cons_succ]
    refine wpAnyH_take (i := 4) (oi := { dst := some 44, op := Go.Op.move (Go.Operand.tmp 1), type := 26, pos := "ref.go:50", after := #[{ on := 3, ground := Go.Ground.guard }], guard := some (3, true) }) (v := undef) rfl (by kernel_rfl) (by kernel_rfl) (by kernel_rfl) (fun _ _ _ h => h) (Or.inr ⟨by rfl, rfl⟩) (by assumption) ?rest22
    try simp only [Act.put, List.setIfInBounds_toArray, List.set_cons_zero, List.set_cons_succ]
    refine wpAnyH_take (i := 5) (oi := { dst := some 45, op := Go.Op.move (Go.Operand.tmp 2), type := 26, pos := "ref.go:50", after := #[{ on := 3, ground := Go.Ground.guard }], guard := some (3, true) }) (v := undef) rfl (by kernel_rfl) (by kernel_rfl) (by kernel_rfl) (fun _ _ _ h => h) (Or.inr ⟨by rfl, rfl⟩) (by assumption) ?rest23
    try simp only [Act.put, List.setIfInBounds_toArray, List.set_cons_zero, List.set_cons_succ]
    refine wpAnyH_take (i := 6) (oi := { dst := some 46, op := Go.Op.move (Go.Operand.tmp 8), type := 3, pos := "ref.go:50", after := #[{ on := 3, ground := Go.Ground.guard }], guard := some (3, true) }) (v := undef) rfl (by kernel_rfl) (by kernel_rfl) (by kernel_rfl) (fun _ _ _ h => h) (Or.inr ⟨by rfl, rfl⟩) (by assumption) ?rest24
    try simp only [Act.put, List.setIfInBounds_toArray, List.set_cons_zero, List.set_cons_succ]
    refine wpAnyH_take (i := 7) (oi := { dst := some 47, op := Go.Op.call { callee := Go.Callee.value (Go.Operand.func 46), args := #[Go.Operand.tmp 44, Go.Operand.tmp 45, Go.Operand.const (Go.Value.int Go.IntKind.u8 17), Go.Operand.tmp 46], argTypes := #[26, 26, 5, 3] }, type := 9, pos := "ref.go:50", after := #[{ on := 4, ground := Go.Ground.data }, { on := 5, ground := Go.Ground.data }, { on := 6, ground := Go.Ground.data }, { on := 3, ground := Go.Ground.chain }, { on := 3, ground := Go.Ground.guard }], guard := some (3, true) }) (v := undef) rfl (by kernel_rfl) (by kernel_rfl) (by kernel_rfl) (fun _ _ _ h => h) (Or.inr ⟨by rfl, rfl⟩) (by assumption) ?rest25
    try simp only [Act.put, List.setIfInBounds_toArray, List.set_cons_zero, List.set_cons_succ]
    refine wpAnyH_take (i := 8) (oi := { dst := some 48, op := Go.Op.move (Go.Operand.tmp 0), type := 9, pos := "ref.go:50", after := #[{ on := 3, ground := Go.Ground.guard }], guard := some (3, true) }) (v := undef) rfl (by kernel_rfl) (by kernel_rfl) (by kernel_rfl) (fun _ _ _ h => h) (Or.inr ⟨by rfl, rfl⟩) (by assumption) ?rest26
    try simp only [Act.put, List.setIfInBounds_toArray, List.set_cons_zero, List.set_cons_succ]
    refine wpAnyH_take (i := 9) (oi := { dst := some 49, op := Go.Op.move (Go.Operand.tmp 8), type := 3, pos := "ref.go:50", after := #[{ on := 3, ground := Go.Ground.guard }], guard := some (3, true) }) (v := undef) rfl (by kernel_rfl) (by kernel_rfl) (by kernel_rfl) (fun _ _ _ h => h) (Or.inr ⟨by rfl, rfl⟩) (by assumption) ?rest27
    try simp only [Act.put, List.setIfInBounds_toArray, List.set_cons_zero, List.set_cons_succ]
    refine wpAnyH_take (i := 10) (oi := { dst := some 50, op := Go.Op.slice 9 (Go.Operand.tmp 48) none (some (Go.Operand.tmp 49)) none, type := 9, pos := "ref.go:50", after := #[{ on := 8, ground := Go.Ground.data }, { on := 9, ground := Go.Ground.data }, { on := 3, ground := Go.Ground.guard }], guard := some (3, true) }) (v := undef) rfl (by kernel_rfl) (by kernel_rfl) (by kernel_rfl) (fun _ _ _ h => h) (Or.inr ⟨by rfl, rfl⟩) (by assumption) ?rest28
    try simp only [Act.put, List.setIfInBounds_toArray, List.set_cons_zero, List.set_cons_succ]
    refine wpAnyH_take (i := 11) (oi := { dst := some 51, op := Go.Op.binOp Go.BinOp.add 9 (Go.Operand.tmp 47) (Go.Operand.tmp 50) 9, type := 9, pos := "ref.go:50", after := #[{ on := 7, ground := Go.Ground.data }, { on := 10, ground := Go.Ground.data }, { on := 3, ground := Go.Ground.guard }], guard := some (3, true) }) (v := undef) rfl (by kernel_rfl) (by kernel_rfl) (by kernel_rfl) (fun _ _ _ h => h) (Or.inr ⟨by rfl, rfl⟩) (by assumption) ?rest29
    try simp only [Act.put, List.setIfInBounds_toArray, List.set_cons_zero, List.set_cons_succ]
    refine wpAnyH_take (i := 12) (oi := { dst := some 52, op := Go.Op.call { callee := Go.Callee.value (Go.Operand.func 45), args := #[Go.Operand.tmp 51], argTypes := #[9] }, type := 23, pos := "ref.go:50", after := #[{ on := 11, ground := Go.Ground.data }, { on := 7, ground := Go.Ground.chain }, { on := 3, ground := Go.Ground.guard }], guard := some (3, true) }) (v := undef) rfl (by kernel_rfl) (by kernel_rfl) (by kernel_rfl) (fun _ _ _ h => h) (Or.inr ⟨by rfl, rfl⟩) (by assumption) ?rest30
    try simp only [Act.put, List.setIfInBounds_toArray, List.set_cons_zero, List.set_cons_succ]
    refine wpAnyH_take (i := 13) (oi := { dst := some 53, op := Go.Op.binOp Go.BinOp.neq 23 (Go.Operand.tmp 52) (Go.Operand.const (Go.Value.int Go.IntKind.u16 0)) 23, type := 4, pos := "ref.go:50", after := #[{ on := 12, ground := Go.Ground.data }, { on := 3, ground := Go.Ground.guard }], guard := some (3, true) }) (v := undef) rfl (by kernel_rfl) (by kernel_rfl) (by kernel_rfl) (fun _ _ _ h => h) (Or.inr ⟨by rfl, rfl⟩) (by assumption) ?rest31
    try simp only [Act.put, List.setIfInBounds_toArray, List.set_cons_zero, List.set_cons_succ]
    refine wpAnyH_take (i := 14) (oi := { dst := some 54, op := Go.Op.pick (Go.Operand.tmp 43) (Go.Operand.tmp 53) (Go.Operand.const (Go.Value.bool false)), type := 4, pos := "ref.go:50", after := #[{ on := 3, ground := Go.Ground.data }, { on := 13, ground := Go.Ground.data }], guard := none }) (v := ?v32) rfl (by kernel_rfl) (by kernel_rfl) (by kernel_rfl) (fun _ _ _ h => h) (Or.inl ⟨by rfl, ?hy32⟩) (by assumption) ?rest32
    case hy32 => (intro w hSw; (try dsimp only at hSw); have ecpb2 := hSw.cell cpb2 id; go_simp <;> with_reducible rfl)
    try simp only [Act.put, List.setIfInBounds_toArray, List.set_cons_zero, List.set_cons_succ]
    refine wpAnyH_done (by kernel_rfl) ?_ _
    clear hS0 q2 q4 q5 cpb2
    have HX_wh := Lib.hid hx
    clear hx
    replace B_pb := Lib.hid ((HX_wh.out.block pb (row_lt B_pb.out) id).trans B_pb.out)
    have cpb0 := row_cell (k := 0) (v := .int .u32 (n0 : Int)) B_pb.out rfl
    have cpb1 := row_cell (k := 1) (v := .int .u32 (n1 : Int)) B_pb.out rfl
    have cpb2 := row_cell (k := 2) (v := .bool true) B_pb.out rfl
    have cpb3 := row_cell (k := 3) (v := .string (bs bb)) B_pb.out rfl
    replace B_rb := Lib.hid (((HX_wc.out.trans HX_wh.out).block rb (row_lt B_rb.out) id).trans B_rb.out)
    have crb0 := row_cell (k := 0) (v := .int .u32 0) B_rb.out rfl
    have crb1 := row_cell (k := 1) (v := .int .u32 0) B_rb.out rfl
    have crb2 := row_cell (k := 2) (v := .bool false) B_rb.out rfl
    have crb3 := row_cell (k := 3) (v := .string ⟨#[]⟩) B_rb.out rfl
    have frb0 := row_frozen B_rb.out 0
    have frb1 := row_frozen B_rb.out 1
    have frb2 := row_frozen B_rb.out 2
    have frb3 := row_frozen B_rb.out 3
    go_wp2_with fail
    (try simp only [Exit.inBlock, Exit.then])
    have r0 : (wh.setCell ⟨rb, 0, none⟩ (.int .u32 (n0 : Int))).heap[rb]? = some (.cells #[.int .u32 (n0 : Int), .int .u32 0, .bool false, .string ⟨#[]⟩] 34) := row_set B_rb.out 0 (.int .u32 (n0 : Int))
    have r1 : ((wh.setCell ⟨rb, 0, none⟩ (.int .u32 (n0 : Int))).setCell ⟨rb, 1, none⟩ (.int .u32 (n1 : Int))).heap[rb]? = some (.cells #[.int .u32 (n0 : Int), .int .u32 (n1 : Int), .bool false, .string ⟨#[]⟩] 34) := row_set r0 1 (.int .u32 (n1 : Int))
    clear r0
    have r2 : (((wh.setCell ⟨rb, 0, none⟩ (.int .u32 (n0 : Int))).setCell ⟨rb, 1, none⟩ (.int .u32 (n1 : Int))).setCell ⟨rb, 2, none⟩ (.bool true)).heap[rb]? = some (.cells #[.int .u32 (n0 : Int), .int .u32 (n1 : Int), .bool true, .string ⟨#[]⟩] 34) := row_set r1 2 (.bool true)
    clear r1
    have r3 : ((((wh.setCell ⟨rb, 0, none⟩ (.int .u32 (n0 : Int))).setCell ⟨rb, 1, none⟩ (.int .u32 (n1 : Int))).setCell ⟨rb, 2, none⟩ (.bool true)).setCell ⟨rb, 3, none⟩ (.string (bs bb))).heap[rb]? = some (.cells #[.int .u32 (n0 : Int), .int .u32 (n1 : Int), .bool true, .string (bs bb)] 34) := row_set r2 3 (.string (bs bb))
    clear r2
    have hx : Ex (fun j => j = rb) wh ((((wh.setCell ⟨rb, 0, none⟩ (.int .u32 (n0 : Int))).setCell ⟨rb, 1, none⟩ (.int .u32 (n1 : Int))).setCell ⟨rb, 2, none⟩ (.bool true)).setCell ⟨rb, 3, none⟩ (.string (bs bb))) := (((((Ex.refl (fun j => j = rb) wh).setCell (p := ⟨rb, 0, none⟩) (.inl rfl) (.int .u32 (n0 : Int))).setCell (p := ⟨rb, 1, none⟩) (.inl rfl) (.int .u32 (n1 : Int))).setCell (p := ⟨rb, 2, none⟩) (.inl rfl) (.bool true)).setCell (p := ⟨rb, 3, none⟩) (.inl rfl) (.string (bs bb)))
    clear crb0 crb1 crb2 crb3 frb0 frb1 frb2 frb3
    generalize ((((wh.setCell ⟨rb, 0, none⟩ (.int .u32 (n0 : Int))).setCell ⟨rb, 1, none⟩ (.int .u32 (n1 : Int))).setCell ⟨rb, 2, none⟩ (.bool true)).setCell ⟨rb, 3, none⟩ (.string (bs bb))) = wz at r3 hx ⊢
    replace B_rb := Lib.hid r3
    clear r3
    have HX_wz := Lib.hid hx
    clear hx
    refine bodyPost_ret (v := .tuple #[.agg #[.int .u32 (n0 : Int), .int .u32 (n1 : Int), .bool true, .string (bs bb)], .string ⟨#[]⟩]) ?_ rfl ⟨rfl, (((HX_w1.out.trans HX_wc.out).trans HX_wh.out).andThen HX_wz.out (fun i hi e => by have := hb_rb; omega))⟩
    exact results_cell_row2 (p := 6) (u := 7) rfl _ _ rb 34 #[.int .u32 (n0 : Int), .int .u32 (n1 : Int), .bool true, .string (bs bb)] (0, 0) _ _ rfl rfl B_rb.out Tryd.underlying34 rfl rd_size
set_option maxRecDepth 100000 in
set_option maxHeartbeats 4000000 in
theorem rp6_sum (l : List UInt8) (s t : Int) (w : World) (hl : l.length ≤ 1000000) (h8 : 8 ≤ l.length) (hz8 : 8 ≤ dsz l) (hzl : dsz l ≤ l.length) (hps : dsm l ≠ 0) (hs6 : 0 ≤ s ∧ s < 4294967296) (ht6 : 0 ≤ t ∧ t < 4294967296) (hsum : su (psd s t 17 (dsz l : Int) ++ l.take (dsz l)) ≠ 0) :
    Calls Tryd.prog 17 #[.string (bs l), .int .u32 s, .int .u32 t] w fun e w' => e = .returned (.tuple #[rdv zdg, .string (bs (etx [lay6] 4))]) ∧ Ex (fun _ => False) w w' := by
  have hz := bs_size l
  have HL := Lib.hid hl
  clear hl
  rw [tx64, rzdg]
  obtain ⟨s02, s24, s46, s68⟩ := sub8_get h8
  obtain ⟨sz, hsz⟩ : ∃ k, nb [l.getD 4 0, l.getD 5 0] = k := ⟨_, rfl⟩
  have hszd : dsz l = sz := hsz
  rw [hszd] at hz8 hzl hsum
  have hszl : sz ≤ 65535 := by rw [← hsz]; have := nb2_le (l.getD 4 0) (l.getD 5 0); omega
  have HSZ := Lib.hid hsz
  have HSZD := Lib.hid hszd
  have HSZL := Lib.hid hszl
  have hwz : wrap64 (sz : Int) = (sz : Int) := by unfold wrap64; omega
  clear hsz hszd hszl
  have hd1 : decide ((sz : Int) < 8) = false := by rw [decide_eq_false_iff_not]; omega
  have hd2 : decide (l.length < sz) = false := by rw [decide_eq_false_iff_not]; omega
  have q1 : (bs l).extract 8 sz = bs ((l.take sz).drop 8) := dbs_sub l 8 sz hzl
  have q2 : (bs l).extract 0 sz = bs (l.take sz) := by rw [dbs_sub l 0 sz hzl, List.drop_zero]
  have q3 : (8 : Int) ≤ (sz : Int) := by omega
  have i2 : (2 : Int) ≤ (l.length : Int) := by omega
  have i4 : (4 : Int) ≤ (l.length : Int) := by omega
  have i6 : (6 : Int) ≤ (l.length : Int) := by omega
  have i8 : (8 : Int) ≤ (l.length : Int) := by omega
  have q4 : sz ≤ l.length := hzl
  have q5 : (sz : Int) ≤ (l.length : Int) := by omega
  obtain ⟨n0, hn0⟩ : ∃ k, nb [l.getD 0 0, l.getD 1 0] = k := ⟨_, rfl⟩
  obtain ⟨n1, hn1⟩ : ∃ k, nb [l.getD 2 0, l.getD 3 0] = k := ⟨_, rfl⟩
  obtain ⟨sm, hsm⟩ : ∃ k, nb [l.getD 6 0, l.getD 7 0] = k := ⟨_, rfl⟩
  have hpl : dsm l = sm := hsm
  rw [hpl] at hps
  obtain ⟨bb, hbb⟩ : ∃ b, (l.take sz).drop 8 = b := ⟨_, rfl⟩
  rw [hbb] at q1
  obtain ⟨pl, hplv⟩ : ∃ b : Bool, b = false := ⟨_, rfl⟩
  have hd3 : ((sm : Int) == 0) = pl := by rw [hplv]; rw [beq_eq_false_iff_ne]; omega

  have HN0 := Lib.hid hn0
  have HN1 := Lib.hid hn1
  have HSM := Lib.hid hsm
  have HPLV := Lib.hid hplv
  have HZL := Lib.hid hzl
  obtain ⟨TT, hTT⟩ : ∃ T, T = l.take sz := ⟨_, rfl⟩
  rw [← hTT] at q2 hsum
  have hTl : TT.length = sz := by rw [hTT, List.length_take]; omega
  obtain ⟨PS, hPS⟩ : ∃ p, p = psd s t 17 (sz : Int) := ⟨_, rfl⟩
  rw [← hPS] at hsum
  have hpt := psd_txt6 s t 17 (sz : Int) (by omega)
  rw [← hPS] at hpt
  have hpsl : PS.length = 12 := by rw [hPS, psd_len]
  have y1 : (bs PS).size = 12 := by rw [bs_size, hpsl]
  have y2 : (bs TT).size = sz := by rw [bs_size, hTl]
  have a1 := bs_append PS TT
  have el : ¬ 9223372036854775807 < 12 + sz := by have := HSZL.out; omega
  have hsl : (PS ++ TT).length ≤ 4294967296 := by rw [List.length_append, hpsl, hTl]; have := HSZL.out; omega
  have hq : ((su (PS ++ TT) : Int) != 0) = true := by rw [bne_iff_ne]; omega
  obtain ⟨SU, hSU⟩ : ∃ k, su (PS ++ TT) = k := ⟨_, rfl⟩
  rw [hSU] at hq
  have HPT := Lib.hid hpt.symm
  have HSL := Lib.hid hsl
  have HSU := Lib.hid hSU
  have HS := Lib.hid hs6
  have HT := Lib.hid ht6
  clear hTT hTl hPS hpt hpsl hsl hSU hsum hs6 ht6
  clear hz8 hzl hn0 hn1 hsm hpl hps hbb hplv
  go_enter Tryd.func17, Tryd.ntmps17
  go_upto_region 1 with fail
  have hx : Ex (fun _ => False) w (w.alloc (.cells #[.int .u32 0, .int .u32 0, .bool false, .string ⟨#[]⟩] 34)) := (Ex.refl _ w).alloc _
  have hb : (w.alloc (.cells #[.int .u32 0, .int .u32 0, .bool false, .string ⟨#[]⟩] 34)).heap[w.heap.size]? = some (.cells #[.int .u32 0, .int .u32 0, .bool false, .string ⟨#[]⟩] 34) := heap_alloc_new w _
  obtain ⟨rb, hrb⟩ : ∃ rb, rb = w.heap.size := ⟨_, rfl⟩
  have hb_rb : w.heap.size ≤ rb := by omega
  rw [← hrb] at hb
  try simp only [← hrb]
  generalize w.alloc (.cells #[.int .u32 0, .int .u32 0, .bool false, .string ⟨#[]⟩] 34) = w1 at hx hb ⊢
  clear hrb
  have HX_w1 := Lib.hid hx
  clear hx
  have B_rb := Lib.hid hb
  clear hb
  go_wp2_with fail
  refine (rnum_any [l.getD 4 0, l.getD 5 0] (by simp) _).mono ?_
  rintro e _ ⟨rfl, rfl⟩
  rw [HSZ.out]
  go_upto_region 8 with fail
  try rw [hwz]
  go_cut [9] (fun x wx => ∃ pb : Nat, x = .pointer (some ⟨pb, 0, none⟩) ∧ Hid (wx.heap[pb]? = some (.cells #[.int .u32 (n0 : Int), .int .u32 (n1 : Int), .bool pl, .string (bs bb)] 34)) ∧ Hid (Ex (fun _ => False) w1 wx))
  case first =>
    have hS0 : Ex (fun _ => False) w1 w1.drew := (Ex.refl _ w1).drew
    refine wp_region_held_drew (S := fun W => Ex (fun _ => False) w1 W) (by kernel_rfl) hS0 (fun _ => ?_)
    generalize w1.drew = wd at hS0 ⊢
    have HX_wd := Lib.hid hS0
    have hS := hS0
    clear hS0
    refine wpAnyH_take (i := 0) (oi := { dst := some 26, op := Go.Op.move (Go.Operand.tmp 0), type := 9, pos := "ref.go:49", after := #[], guard := none }) (v := ?v33) rfl (by kernel_rfl) (by kernel_rfl) (by kernel_rfl) (fun _ _ _ h => h) (Or.inl ⟨by rfl, ?hy33⟩) (by assumption) ?rest33
    case hy33 => (intro w hSw; (try dsimp only at hSw); go_simp <;> with_reducible rfl)
    try simp only [Act.put, List.setIfInBounds_toArray, List.set_cons_zero, List.set_cons_succ]
    refine wpAnyH_take (i := 1) (oi := { dst := some 27, op := Go.Op.slice 9 (Go.Operand.tmp 26) none (some (Go.Operand.const (Go.Value.int Go.IntKind.i64 2))) none, type := 9, pos := "ref.go:49", after := #[{ on := 0, ground := Go.Ground.data }], guard := none }) (v := ?v34) rfl (by kernel_rfl) (by kernel_rfl) (by kernel_rfl) (fun _ _ _ h => h) (Or.inl ⟨by rfl, ?hy34⟩) (by assumption) ?rest34
    case hy34 => (intro w hSw; (try dsimp only at hSw); go_simp <;> with_reducible rfl)
    try simp only [Act.put, List.setIfInBounds_toArray, List.set_cons_zero, List.set_cons_succ]
    refine wpAnyH_take (i := 3) (oi := { dst := some 29, op := Go.Op.move (Go.Operand.tmp 0), type := 9, pos := "ref.go:49", after := #[], guard := none }) (v := ?v35) rfl (by kernel_rfl) (by kernel_rfl) (by kernel_rfl) (fun _ _ _ h => h) (Or.inl ⟨by rfl, ?hy35⟩) (by assumption) ?rest35
    case hy35 => (intro w hSw; (try dsimp only at hSw); go_simp <;> with_reducible rfl)
    try simp only [Act.put, List.setIfInBounds_toArray, List.set_cons_zero, List.set_cons_succ]
    refine wpAnyH_take (i := 4) (oi := { dst := some 30, op := Go.Op.slice 9 (Go.Operand.tmp 29) (some (Go.Operand.const (Go.Value.int Go.IntKind.i64 2))) (some (Go.Operand.const (Go.Value.int Go.IntKind.i64 4))) none, type := 9, pos := "ref.go:49", after := #[{ on := 3, ground := Go.Ground.data }], guard := none }) (v := ?v36) rfl (by kernel_rfl) (by kernel_rfl) (by kernel_rfl) (fun _ _ _ h => h) (Or.inl ⟨by rfl, ?hy36⟩) (by assumption) ?rest36
    case hy36 => (intro w hSw; (try dsimp only at hSw); go_simp <;> with_reducible rfl)
    try simp only [Act.put, List.setIfInBounds_toArray, List.set_cons_zero, List.set_cons_succ]
    refine wpAnyH_take (i := 6) (oi := { dst := some 32, op := Go.Op.move (Go.Operand.tmp 0), type := 9, pos := "ref.go:49", after := #[], guard := none }) (v := ?v37) rfl (by kernel_rfl) (by kernel_rfl) (by kernel_rfl) (fun _ _ _ h => h) (Or.inl ⟨by rfl, ?hy37⟩) (by assumption) ?rest37
    case hy37 => (intro w hSw; (try dsimp only at hSw); go_simp <;> with_reducible rfl)
    try simp only [Act.put, List.setIfInBounds_toArray, List.set_cons_zero, List.set_cons_succ]
    refine wpAnyH_take (i := 7) (oi := { dst := some 33, op := Go.Op.slice 9 (Go.Operand.tmp 32) (some (Go.Operand.const (Go.Value.int Go.IntKind.i64 6))) (some (Go.Operand.const (Go.Value.int Go.IntKind.i64 8))) none, type := 9, pos := "ref.go:49", after := #[{ on := 6, ground := Go.Ground.data }], guard := none }) (v := ?v38) rfl (by kernel_rfl) (by kernel_rfl) (by kernel_rfl) (fun _ _ _ h => h) (Or.inl ⟨by rfl, ?hy38⟩) (by assumption) ?rest38
    case hy38 => (intro w hSw; (try dsimp only at hSw); go_simp <;> with_reducible rfl)
    try simp only [Act.put, List.setIfInBounds_toArray, List.set_cons_zero, List.set_cons_succ]
    refine wpAnyH_take (i := 10) (oi := { dst := some 36, op := Go.Op.move (Go.Operand.tmp 0), type := 9, pos := "ref.go:49", after := #[], guard := none }) (v := ?v39) rfl (by kernel_rfl) (by kernel_rfl) (by kernel_rfl) (fun _ _ _ h => h) (Or.inl ⟨by rfl, ?hy39⟩) (by assumption) ?rest39
    case hy39 => (intro w hSw; (try dsimp only at hSw); go_simp <;> with_reducible rfl)
    try simp only [Act.put, List.setIfInBounds_toArray, List.set_cons_zero, List.set_cons_succ]
    refine wpAnyH_take (i := 11) (oi := { dst := some 37, op := Go.Op.move (Go.Operand.tmp 8), type := 3, pos := "ref.go:49", after := #[], guard := none }) (v := ?v40) rfl (by kernel_rfl) (by kernel_rfl) (by kernel_rfl) (fun _ _ _ h => h) (Or.inl ⟨by rfl, ?hy40⟩) (by assumption) ?rest40
    case hy40 => (intro w hSw; (try dsimp only at hSw); go_simp <;> with_reducible rfl)
    try simp only [Act.put, List.setIfInBounds_toArray, List.set_cons_zero, List.set_cons_succ]
    refine wpAnyH_take (i := 12) (oi := { dst := some 38, op := Go.Op.slice 9 (Go.Operand.tmp 36) (some (Go.Operand.const (Go.Value.int Go.IntKind.i64 8))) (some (Go.Operand.tmp 37)) none, type := 9, pos := "ref.go:49", after := #[{ on := 10, ground := Go.Ground.data }, { on := 11, ground := Go.Ground.data }], guard := none }) (v := ?v41) rfl (by kernel_rfl) (by kernel_rfl) (by kernel_rfl) (fun _ _ _ h => h) (Or.inl ⟨by rfl, ?hy41⟩) (by assumption) ?rest41
    case hy41 => (intro w hSw; (try dsimp only at hSw); go_simp <;> with_reducible rfl)
    try simp only [Act.put, List.setIfInBounds_toArray, List.set_cons_zero, List.set_cons_succ]
    refine wpAnyH_ready (rs := [2, 14]) (by kernel_rfl) (by simp) ?_
    refine AllReadyH.cons (o := { dst := some 28, op := Go.Op.call { callee := Go.Callee.value (Go.Operand.func 44), args := #[Go.Operand.tmp 27], argTypes := #[9] }, type := 26, pos := "ref.go:49", after := #[{ on := 1, ground := Go.Ground.data }], guard := none }) rfl (fun K hK => ?_) ?_
    ·
      go_simp
      refine (rnum_any [l.getD 0 0, l.getD 1 0] (by simp) _).mono ?_
      rintro e v ⟨rfl, rfl⟩
      rw [HN0.out]
      refine hK.out _ _ hS (fun _ => ?_)
      refine wpAnyH_ready (rs := [5, 14]) (by kernel_rfl) (by simp) ?_
      refine AllReadyH.cons (o := { dst := some 31, op := Go.Op.call { callee := Go.Callee.value (Go.Operand.func 44), args := #[Go.Operand.tmp 30], argTypes := #[9] }, type := 26, pos := "ref.go:49", after := #[{ on := 4, ground := Go.Ground.data }, { on := 2, ground := Go.Ground.chain }], guard := none }) rfl (fun K hK => ?_) ?_
      ·
        go_simp
        refine (rnum_any [l.getD 2 0, l.getD 3 0] (by simp) _).mono ?_
        rintro e v ⟨rfl, rfl⟩
        rw [HN1.out]
        refine hK.out _ _ hS (fun _ => ?_)
        refine wpAnyH_ready (rs := [8, 14]) (by kernel_rfl) (by simp) ?_
        refine AllReadyH.cons (o := { dst := some 34, op := Go.Op.call { callee := Go.Callee.value (Go.Operand.func 44), args := #[Go.Operand.tmp 33], argTypes := #[9] }, type := 26, pos := "ref.go:49", after := #[{ on := 7, ground := Go.Ground.data }, { on := 5, ground := Go.Ground.chain }], guard := none }) rfl (fun K hK => ?_) ?_
        ·
          go_simp
          refine (rnum_any [l.getD 6 0, l.getD 7 0] (by simp) _).mono ?_
          rintro e v ⟨rfl, rfl⟩
          rw [HSM.out]
          refine hK.out _ _ hS (fun _ => ?_)
          refine wpAnyH_take (i := 9) (oi := { dst := some 35, op := Go.Op.binOp Go.BinOp.eql 26 (Go.Operand.tmp 34) (Go.Operand.const (Go.Value.int Go.IntKind.u32 0)) 26, type := 4, pos := "ref.go:49", after := #[{ on := 8, ground := Go.Ground.data }], guard := none }) (v := ?v42) rfl (by kernel_rfl) (by kernel_rfl) (by kernel_rfl) (fun _ _ _ h => h) (Or.inl ⟨by rfl, ?hy42⟩) (by assumption) ?rest42
          case hy42 => (intro w hSw; (try dsimp only at hSw); go_simp <;> with_reducible rfl)
          try simp only [Act.put, List.setIfInBounds_toArray, List.set_cons_zero, List.set_cons_succ]
          refine wpAnyH_take (i := 13) (oi := { dst := some 39, op := Go.Op.build 34 #[(0, Go.Operand.tmp 28), (1, Go.Operand.tmp 31), (2, Go.Operand.tmp 35), (3, Go.Operand.tmp 38)], type := 34, pos := "ref.go:49", after := #[{ on := 2, ground := Go.Ground.data }, { on := 5, ground := Go.Ground.data }, { on := 9, ground := Go.Ground.data }, { on := 12, ground := Go.Ground.data }], guard := none }) (v := ?v43) rfl (by kernel_rfl) (by kernel_rfl) (by kernel_rfl) (fun _ _ _ h => h) (Or.inl ⟨by rfl, ?hy43⟩) (by assumption) ?rest43
          case hy43 => (intro w hSw; (try dsimp only at hSw); go_simp <;> with_reducible rfl)
          try simp only [Act.put, List.setIfInBounds_toArray, List.set_cons_zero, List.set_cons_succ]
          refine wpAnyH_ready (rs := [14]) (by kernel_rfl) (by simp) ?_
          refine AllReadyH.cons (o := { dst := some 9, op := Go.Op.alloc 34, type := 0, pos := "ref.go:49", after := #[], guard := none }) rfl (fun K hK => ?_) AllReadyH.nil
          go_simp
          have hx : Ex (fun _ => False) wd (wd.alloc (.cells #[.int .u32 0, .int .u32 0, .bool false, .string ⟨#[]⟩] 34)) := (Ex.refl _ wd).alloc _
          have hb : (wd.alloc (.cells #[.int .u32 0, .int .u32 0, .bool false, .string ⟨#[]⟩] 34)).heap[wd.heap.size]? = some (.cells #[.int .u32 0, .int .u32 0, .bool false, .string ⟨#[]⟩] 34) := heap_alloc_new wd _
          obtain ⟨pb, hpb⟩ : ∃ pb, pb = wd.heap.size := ⟨_, rfl⟩
          have hb_pb : wd.heap.size ≤ pb := by omega
          rw [← hpb] at hb
          try simp only [← hpb]
          generalize wd.alloc (.cells #[.int .u32 0, .int .u32 0, .bool false, .string ⟨#[]⟩] 34) = we at hx hb ⊢
          clear hpb
          have HX_we := Lib.hid hx
          clear hx
          have B_pb := Lib.hid hb
          clear hb
          have hS : Ex (fun _ => False) w1 we := (HX_wd.out.trans HX_we.out)
          refine hK.out _ _ hS (fun _ => ?_)
          refine wpAnyH_ready (rs := [15]) (by kernel_rfl) (by simp) ?_
          refine AllReadyH.cons (o := { dst := none, op := Go.Op.store 34 (Go.Operand.tmp 9) (Go.Operand.tmp 39), type := 0, pos := "ref.go:49", after := #[{ on := 14, ground := Go.Ground.data }, { on := 13, ground := Go.Ground.data }, { on := 8, ground := Go.Ground.chain }, { on := 0, ground := Go.Ground.phase }, { on := 1, ground := Go.Ground.phase }, { on := 2, ground := Go.Ground.phase }, { on := 3, ground := Go.Ground.phase }, { on := 4, ground := Go.Ground.phase }, { on := 5, ground := Go.Ground.phase }, { on := 6, ground := Go.Ground.phase }, { on := 7, ground := Go.Ground.phase }, { on := 8, ground := Go.Ground.phase }, { on := 9, ground := Go.Ground.phase }, { on := 10, ground := Go.Ground.phase }, { on := 11, ground := Go.Ground.phase }, { on := 12, ground := Go.Ground.phase }, { on := 13, ground := Go.Ground.phase }, { on := 14, ground := Go.Ground.phase }], guard := none }) rfl (fun K hK => ?_) AllReadyH.nil
          have cpb0 := row_cell (k := 0) (v := .int .u32 0) B_pb.out rfl
          have cpb1 := row_cell (k := 1) (v := .int .u32 0) B_pb.out rfl
          have cpb2 := row_cell (k := 2) (v := .bool false) B_pb.out rfl
          have cpb3 := row_cell (k := 3) (v := .string ⟨#[]⟩) B_pb.out rfl
          have fpb0 := row_frozen B_pb.out 0
          have fpb1 := row_frozen B_pb.out 1
          have fpb2 := row_frozen B_pb.out 2
          have fpb3 := row_frozen B_pb.out 3
          go_simp
          have r0 : (we.setCell ⟨pb, 0, none⟩ (.int .u32 (n0 : Int))).heap[pb]? = some (.cells #[.int .u32 (n0 : Int), .int .u32 0, .bool false, .string ⟨#[]⟩] 34) := row_set B_pb.out 0 (.int .u32 (n0 : Int))
          have r1 : ((we.setCell ⟨pb, 0, none⟩ (.int .u32 (n0 : Int))).setCell ⟨pb, 1, none⟩ (.int .u32 (n1 : Int))).heap[pb]? = some (.cells #[.int .u32 (n0 : Int), .int .u32 (n1 : Int), .bool false, .string ⟨#[]⟩] 34) := row_set r0 1 (.int .u32 (n1 : Int))
          clear r0
          have r2 : (((we.setCell ⟨pb, 0, none⟩ (.int .u32 (n0 : Int))).setCell ⟨pb, 1, none⟩ (.int .u32 (n1 : Int))).setCell ⟨pb, 2, none⟩ (.bool pl)).heap[pb]? = some (.cells #[.int .u32 (n0 : Int), .int .u32 (n1 : Int), .bool pl, .string ⟨#[]⟩] 34) := row_set r1 2 (.bool pl)
          clear r1
          have r3 : ((((we.setCell ⟨pb, 0, none⟩ (.int .u32 (n0 : Int))).setCell ⟨pb, 1, none⟩ (.int .u32 (n1 : Int))).setCell ⟨pb, 2, none⟩ (.bool pl)).setCell ⟨pb, 3, none⟩ (.string (bs bb))).heap[pb]? = some (.cells #[.int .u32 (n0 : Int), .int .u32 (n1 : Int), .bool pl, .string (bs bb)] 34) := row_set r2 3 (.string (bs bb))
          clear r2
          have hx : Ex (fun j => j = pb) we ((((we.setCell ⟨pb, 0, none⟩ (.int .u32 (n0 : Int))).setCell ⟨pb, 1, none⟩ (.int .u32 (n1 : Int))).setCell ⟨pb, 2, none⟩ (.bool pl)).setCell ⟨pb, 3, none⟩ (.string (bs bb))) := (((((Ex.refl (fun j => j = pb) we).setCell (p := ⟨pb, 0, none⟩) (.inl rfl) (.int .u32 (n0 : Int))).setCell (p := ⟨pb, 1, none⟩) (.inl rfl) (.int .u32 (n1 : Int))).setCell (p := ⟨pb, 2, none⟩) (.inl rfl) (.bool pl)).setCell (p := ⟨pb, 3, none⟩) (.inl rfl) (.string (bs bb)))
          clear cpb0 cpb1 cpb2 cpb3 fpb0 fpb1 fpb2 fpb3
          generalize ((((we.setCell ⟨pb, 0, none⟩ (.int .u32 (n0 : Int))).setCell ⟨pb, 1, none⟩ (.int .u32 (n1 : Int))).setCell ⟨pb, 2, none⟩ (.bool pl)).setCell ⟨pb, 3, none⟩ (.string (bs bb))) = wf at r3 hx ⊢
          replace B_pb := Lib.hid r3
          clear r3
          have HX_wf := Lib.hid hx
          clear hx
          have hS : Ex (fun _ => False) w1 wf := ((HX_wd.out.trans HX_we.out).andThen HX_wf.out (fun i hi e => by have := HX_wd.out.size; have := hb_pb; omega))
          refine hK.out _ _ hS (fun _ => ?_)
          refine wpAnyH_done (by kernel_rfl) ?_ _
          go_wp2_with fail
          go_meet
          exact ⟨pb, rfl, Lib.hid B_pb.out, Lib.hid ((HX_wd.out.trans HX_we.out).andThen HX_wf.out (fun i hi e => by have := HX_wd.out.size; have := hb_pb; omega))⟩
        refine AllReadyH.cons (o := { dst := some 9, op := Go.Op.alloc 34, type := 0, pos := "ref.go:49", after := #[], guard := none }) rfl (fun K hK => ?_) AllReadyH.nil
        go_simp
        have hx : Ex (fun _ => False) wd (wd.alloc (.cells #[.int .u32 0, .int .u32 0, .bool false, .string ⟨#[]⟩] 34)) := (Ex.refl _ wd).alloc _
        have hb : (wd.alloc (.cells #[.int .u32 0, .int .u32 0, .bool false, .string ⟨#[]⟩] 34)).heap[wd.heap.size]? = some (.cells #[.int .u32 0, .int .u32 0, .bool false, .string ⟨#[]⟩] 34) := heap_alloc_new wd _
        obtain ⟨pb, hpb⟩ : ∃ pb, pb = wd.heap.size := ⟨_, rfl⟩
        have hb_pb : wd.heap.size ≤ pb := by omega
        rw [← hpb] at hb
        try simp only [← hpb]
        generalize wd.alloc (.cells #[.int .u32 0, .int .u32 0, .bool false, .string ⟨#[]⟩] 34) = we at hx hb ⊢
        clear hpb
        have HX_we := Lib.hid hx
        clear hx
        have B_pb := Lib.hid hb
        clear hb
        have hS : Ex (fun _ => False) w1 we := (HX_wd.out.trans HX_we.out)
        refine hK.out _ _ hS (fun _ => ?_)
        refine wpAnyH_ready (rs := [8]) (by kernel_rfl) (by simp) ?_
        refine AllReadyH.cons (o := { dst := some 34, op := Go.Op.call { callee := Go.Callee.value (Go.Operand.func 44), args := #[Go.Operand.tmp 33], argTypes := #[9] }, type := 26, pos := "ref.go:49", after := #[{ on := 7, ground := Go.Ground.data }, { on := 5, ground := Go.Ground.chain }], guard := none }) rfl (fun K hK => ?_) AllReadyH.nil
        go_simp
        refine (rnum_any [l.getD 6 0, l.getD 7 0] (by simp) _).mono ?_
        rintro e v ⟨rfl, rfl⟩
        rw [HSM.out]
        refine hK.out _ _ hS (fun _ => ?_)
        refine wpAnyH_take (i := 9) (oi := { dst := some 35, op := Go.Op.binOp Go.BinOp.eql 26 (Go.Operand.tmp 34) (Go.Operand.const (Go.Value.int Go.IntKind.u32 0)) 26, type := 4, pos := "ref.go:49", after := #[{ on := 8, ground := Go.Ground.data }], guard := none }) (v := ?v44) rfl (by kernel_rfl) (by kernel_rfl) (by kernel_rfl) (fun _ _ _ h => h) (Or.inl ⟨by rfl, ?hy44⟩) (by assumption) ?rest44
        case hy44 => (intro w hSw; (try dsimp only at hSw); go_simp <;> with_reducible rfl)
        try simp only [Act.put, List.setIfInBounds_toArray, List.set_cons_zero, List.set_cons_succ]
        refine wpAnyH_take (i := 13) (oi := { dst := some 39, op := Go.Op.build 34 #[(0, Go.Operand.tmp 28), (1, Go.Operand.tmp 31), (2, Go.Operand.tmp 35), (3, Go.Operand.tmp 38)], type := 34, pos := "ref.go:49", after := #[{ on := 2, ground := Go.Ground.data }, { on := 5, ground := Go.Ground.data }, { on := 9, ground := Go.Ground.data }, { on := 12, ground := Go.Ground.data }], guard := none }) (v := ?v45) rfl (by kernel_rfl) (by kernel_rfl) (by kernel_rfl) (fun _ _ _ h => h) (Or.inl ⟨by rfl, ?hy45⟩) (by assumption) ?rest45
        case hy45 => (intro w hSw; (try dsimp only at hSw); go_simp <;> with_reducible rfl)
        try simp only [Act.put, List.setIfInBounds_toArray, List.set_cons_zero, List.set_cons_succ]
        refine wpAnyH_ready (rs := [15]) (by kernel_rfl) (by simp) ?_
        refine AllReadyH.cons (o := { dst := none, op := Go.Op.store 34 (Go.Operand.tmp 9) (Go.Operand.tmp 39), type := 0, pos := "ref.go:49", after := #[{ on := 14, ground := Go.Ground.data }, { on := 13, ground := Go.Ground.data }, { on := 8, ground := Go.Ground.chain }, { on := 0, ground := Go.Ground.phase }, { on := 1, ground := Go.Ground.phase }, { on := 2, ground := Go.Ground.phase }, { on := 3, ground := Go.Ground.phase }, { on := 4, ground := Go.Ground.phase }, { on := 5, ground := Go.Ground.phase }, { on := 6, ground := Go.Ground.phase }, { on := 7, ground := Go.Ground.phase }, { on := 8, ground := Go.Ground.phase }, { on := 9, ground := Go.Ground.phase }, { on := 10, ground := Go.Ground.phase }, { on := 11, ground := Go.Ground.phase }, { on := 12, ground := Go.Ground.phase }, { on := 13, ground := Go.Ground.phase }, { on := 14, ground := Go.Ground.phase }], guard := none }) rfl (fun K hK => ?_) AllReadyH.nil
        have cpb0 := row_cell (k := 0) (v := .int .u32 0) B_pb.out rfl
        have cpb1 := row_cell (k := 1) (v := .int .u32 0) B_pb.out rfl
        have cpb2 := row_cell (k := 2) (v := .bool false) B_pb.out rfl
        have cpb3 := row_cell (k := 3) (v := .string ⟨#[]⟩) B_pb.out rfl
        have fpb0 := row_frozen B_pb.out 0
        have fpb1 := row_frozen B_pb.out 1
        have fpb2 := row_frozen B_pb.out 2
        have fpb3 := row_frozen B_pb.out 3
        go_simp
        have r0 : (we.setCell ⟨pb, 0, none⟩ (.int .u32 (n0 : Int))).heap[pb]? = some (.cells #[.int .u32 (n0 : Int), .int .u32 0, .bool false, .string ⟨#[]⟩] 34) := row_set B_pb.out 0 (.int .u32 (n0 : Int))
        have r1 : ((we.setCell ⟨pb, 0, none⟩ (.int .u32 (n0 : Int))).setCell ⟨pb, 1, none⟩ (.int .u32 (n1 : Int))).heap[pb]? = some (.cells #[.int .u32 (n0 : Int), .int .u32 (n1 : Int), .bool false, .string ⟨#[]⟩] 34) := row_set r0 1 (.int .u32 (n1 : Int))
        clear r0
        have r2 : (((we.setCell ⟨pb, 0, none⟩ (.int .u32 (n0 : Int))).setCell ⟨pb, 1, none⟩ (.int .u32 (n1 : Int))).setCell ⟨pb, 2, none⟩ (.bool pl)).heap[pb]? = some (.cells #[.int .u32 (n0 : Int), .int .u32 (n1 : Int), .bool pl, .string ⟨#[]⟩] 34) := row_set r1 2 (.bool pl)
        clear r1
        have r3 : ((((we.setCell ⟨pb, 0, none⟩ (.int .u32 (n0 : Int))).setCell ⟨pb, 1, none⟩ (.int .u32 (n1 : Int))).setCell ⟨pb, 2, none⟩ (.bool pl)).setCell ⟨pb, 3, none⟩ (.string (bs bb))).heap[pb]? = some (.cells #[.int .u32 (n0 : Int), .int .u32 (n1 : Int), .bool pl, .string (bs bb)] 34) := row_set r2 3 (.string (bs bb))
        clear r2
        have hx : Ex (fun j => j = pb) we ((((we.setCell ⟨pb, 0, none⟩ (.int .u32 (n0 : Int))).setCell ⟨pb, 1, none⟩ (.int .u32 (n1 : Int))).setCell ⟨pb, 2, none⟩ (.bool pl)).setCell ⟨pb, 3, none⟩ (.string (bs bb))) := (((((Ex.refl (fun j => j = pb) we).setCell (p := ⟨pb, 0, none⟩) (.inl rfl) (.int .u32 (n0 : Int))).setCell (p := ⟨pb, 1, none⟩) (.inl rfl) (.int .u32 (n1 : Int))).setCell (p := ⟨pb, 2, none⟩) (.inl rfl) (.bool pl)).setCell (p := ⟨pb, 3, none⟩) (.inl rfl) (.string (bs bb)))
        clear cpb0 cpb1 cpb2 cpb3 fpb0 fpb1 fpb2 fpb3
        generalize ((((we.setCell ⟨pb, 0, none⟩ (.int .u32 (n0 : Int))).setCell ⟨pb, 1, none⟩ (.int .u32 (n1 : Int))).setCell ⟨pb, 2, none⟩ (.bool pl)).setCell ⟨pb, 3, none⟩ (.string (bs bb))) = wf at r3 hx ⊢
        replace B_pb := Lib.hid r3
        clear r3
        have HX_wf := Lib.hid hx
        clear hx
        have hS : Ex (fun _ => False) w1 wf := ((HX_wd.out.trans HX_we.out).andThen HX_wf.out (fun i hi e => by have := HX_wd.out.size; have := hb_pb; omega))
        refine hK.out _ _ hS (fun _ => ?_)
        refine wpAnyH_done (by kernel_rfl) ?_ _
        go_wp2_with fail
        go_meet
        exact ⟨pb, rfl, Lib.hid B_pb.out, Lib.hid ((HX_wd.out.trans HX_we.out).andThen HX_wf.out (fun i hi e => by have := HX_wd.out.size; have := hb_pb; omega))⟩
      refine AllReadyH.cons (o := { dst := some 9, op := Go.Op.alloc 34, type := 0, pos := "ref.go:49", after := #[], guard := none }) rfl (fun K hK => ?_) AllReadyH.nil
      go_simp
      have hx : Ex (fun _ => False) wd (wd.alloc (.cells #[.int .u32 0, .int .u32 0, .bool false, .string ⟨#[]⟩] 34)) := (Ex.refl _ wd).alloc _
      have hb : (wd.alloc (.cells #[.int .u32 0, .int .u32 0, .bool false, .string ⟨#[]⟩] 34)).heap[wd.heap.size]? = some (.cells #[.int .u32 0, .int .u32 0, .bool false, .string ⟨#[]⟩] 34) := heap_alloc_new wd _
      obtain ⟨pb, hpb⟩ : ∃ pb, pb = wd.heap.size := ⟨_, rfl⟩
      have hb_pb : wd.heap.size ≤ pb := by omega
      rw [← hpb] at hb
      try simp only [← hpb]
      generalize wd.alloc (.cells #[.int .u32 0, .int .u32 0, .bool false, .string ⟨#[]⟩] 34) = we at hx hb ⊢
      clear hpb
      have HX_we := Lib.hid hx
      clear hx
      have B_pb := Lib.hid hb
      clear hb
      have hS : Ex (fun _ => False) w1 we := (HX_wd.out.trans HX_we.out)
      refine hK.out _ _ hS (fun _ => ?_)
      refine wpAnyH_ready (rs := [5]) (by kernel_rfl) (by simp) ?_
      refine AllReadyH.cons (o := { dst := some 31, op := Go.Op.call { callee := Go.Callee.value (Go.Operand.func 44), args := #[Go.Operand.tmp 30], argTypes := #[9] }, type := 26, pos := "ref.go:49", after := #[{ on := 4, ground := Go.Ground.data }, { on := 2, ground := Go.Ground.chain }], guard := none }) rfl (fun K hK => ?_) AllReadyH.nil
      go_simp
      refine (rnum_any [l.getD 2 0, l.getD 3 0] (by simp) _).mono ?_
      rintro e v ⟨rfl, rfl⟩
      rw [HN1.out]
      refine hK.out _ _ hS (fun _ => ?_)
      refine wpAnyH_ready (rs := [8]) (by kernel_rfl) (by simp) ?_
      refine AllReadyH.cons (o := { dst := some 34, op := Go.Op.call { callee := Go.Callee.value (Go.Operand.func 44), args := #[Go.Operand.tmp 33], argTypes := #[9] }, type := 26, pos := "ref.go:49", after := #[{ on := 7, ground := Go.Ground.data }, { on := 5, ground := Go.Ground.chain }], guard := none }) rfl (fun K hK => ?_) AllReadyH.nil
      go_simp
      refine (rnum_any [l.getD 6 0, l.getD 7 0] (by simp) _).mono ?_
      rintro e v ⟨rfl, rfl⟩
      rw [HSM.out]
      refine hK.out _ _ hS (fun _ => ?_)
      refine wpAnyH_take (i := 9) (oi := { dst := some 35, op := Go.Op.binOp Go.BinOp.eql 26 (Go.Operand.tmp 34) (Go.Operand.const (Go.Value.int Go.IntKind.u32 0)) 26, type := 4, pos := "ref.go:49", after := #[{ on := 8, ground := Go.Ground.data }], guard := none }) (v := ?v46) rfl (by kernel_rfl) (by kernel_rfl) (by kernel_rfl) (fun _ _ _ h => h) (Or.inl ⟨by rfl, ?hy46⟩) (by assumption) ?rest46
      case hy46 => (intro w hSw; (try dsimp only at hSw); go_simp <;> with_reducible rfl)
      try simp only [Act.put, List.setIfInBounds_toArray, List.set_cons_zero, List.set_cons_succ]
      refine wpAnyH_take (i := 13) (oi := { dst := some 39, op := Go.Op.build 34 #[(0, Go.Operand.tmp 28), (1, Go.Operand.tmp 31), (2, Go.Operand.tmp 35), (3, Go.Operand.tmp 38)], type := 34, pos := "ref.go:49", after := #[{ on := 2, ground := Go.Ground.data }, { on := 5, ground := Go.Ground.data }, { on := 9, ground := Go.Ground.data }, { on := 12, ground := Go.Ground.data }], guard := none }) (v := ?v47) rfl (by kernel_rfl) (by kernel_rfl) (by kernel_rfl) (fun _ _ _ h => h) (Or.inl ⟨by rfl, ?hy47⟩) (by assumption) ?rest47
      case hy47 => (intro w hSw; (try dsimp only at hSw); go_simp <;> with_reducible rfl)
      try simp only [Act.put, List.setIfInBounds_toArray, List.set_cons_zero, List.set_cons_succ]
      refine wpAnyH_ready (rs := [15]) (by kernel_rfl) (by simp) ?_
      refine AllReadyH.cons (o := { dst := none, op := Go.Op.store 34 (Go.Operand.tmp 9) (Go.Operand.tmp 39), type := 0, pos := "ref.go:49", after := #[{ on := 14, ground := Go.Ground.data }, { on := 13, ground := Go.Ground.data }, { on := 8, ground := Go.Ground.chain }, { on := 0, ground := Go.Ground.phase }, { on := 1, ground := Go.Ground.phase }, { on := 2, ground := Go.Ground.phase }, { on := 3, ground := Go.Ground.phase }, { on := 4, ground := Go.Ground.phase }, { on := 5, ground := Go.Ground.phase }, { on := 6, ground := Go.Ground.phase }, { on := 7, ground := Go.Ground.phase }, { on := 8, ground := Go.Ground.phase }, { on := 9, ground := Go.Ground.phase }, { on := 10, ground := Go.Ground.phase }, { on := 11, ground := Go.Ground.phase }, { on := 12, ground := Go.Ground.phase }, { on := 13, ground := Go.Ground.phase }, { on := 14, ground := Go.Ground.phase }], guard := none }) rfl (fun K hK => ?_) AllReadyH.nil
      have cpb0 := row_cell (k := 0) (v := .int .u32 0) B_pb.out rfl
      have cpb1 := row_cell (k := 1) (v := .int .u32 0) B_pb.out rfl
      have cpb2 := row_cell (k := 2) (v := .bool false) B_pb.out rfl
      have cpb3 := row_cell (k := 3) (v := .string ⟨#[]⟩) B_pb.out rfl
      have fpb0 := row_frozen B_pb.out 0
      have fpb1 := row_frozen B_pb.out 1
      have fpb2 := row_frozen B_pb.out 2
      have fpb3 := row_frozen B_pb.out 3
      go_simp
      have r0 : (we.setCell ⟨pb, 0, none⟩ (.int .u32 (n0 : Int))).heap[pb]? = some (.cells #[.int .u32 (n0 : Int), .int .u32 0, .bool false, .string ⟨#[]⟩] 34) := row_set B_pb.out 0 (.int .u32 (n0 : Int))
      have r1 : ((we.setCell ⟨pb, 0, none⟩ (.int .u32 (n0 : Int))).setCell ⟨pb, 1, none⟩ (.int .u32 (n1 : Int))).heap[pb]? = some (.cells #[.int .u32 (n0 : Int), .int .u32 (n1 : Int), .bool false, .string ⟨#[]⟩] 34) := row_set r0 1 (.int .u32 (n1 : Int))
      clear r0
      have r2 : (((we.setCell ⟨pb, 0, none⟩ (.int .u32 (n0 : Int))).setCell ⟨pb, 1, none⟩ (.int .u32 (n1 : Int))).setCell ⟨pb, 2, none⟩ (.bool pl)).heap[pb]? = some (.cells #[.int .u32 (n0 : Int), .int .u32 (n1 : Int), .bool pl, .string ⟨#[]⟩] 34) := row_set r1 2 (.bool pl)
      clear r1
      have r3 : ((((we.setCell ⟨pb, 0, none⟩ (.int .u32 (n0 : Int))).setCell ⟨pb, 1, none⟩ (.int .u32 (n1 : Int))).setCell ⟨pb, 2, none⟩ (.bool pl)).setCell ⟨pb, 3, none⟩ (.string (bs bb))).heap[pb]? = some (.cells #[.int .u32 (n0 : Int), .int .u32 (n1 : Int), .bool pl, .string (bs bb)] 34) := row_set r2 3 (.string (bs bb))
      clear r2
      have hx : Ex (fun j => j = pb) we ((((we.setCell ⟨pb, 0, none⟩ (.int .u32 (n0 : Int))).setCell ⟨pb, 1, none⟩ (.int .u32 (n1 : Int))).setCell ⟨pb, 2, none⟩ (.bool pl)).setCell ⟨pb, 3, none⟩ (.string (bs bb))) := (((((Ex.refl (fun j => j = pb) we).setCell (p := ⟨pb, 0, none⟩) (.inl rfl) (.int .u32 (n0 : Int))).setCell (p := ⟨pb, 1, none⟩) (.inl rfl) (.int .u32 (n1 : Int))).setCell (p := ⟨pb, 2, none⟩) (.inl rfl) (.bool pl)).setCell (p := ⟨pb, 3, none⟩) (.inl rfl) (.string (bs bb)))
      clear cpb0 cpb1 cpb2 cpb3 fpb0 fpb1 fpb2 fpb3
      generalize ((((we.setCell ⟨pb, 0, none⟩ (.int .u32 (n0 : Int))).setCell ⟨pb, 1, none⟩ (.int .u32 (n1 : Int))).setCell ⟨pb, 2, none⟩ (.bool pl)).setCell ⟨pb, 3, none⟩ (.string (bs bb))) = wf at r3 hx ⊢
      replace B_pb := Lib.hid r3
      clear r3
      have HX_wf := Lib.hid hx
      clear hx
      have hS : Ex (fun _ => False) w1 wf := ((HX_wd.out.trans HX_we.out).andThen HX_wf.out (fun i hi e => by have := HX_wd.out.size; have := hb_pb; omega))
      refine hK.out _ _ hS (fun _ => ?_)
      refine wpAnyH_done (by kernel_rfl) ?_ _
      go_wp2_with fail
      go_meet
      exact ⟨pb, rfl, Lib.hid B_pb.out, Lib.hid ((HX_wd.out.trans HX_we.out).andThen HX_wf.out (fun i hi e => by have := HX_wd.out.size; have := hb_pb; omega))⟩
    refine AllReadyH.cons (o := { dst := some 9, op := Go.Op.alloc 34, type := 0, pos := "ref.go:49", after := #[], guard := none }) rfl (fun K hK => ?_) AllReadyH.nil
    go_simp
    have hx : Ex (fun _ => False) wd (wd.alloc (.cells #[.int .u32 0, .int .u32 0, .bool false, .string ⟨#[]⟩] 34)) := (Ex.refl _ wd).alloc _
    have hb : (wd.alloc (.cells #[.int .u32 0, .int .u32 0, .bool false, .string ⟨#[]⟩] 34)).heap[wd.heap.size]? = some (.cells #[.int .u32 0, .int .u32 0, .bool false, .string ⟨#[]⟩] 34) := heap_alloc_new wd _
    obtain ⟨pb, hpb⟩ : ∃ pb, pb = wd.heap.size := ⟨_, rfl⟩
    have hb_pb : wd.heap.size ≤ pb := by omega
    rw [← hpb] at hb
    try simp only [← hpb]
    generalize wd.alloc (.cells #[.int .u32 0, .int .u32 0, .bool false, .string ⟨#[]⟩] 34) = we at hx hb ⊢
    clear hpb
    have HX_we := Lib.hid hx
    clear hx
    have B_pb := Lib.hid hb
    clear hb
    have hS : Ex (fun _ => False) w1 we := (HX_wd.out.trans HX_we.out)
    refine hK.out _ _ hS (fun _ => ?_)
    refine wpAnyH_ready (rs := [2]) (by kernel_rfl) (by simp) ?_
    refine AllReadyH.cons (o := { dst := some 28, op := Go.Op.call { callee := Go.Callee.value (Go.Operand.func 44), args := #[Go.Operand.tmp 27], argTypes := #[9] }, type := 26, pos := "ref.go:49", after := #[{ on := 1, ground := Go.Ground.data }], guard := none }) rfl (fun K hK => ?_) AllReadyH.nil
    go_simp
    refine (rnum_any [l.getD 0 0, l.getD 1 0] (by simp) _).mono ?_
    rintro e v ⟨rfl, rfl⟩
    rw [HN0.out]
    refine hK.out _ _ hS (fun _ => ?_)
    refine wpAnyH_ready (rs := [5]) (by kernel_rfl) (by simp) ?_
    refine AllReadyH.cons (o := { dst := some 31, op := Go.Op.call { callee := Go.Callee.value (Go.Operand.func 44), args := #[Go.Operand.tmp 30], argTypes := #[9] }, type := 26, pos := "ref.go:49", after := #[{ on := 4, ground := Go.Ground.data }, { on := 2, ground := Go.Ground.chain }], guard := none }) rfl (fun K hK => ?_) AllReadyH.nil
    go_simp
    refine (rnum_any [l.getD 2 0, l.getD 3 0] (by simp) _).mono ?_
    rintro e v ⟨rfl, rfl⟩
    rw [HN1.out]
    refine hK.out _ _ hS (fun _ => ?_)
    refine wpAnyH_ready (rs := [8]) (by kernel_rfl) (by simp) ?_
    refine AllReadyH.cons (o := { dst := some 34, op := Go.Op.call { callee := Go.Callee.value (Go.Operand.func 44), args := #[Go.Operand.tmp 33], argTypes := #[9] }, type := 26, pos := "ref.go:49", after := #[{ on := 7, ground := Go.Ground.data }, { on := 5, ground := Go.Ground.chain }], guard := none }) rfl (fun K hK => ?_) AllReadyH.nil
    go_simp
    refine (rnum_any [l.getD 6 0, l.getD 7 0] (by simp) _).mono ?_
    rintro e v ⟨rfl, rfl⟩
    rw [HSM.out]
    refine hK.out _ _ hS (fun _ => ?_)
    refine wpAnyH_take (i := 9) (oi := { dst := some 35, op := Go.Op.binOp Go.BinOp.eql 26 (Go.Operand.tmp 34) (Go.Operand.const (Go.Value.int Go.IntKind.u32 0)) 26, type := 4, pos := "ref.go:49", after := #[{ on := 8, ground := Go.Ground.data }], guard := none }) (v := ?v48) rfl (by kernel_rfl) (by kernel_rfl) (by kernel_rfl) (fun _ _ _ h => h) (Or.inl ⟨by rfl, ?hy48⟩) (by assumption) ?rest48
    case hy48 => (intro w hSw; (try dsimp only at hSw); go_simp <;> with_reducible rfl)
    try simp only [Act.put, List.setIfInBounds_toArray, List.set_cons_zero, List.set_cons_succ]
    refine wpAnyH_take (i := 13) (oi := { dst := some 39, op := Go.Op.build 34 #[(0, Go.Operand.tmp 28), (1, Go.Operand.tmp 31), (2, Go.Operand.tmp 35), (3, Go.Operand.tmp 38)], type := 34, pos := "ref.go:49", after := #[{ on := 2, ground := Go.Ground.data }, { on := 5, ground := Go.Ground.data }, { on := 9, ground := Go.Ground.data }, { on := 12, ground := Go.Ground.data }], guard := none }) (v := ?v49) rfl (by kernel_rfl) (by kernel_rfl) (by kernel_rfl) (fun _ _ _ h => h) (Or.inl ⟨by rfl, ?hy49⟩) (by assumption) ?rest49
    case hy49 => (intro w hSw; (try dsimp only at hSw); go_simp <;> with_reducible rfl)
    try simp only [Act.put, List.setIfInBounds_toArray, List.set_cons_zero, List.set_cons_succ]
    refine wpAnyH_ready (rs := [15]) (by kernel_rfl) (by simp) ?_
    refine AllReadyH.cons (o := { dst := none, op := Go.Op.store 34 (Go.Operand.tmp 9) (Go.Operand.tmp 39), type := 0, pos := "ref.go:49", after := #[{ on := 14, ground := Go.Ground.data }, { on := 13, ground := Go.Ground.data }, { on := 8, ground := Go.Ground.chain }, { on := 0, ground := Go.Ground.phase }, { on := 1, ground := Go.Ground.phase }, { on := 2, ground := Go.Ground.phase }, { on := 3, ground := Go.Ground.phase }, { on := 4, ground := Go.Ground.phase }, { on := 5, ground := Go.Ground.phase }, { on := 6, ground := Go.Ground.phase }, { on := 7, ground := Go.Ground.phase }, { on := 8, ground := Go.Ground.phase }, { on := 9, ground := Go.Ground.phase }, { on := 10, ground := Go.Ground.phase }, { on := 11, ground := Go.Ground.phase }, { on := 12, ground := Go.Ground.phase }, { on := 13, ground := Go.Ground.phase }, { on := 14, ground := Go.Ground.phase }], guard := none }) rfl (fun K hK => ?_) AllReadyH.nil
    have cpb0 := row_cell (k := 0) (v := .int .u32 0) B_pb.out rfl
    have cpb1 := row_cell (k := 1) (v := .int .u32 0) B_pb.out rfl
    have cpb2 := row_cell (k := 2) (v := .bool false) B_pb.out rfl
    have cpb3 := row_cell (k := 3) (v := .string ⟨#[]⟩) B_pb.out rfl
    have fpb0 := row_frozen B_pb.out 0
    have fpb1 := row_frozen B_pb.out 1
    have fpb2 := row_frozen B_pb.out 2
    have fpb3 := row_frozen B_pb.out 3
    go_simp
    have r0 : (we.setCell ⟨pb, 0, none⟩ (.int .u32 (n0 : Int))).heap[pb]? = some (.cells #[.int .u32 (n0 : Int), .int .u32 0, .bool false, .string ⟨#[]⟩] 34) := row_set B_pb.out 0 (.int .u32 (n0 : Int))
    have r1 : ((we.setCell ⟨pb, 0, none⟩ (.int .u32 (n0 : Int))).setCell ⟨pb, 1, none⟩ (.int .u32 (n1 : Int))).heap[pb]? = some (.cells #[.int .u32 (n0 : Int), .int .u32 (n1 : Int), .bool false, .string ⟨#[]⟩] 34) := row_set r0 1 (.int .u32 (n1 : Int))
    clear r0
    have r2 : (((we.setCell ⟨pb, 0, none⟩ (.int .u32 (n0 : Int))).setCell ⟨pb, 1, none⟩ (.int .u32 (n1 : Int))).setCell ⟨pb, 2, none⟩ (.bool pl)).heap[pb]? = some (.cells #[.int .u32 (n0 : Int), .int .u32 (n1 : Int), .bool pl, .string ⟨#[]⟩] 34) := row_set r1 2 (.bool pl)
    clear r1
    have r3 : ((((we.setCell ⟨pb, 0, none⟩ (.int .u32 (n0 : Int))).setCell ⟨pb, 1, none⟩ (.int .u32 (n1 : Int))).setCell ⟨pb, 2, none⟩ (.bool pl)).setCell ⟨pb, 3, none⟩ (.string (bs bb))).heap[pb]? = some (.cells #[.int .u32 (n0 : Int), .int .u32 (n1 : Int), .bool pl, .string (bs bb)] 34) := row_set r2 3 (.string (bs bb))
    clear r2
    have hx : Ex (fun j => j = pb) we ((((we.setCell ⟨pb, 0, none⟩ (.int .u32 (n0 : Int))).setCell ⟨pb, 1, none⟩ (.int .u32 (n1 : Int))).setCell ⟨pb, 2, none⟩ (.bool pl)).setCell ⟨pb, 3, none⟩ (.string (bs bb))) := (((((Ex.refl (fun j => j = pb) we).setCell (p := ⟨pb, 0, none⟩) (.inl rfl) (.int .u32 (n0 : Int))).setCell (p := ⟨pb, 1, none⟩) (.inl rfl) (.int .u32 (n1 : Int))).setCell (p := ⟨pb, 2, none⟩) (.inl rfl) (.bool pl)).setCell (p := ⟨pb, 3, none⟩) (.inl rfl) (.string (bs bb)))
    clear cpb0 cpb1 cpb2 cpb3 fpb0 fpb1 fpb2 fpb3
    generalize ((((we.setCell ⟨pb, 0, none⟩ (.int .u32 (n0 : Int))).setCell ⟨pb, 1, none⟩ (.int .u32 (n1 : Int))).setCell ⟨pb, 2, none⟩ (.bool pl)).setCell ⟨pb, 3, none⟩ (.string (bs bb))) = wf at r3 hx ⊢
    replace B_pb := Lib.hid r3
    clear r3
    have HX_wf := Lib.hid hx
    clear hx
    have hS : Ex (fun _ => False) w1 wf := ((HX_wd.out.trans HX_we.out).andThen HX_wf.out (fun i hi e => by have := HX_wd.out.size; have := hb_pb; omega))
    refine hK.out _ _ hS (fun _ => ?_)
    refine wpAnyH_done (by kernel_rfl) ?_ _
    go_wp2_with fail
    go_meet
    exact ⟨pb, rfl, Lib.hid B_pb.out, Lib.hid ((HX_wd.out.trans HX_we.out).andThen HX_wf.out (fun i hi e => by have := HX_wd.out.size; have := hb_pb; omega))⟩
  case rest =>
    obtain ⟨pb, rfl, B_pb, hx⟩ := hcut
    have hx := hx.out
    clear q1
    have HX_wc := Lib.hid hx
    clear hx
    obtain rfl := HPLV.out
    have cpb2 := row_cell (k := 2) (v := .bool false) B_pb.out rfl
    go_upto_region 9 with fail
    have hS0 : Ex (fun _ => False) wc wc.drew := (Ex.refl _ wc).drew
    refine wp_region_held_drew (S := fun W => Ex (fun _ => False) wc W) (by kernel_rfl) hS0 (fun _ => ?_)
    refine wpAnyH_take (i := 0) (oi := { dst := some 40, op := Go.Op.fieldAddr 34 (Go.Operand.tmp 9) 2, type := 0, pos := "ref.go:50", after := #[], guard := none }) (v := ?v50) rfl (by kernel_rfl) (by kernel_rfl) (by kernel_rfl) (fun _ _ _ h => h) (Or.inl ⟨by rfl, ?hy50⟩) (by assumption) ?rest50
    case hy50 => (intro w hSw; (try dsimp only at hSw); have ecpb2 := hSw.cell cpb2 id; go_simp <;> with_reducible rfl)
    try simp only [Act.put, List.setIfInBounds_toArray, List.set_cons_zero, List.set_cons_succ]
    refine wpAnyH_take (i := 1) (oi := { dst := some 41, op := Go.Op.load 4 (Go.Operand.tmp 40), type := 4, pos := "ref.go:50", after := #[{ on := 0, ground := Go.Ground.data }], guard := none }) (v := ?v51) rfl (by kernel_rfl) (by kernel_rfl) (by kernel_rfl) (fun _ _ _ h => h) (Or.inl ⟨by rfl, ?hy51⟩) (by assumption) ?rest51
    case hy51 => (intro w hSw; (try dsimp only at hSw); have ecpb2 := hSw.cell cpb2 id; go_simp <;> with_reducible rfl)
    try simp only [Act.put, List.setIfInBounds_toArray, List.set_cons_zero, List.set_cons_succ]
    refine wpAnyH_take (i := 2) (oi := { dst := some 42, op := Go.Op.unOp Go.UnOp.not 4 (Go.Operand.tmp 41), type := 4, pos := "ref.go:50", after := #[{ on := 1, ground := Go.Ground.data }], guard := none }) (v := ?v52) rfl (by kernel_rfl) (by kernel_rfl) (by kernel_rfl) (fun _ _ _ h => h) (Or.inl ⟨by rfl, ?hy52⟩) (by assumption) ?rest52
    case hy52 => (intro w hSw; (try dsimp only at hSw); have ecpb2 := hSw.cell cpb2 id; go_simp <;> with_reducible rfl)
    try simp only [Act.put, List.setIfInBounds_toArray, List.set_cons_zero, List.set_cons_succ]
    refine wpAnyH_take (i := 3) (oi := { dst := some 43, op := Go.Op.move (Go.Operand.tmp 42), type := 4, pos := "ref.go:50", after := #[{ on := 2, ground := Go.Ground.data }], guard := none }) (v := ?v53) rfl (by kernel_rfl) (by kernel_rfl) (by kernel_rfl) (fun _ _ _ h => h) (Or.inl ⟨by rfl, ?hy53⟩) (by assumption) ?rest53
    case hy53 => (intro w hSw; (try dsimp only at hSw); have ecpb2 := hSw.cell cpb2 id; go_simp <;> with_reducible rfl)
    try simp only [Act.put, List.setIfInBounds_toArray, List.set_cons_zero, List.set_cons_succ]
    refine wpAnyH_take (i := 4) (oi := { dst := some 44, op := Go.Op.move (Go.Operand.tmp 1), type := 26, pos := "ref.go:50", after := #[{ on := 3, ground := Go.Ground.guard }], guard := some (3, true) }) (v := ?v54) rfl (by kernel_rfl) (by kernel_rfl) (by kernel_rfl) (fun _ _ _ h => h) (Or.inl ⟨by rfl, ?hy54⟩) (by assumption) ?rest54
    case hy54 => (intro w hSw; (try dsimp only at hSw); have ecpb2 := hSw.cell cpb2 id; go_simp <;> with_reducible rfl)
    try simp only [Act.put, List.setIfInBounds_toArray, List.set_cons_zero, List.set_cons_succ]
    refine wpAnyH_take (i := 5) (oi := { dst := some 45, op := Go.Op.move (Go.Operand.tmp 2), type := 26, pos := "ref.go:50", after := #[{ on := 3, ground := Go.Ground.guard }], guard := some (3, true) }) (v := ?v55) rfl (by kernel_rfl) (by kernel_rfl) (by kernel_rfl) (fun _ _ _ h => h) (Or.inl ⟨by rfl, ?hy55⟩) (by assumption) ?rest55
    case hy55 => (intro w hSw; (try dsimp only at hSw); have ecpb2 := hSw.cell cpb2 id; go_simp <;> with_reducible rfl)
    try simp only [Act.put, List.setIfInBounds_toArray, List.set_cons_zero, List.set_cons_succ]
    refine wpAnyH_take (i := 6) (oi := { dst := some 46, op := Go.Op.move (Go.Operand.tmp 8), type := 3, pos := "ref.go:50", after := #[{ on := 3, ground := Go.Ground.guard }], guard := some (3, true) }) (v := ?v56) rfl (by kernel_rfl) (by kernel_rfl) (by kernel_rfl) (fun _ _ _ h => h) (Or.inl ⟨by rfl, ?hy56⟩) (by assumption) ?rest56
    case hy56 => (intro w hSw; (try dsimp only at hSw); have ecpb2 := hSw.cell cpb2 id; go_simp <;> with_reducible rfl)
    try simp only [Act.put, List.setIfInBounds_toArray, List.set_cons_zero, List.set_cons_succ]
    refine wpAnyH_take (i := 8) (oi := { dst := some 48, op := Go.Op.move (Go.Operand.tmp 0), type := 9, pos := "ref.go:50", after := #[{ on := 3, ground := Go.Ground.guard }], guard := some (3, true) }) (v := ?v57) rfl (by kernel_rfl) (by kernel_rfl) (by kernel_rfl) (fun _ _ _ h => h) (Or.inl ⟨by rfl, ?hy57⟩) (by assumption) ?rest57
    case hy57 => (intro w hSw; (try dsimp only at hSw); have ecpb2 := hSw.cell cpb2 id; go_simp <;> with_reducible rfl)
    try simp only [Act.put, List.setIfInBounds_toArray, List.set_cons_zero, List.set_cons_succ]
    refine wpAnyH_take (i := 9) (oi := { dst := some 49, op := Go.Op.move (Go.Operand.tmp 8), type := 3, pos := "ref.go:50", after := #[{ on := 3, ground := Go.Ground.guard }], guard := some (3, true) }) (v := ?v58) rfl (by kernel_rfl) (by kernel_rfl) (by kernel_rfl) (fun _ _ _ h => h) (Or.inl ⟨by rfl, ?hy58⟩) (by assumption) ?rest58
    case hy58 => (intro w hSw; (try dsimp only at hSw); have ecpb2 := hSw.cell cpb2 id; go_simp <;> with_reducible rfl)
    try simp only [Act.put, List.setIfInBounds_toArray, List.set_cons_zero, List.set_cons_succ]
    refine wpAnyH_take (i := 10) (oi := { dst := some 50, op := Go.Op.slice 9 (Go.Operand.tmp 48) none (some (Go.Operand.tmp 49)) none, type := 9, pos := "ref.go:50", after := #[{ on := 8, ground := Go.Ground.data }, { on := 9, ground := Go.Ground.data }, { on := 3, ground := Go.Ground.guard }], guard := some (3, true) }) (v := ?v59) rfl (by kernel_rfl) (by kernel_rfl) (by kernel_rfl) (fun _ _ _ h => h) (Or.inl ⟨by rfl, ?hy59⟩) (by assumption) ?rest59
    case hy59 => (intro w hSw; (try dsimp only at hSw); have ecpb2 := hSw.cell cpb2 id; go_simp <;> with_reducible rfl)
    try simp only [Act.put, List.setIfInBounds_toArray, List.set_cons_zero, List.set_cons_succ]
    refine wpAnyH_ready (rs := [7]) (by kernel_rfl) (by simp) ?_
    refine AllReadyH.cons (o := { dst := some 47, op := Go.Op.call { callee := Go.Callee.value (Go.Operand.func 46), args := #[Go.Operand.tmp 44, Go.Operand.tmp 45, Go.Operand.const (Go.Value.int Go.IntKind.u8 17), Go.Operand.tmp 46], argTypes := #[26, 26, 5, 3] }, type := 9, pos := "ref.go:50", after := #[{ on := 4, ground := Go.Ground.data }, { on := 5, ground := Go.Ground.data }, { on := 6, ground := Go.Ground.data }, { on := 3, ground := Go.Ground.chain }, { on := 3, ground := Go.Ground.guard }], guard := some (3, true) }) rfl (fun K hK => ?_) AllReadyH.nil
    go_simp
    refine (refpseudo_any s t 17 (sz : Int) HS.out HT.out (by omega) (by have := HSZL.out; omega) _).mono ?_
    rintro e wg ⟨rfl, hx⟩
    rw [HPT.out]
    have hS1 := hS0.trans hx
    clear hx
    refine hK.out _ _ hS1 (fun _ => ?_)
    refine wpAnyH_take (i := 11) (oi := { dst := some 51, op := Go.Op.binOp Go.BinOp.add 9 (Go.Operand.tmp 47) (Go.Operand.tmp 50) 9, type := 9, pos := "ref.go:50", after := #[{ on := 7, ground := Go.Ground.data }, { on := 10, ground := Go.Ground.data }, { on := 3, ground := Go.Ground.guard }], guard := some (3, true) }) (v := ?v60) rfl (by kernel_rfl) (by kernel_rfl) (by kernel_rfl) (fun _ _ _ h => h) (Or.inl ⟨by rfl, ?hy60⟩) (by assumption) ?rest60
    case hy60 => (intro w hSw; (try dsimp only at hSw); have ecpb2 := hSw.cell cpb2 id; go_simp <;> with_reducible rfl)
    try simp only [Act.put, List.setIfInBounds_toArray, List.set_cons_zero, List.set_cons_succ]
    refine wpAnyH_ready (rs := [12]) (by kernel_rfl) (by simp) ?_
    refine AllReadyH.cons (o := { dst := some 52, op := Go.Op.call { callee := Go.Callee.value (Go.Operand.func 45), args := #[Go.Operand.tmp 51], argTypes := #[9] }, type := 23, pos := "ref.go:50", after := #[{ on := 11, ground := Go.Ground.data }, { on := 7, ground := Go.Ground.chain }, { on := 3, ground := Go.Ground.guard }], guard := some (3, true) }) rfl (fun K hK => ?_) AllReadyH.nil
    go_simp
    refine (refsum_any (PS ++ TT) HSL.out _).mono ?_
    rintro e wh ⟨rfl, hx⟩
    rw [HSU.out]
    have hS2 := hS1.trans hx
    clear hx
    refine hK.out _ _ hS2 (fun _ => ?_)
    refine wpAnyH_take (i := 13) (oi := { dst := some 53, op := Go.Op.binOp Go.BinOp.neq 23 (Go.Operand.tmp 52) (Go.Operand.const (Go.Value.int Go.IntKind.u16 0)) 23, type := 4, pos := "ref.go:50", after := #[{ on := 12, ground := Go.Ground.data }, { on := 3, ground := Go.Ground.guard }], guard := some (3, true) }) (v := ?v61) rfl (by kernel_rfl) (by kernel_rfl) (by kernel_rfl) (fun _ _ _ h => h) (Or.inl ⟨by rfl, ?hy61⟩) (by assumption) ?rest61
    case hy61 => (intro w hSw; (try dsimp only at hSw); have ecpb2 := hSw.cell cpb2 id; go_simp <;> with_reducible rfl)
    try simp only [Act.put, List.setIfInBounds_toArray, List.set_cons_zero, List.set_cons_succ]
    refine wpAnyH_take (i := 14) (oi := { dst := some 54, op := Go.Op.pick (Go.Operand.tmp 43) (Go.Operand.tmp 53) (Go.Operand.const (Go.Value.bool false)), type := 4, pos := "ref.go:50", after := #[{ on := 3, ground := Go.Ground.data }, { on := 13, ground := Go.Ground.data }], guard := none }) (v := ?v62) rfl (by kernel_rfl) (by kernel_rfl) (by kernel_rfl) (fun _ _ _ h => h) (Or.inl ⟨by rfl, ?hy62⟩) (by assumption) ?rest62
    case hy62 => (intro w hSw; (try dsimp only at hSw); have ecpb2 := hSw.cell cpb2 id; go_simp <;> with_reducible rfl)
    try simp only [Act.put, List.setIfInBounds_toArray, List.set_cons_zero, List.set_cons_succ]
    refine wpAnyH_done (by kernel_rfl) ?_ _
    have hx := hS2
    clear hS0 hS1 hS2 q2 q4 q5 a1 y1 y2 el cpb2
    have HX_wh := Lib.hid hx
    clear hx
    replace B_rb := Lib.hid (((HX_wc.out.trans HX_wh.out).block rb (row_lt B_rb.out) id).trans B_rb.out)
    have crb0 := row_cell (k := 0) (v := .int .u32 0) B_rb.out rfl
    have crb1 := row_cell (k := 1) (v := .int .u32 0) B_rb.out rfl
    have crb2 := row_cell (k := 2) (v := .bool false) B_rb.out rfl
    have crb3 := row_cell (k := 3) (v := .string ⟨#[]⟩) B_rb.out rfl
    have frb0 := row_frozen B_rb.out 0
    have frb1 := row_frozen B_rb.out 1
    have frb2 := row_frozen B_rb.out 2
    have frb3 := row_frozen B_rb.out 3
    go_wp2_with fail
    (try simp only [Exit.inBlock, Exit.then])
    have r0 : (wh.setCell ⟨rb, 0, none⟩ (.int .u32 0)).heap[rb]? = some (.cells #[.int .u32 0, .int .u32 0, .bool false, .string ⟨#[]⟩] 34) := row_set B_rb.out 0 (.int .u32 0)
    have r1 : ((wh.setCell ⟨rb, 0, none⟩ (.int .u32 0)).setCell ⟨rb, 1, none⟩ (.int .u32 0)).heap[rb]? = some (.cells #[.int .u32 0, .int .u32 0, .bool false, .string ⟨#[]⟩] 34) := row_set r0 1 (.int .u32 0)
    clear r0
    have r2 : (((wh.setCell ⟨rb, 0, none⟩ (.int .u32 0)).setCell ⟨rb, 1, none⟩ (.int .u32 0)).setCell ⟨rb, 2, none⟩ (.bool false)).heap[rb]? = some (.cells #[.int .u32 0, .int .u32 0, .bool false, .string ⟨#[]⟩] 34) := row_set r1 2 (.bool false)
    clear r1
    have r3 : ((((wh.setCell ⟨rb, 0, none⟩ (.int .u32 0)).setCell ⟨rb, 1, none⟩ (.int .u32 0)).setCell ⟨rb, 2, none⟩ (.bool false)).setCell ⟨rb, 3, none⟩ (.string ⟨#[]⟩)).heap[rb]? = some (.cells #[.int .u32 0, .int .u32 0, .bool false, .string ⟨#[]⟩] 34) := row_set r2 3 (.string ⟨#[]⟩)
    clear r2
    have hx : Ex (fun j => j = rb) wh ((((wh.setCell ⟨rb, 0, none⟩ (.int .u32 0)).setCell ⟨rb, 1, none⟩ (.int .u32 0)).setCell ⟨rb, 2, none⟩ (.bool false)).setCell ⟨rb, 3, none⟩ (.string ⟨#[]⟩)) := (((((Ex.refl (fun j => j = rb) wh).setCell (p := ⟨rb, 0, none⟩) (.inl rfl) (.int .u32 0)).setCell (p := ⟨rb, 1, none⟩) (.inl rfl) (.int .u32 0)).setCell (p := ⟨rb, 2, none⟩) (.inl rfl) (.bool false)).setCell (p := ⟨rb, 3, none⟩) (.inl rfl) (.string ⟨#[]⟩))
    clear crb0 crb1 crb2 crb3 frb0 frb1 frb2 frb3
    generalize ((((wh.setCell ⟨rb, 0, none⟩ (.int .u32 0)).setCell ⟨rb, 1, none⟩ (.int .u32 0)).setCell ⟨rb, 2, none⟩ (.bool false)).setCell ⟨rb, 3, none⟩ (.string ⟨#[]⟩)) = wz at r3 hx ⊢
    replace B_rb := Lib.hid r3
    clear r3
    have HX_wz := Lib.hid hx
    clear hx
    refine bodyPost_ret (v := .tuple #[.agg #[.int .u32 0, .int .u32 0, .bool false, .string ⟨#[]⟩], .string ⟨#[117, 100, 112, 58, 32, 101, 114, 114, 111, 114, 32, 52]⟩]) ?_ rfl ⟨rfl, (((HX_w1.out.trans HX_wc.out).trans HX_wh.out).andThen HX_wz.out (fun i hi e => by have := hb_rb; omega))⟩
    exact results_cell_row2 (p := 6) (u := 7) rfl _ _ rb 34 #[.int .u32 0, .int .u32 0, .bool false, .string ⟨#[]⟩] (0, 0) _ _ rfl rfl B_rb.out Tryd.underlying34 rfl rd_size
set_option maxRecDepth 100000 in
set_option maxHeartbeats 4000000 in
theorem rp6_yes (l : List UInt8) (s t : Int) (w : World) (hl : l.length ≤ 1000000) (h8 : 8 ≤ l.length) (hz8 : 8 ≤ dsz l) (hzl : dsz l ≤ l.length) (hps : dsm l ≠ 0) (hs6 : 0 ≤ s ∧ s < 4294967296) (ht6 : 0 ≤ t ∧ t < 4294967296) (hsum : su (psd s t 17 (dsz l : Int) ++ l.take (dsz l)) = 0) :
    Calls Tryd.prog 17 #[.string (bs l), .int .u32 s, .int .u32 t] w fun e w' => e = .returned (.tuple #[rdv (pd l), .string ⟨#[]⟩]) ∧ Ex (fun _ => False) w w' := by
  have hz := bs_size l
  have HL := Lib.hid hl
  clear hl
  obtain ⟨s02, s24, s46, s68⟩ := sub8_get h8
  obtain ⟨sz, hsz⟩ : ∃ k, nb [l.getD 4 0, l.getD 5 0] = k := ⟨_, rfl⟩
  have hszd : dsz l = sz := hsz
  rw [hszd] at hz8 hzl hsum
  have hszl : sz ≤ 65535 := by rw [← hsz]; have := nb2_le (l.getD 4 0) (l.getD 5 0); omega
  have HSZ := Lib.hid hsz
  have HSZD := Lib.hid hszd
  have HSZL := Lib.hid hszl
  have hwz : wrap64 (sz : Int) = (sz : Int) := by unfold wrap64; omega
  clear hsz hszd hszl
  have hd1 : decide ((sz : Int) < 8) = false := by rw [decide_eq_false_iff_not]; omega
  have hd2 : decide (l.length < sz) = false := by rw [decide_eq_false_iff_not]; omega
  have q1 : (bs l).extract 8 sz = bs ((l.take sz).drop 8) := dbs_sub l 8 sz hzl
  have q2 : (bs l).extract 0 sz = bs (l.take sz) := by rw [dbs_sub l 0 sz hzl, List.drop_zero]
  have q3 : (8 : Int) ≤ (sz : Int) := by omega
  have i2 : (2 : Int) ≤ (l.length : Int) := by omega
  have i4 : (4 : Int) ≤ (l.length : Int) := by omega
  have i6 : (6 : Int) ≤ (l.length : Int) := by omega
  have i8 : (8 : Int) ≤ (l.length : Int) := by omega
  have q4 : sz ≤ l.length := hzl
  have q5 : (sz : Int) ≤ (l.length : Int) := by omega
  obtain ⟨n0, hn0⟩ : ∃ k, nb [l.getD 0 0, l.getD 1 0] = k := ⟨_, rfl⟩
  obtain ⟨n1, hn1⟩ : ∃ k, nb [l.getD 2 0, l.getD 3 0] = k := ⟨_, rfl⟩
  obtain ⟨sm, hsm⟩ : ∃ k, nb [l.getD 6 0, l.getD 7 0] = k := ⟨_, rfl⟩
  have hpl : dsm l = sm := hsm
  rw [hpl] at hps
  obtain ⟨bb, hbb⟩ : ∃ b, (l.take sz).drop 8 = b := ⟨_, rfl⟩
  rw [hbb] at q1
  obtain ⟨pl, hplv⟩ : ∃ b : Bool, b = false := ⟨_, rfl⟩
  have hd3 : ((sm : Int) == 0) = pl := by rw [hplv]; rw [beq_eq_false_iff_ne]; omega
  have hpd : pd l = ⟨(n0 : Int), (n1 : Int), pl, bb⟩ := by
    have e : pd l = ⟨(nb [l.getD 0 0, l.getD 1 0] : Int), (nb [l.getD 2 0, l.getD 3 0] : Int), decide (dsm l = 0), (l.take (dsz l)).drop 8⟩ := rfl
    rw [e, hn0, hn1, HSZD.out, hbb, hpl, hplv]
    congr 1
    rw [decide_eq_false_iff_not]; exact hps
  rw [hpd]
  have hrv : rdv ⟨(n0 : Int), (n1 : Int), pl, bb⟩ = .agg #[.int .u32 (n0 : Int), .int .u32 (n1 : Int), .bool pl, .string (bs bb)] := rfl
  rw [hrv]
  have HN0 := Lib.hid hn0
  have HN1 := Lib.hid hn1
  have HSM := Lib.hid hsm
  have HPLV := Lib.hid hplv
  have HZL := Lib.hid hzl
  obtain ⟨TT, hTT⟩ : ∃ T, T = l.take sz := ⟨_, rfl⟩
  rw [← hTT] at q2 hsum
  have hTl : TT.length = sz := by rw [hTT, List.length_take]; omega
  obtain ⟨PS, hPS⟩ : ∃ p, p = psd s t 17 (sz : Int) := ⟨_, rfl⟩
  rw [← hPS] at hsum
  have hpt := psd_txt6 s t 17 (sz : Int) (by omega)
  rw [← hPS] at hpt
  have hpsl : PS.length = 12 := by rw [hPS, psd_len]
  have y1 : (bs PS).size = 12 := by rw [bs_size, hpsl]
  have y2 : (bs TT).size = sz := by rw [bs_size, hTl]
  have a1 := bs_append PS TT
  have el : ¬ 9223372036854775807 < 12 + sz := by have := HSZL.out; omega
  have hsl : (PS ++ TT).length ≤ 4294967296 := by rw [List.length_append, hpsl, hTl]; have := HSZL.out; omega
  have hq : ((su (PS ++ TT) : Int) != 0) = false := by rw [hsum]; rfl
  obtain ⟨SU, hSU⟩ : ∃ k, su (PS ++ TT) = k := ⟨_, rfl⟩
  rw [hSU] at hq
  have HPT := Lib.hid hpt.symm
  have HSL := Lib.hid hsl
  have HSU := Lib.hid hSU
  have HS := Lib.hid hs6
  have HT := Lib.hid ht6
  clear hTT hTl hPS hpt hpsl hsl hSU hsum hs6 ht6
  clear hz8 hzl hn0 hn1 hsm hpl hps hbb hplv hpd hrv
  go_enter Tryd.func17, Tryd.ntmps17
  go_upto_region 1 with fail
  have hx : Ex (fun _ => False) w (w.alloc (.cells #[.int .u32 0, .int .u32 0, .bool false, .string ⟨#[]⟩] 34)) := (Ex.refl _ w).alloc _
  have hb : (w.alloc (.cells #[.int .u32 0, .int .u32 0, .bool false, .string ⟨#[]⟩] 34)).heap[w.heap.size]? = some (.cells #[.int .u32 0, .int .u32 0, .bool false, .string ⟨#[]⟩] 34) := heap_alloc_new w _
  obtain ⟨rb, hrb⟩ : ∃ rb, rb = w.heap.size := ⟨_, rfl⟩
  have hb_rb : w.heap.size ≤ rb := by omega
  rw [← hrb] at hb
  try simp only [← hrb]
  generalize w.alloc (.cells #[.int .u32 0, .int .u32 0, .bool false, .string ⟨#[]⟩] 34) = w1 at hx hb ⊢
  clear hrb
  have HX_w1 := Lib.hid hx
  clear hx
  have B_rb := Lib.hid hb
  clear hb
  go_wp2_with fail
  refine (rnum_any [l.getD 4 0, l.getD 5 0] (by simp) _).mono ?_
  rintro e _ ⟨rfl, rfl⟩
  rw [HSZ.out]
  go_upto_region 8 with fail
  try rw [hwz]
  go_cut [9] (fun x wx => ∃ pb : Nat, x = .pointer (some ⟨pb, 0, none⟩) ∧ Hid (wx.heap[pb]? = some (.cells #[.int .u32 (n0 : Int), .int .u32 (n1 : Int), .bool pl, .string (bs bb)] 34)) ∧ Hid (Ex (fun _ => False) w1 wx))
  case first =>
    have hS0 : Ex (fun _ => False) w1 w1.drew := (Ex.refl _ w1).drew
    refine wp_region_held_drew (S := fun W => Ex (fun _ => False) w1 W) (by kernel_rfl) hS0 (fun _ => ?_)
    generalize w1.drew = wd at hS0 ⊢
    have HX_wd := Lib.hid hS0
    have hS := hS0
    clear hS0
    refine wpAnyH_take (i := 0) (oi := { dst := some 26, op := Go.Op.move (Go.Operand.tmp 0), type := 9, pos := "ref.go:49", after := #[], guard := none }) (v := ?v63) rfl (by kernel_rfl) (by kernel_rfl) (by kernel_rfl) (fun _ _ _ h => h) (Or.inl ⟨by rfl, ?hy63⟩) (by assumption) ?rest63
    case hy63 => (intro w hSw; (try dsimp only at hSw); go_simp <;> with_reducible rfl)
    try simp only [Act.put, List.setIfInBounds_toArray, List.set_cons_zero, List.set_cons_succ]
    refine wpAnyH_take (i := 1) (oi := { dst := some 27, op := Go.Op.slice 9 (Go.Operand.tmp 26) none (some (Go.Operand.const (Go.Value.int Go.IntKind.i64 2))) none, type := 9, pos := "ref.go:49", after := #[{ on := 0, ground := Go.Ground.data }], guard := none }) (v := ?v64) rfl (by kernel_rfl) (by kernel_rfl) (by kernel_rfl) (fun _ _ _ h => h) (Or.inl ⟨by rfl, ?hy64⟩) (by assumption) ?rest64
    case hy64 => (intro w hSw; (try dsimp only at hSw); go_simp <;> with_reducible rfl)
    try simp only [Act.put, List.setIfInBounds_toArray, List.set_cons_zero, List.set_cons_succ]
    refine wpAnyH_take (i := 3) (oi := { dst := some 29, op := Go.Op.move (Go.Operand.tmp 0), type := 9, pos := "ref.go:49", after := #[], guard := none }) (v := ?v65) rfl (by kernel_rfl) (by kernel_rfl) (by kernel_rfl) (fun _ _ _ h => h) (Or.inl ⟨by rfl, ?hy65⟩) (by assumption) ?rest65
    case hy65 => (intro w hSw; (try dsimp only at hSw); go_simp <;> with_reducible rfl)
    try simp only [Act.put, List.setIfInBounds_toArray, List.set_cons_zero, List.set_cons_succ]
    refine wpAnyH_take (i := 4) (oi := { dst := some 30, op := Go.Op.slice 9 (Go.Operand.tmp 29) (some (Go.Operand.const (Go.Value.int Go.IntKind.i64 2))) (some (Go.Operand.const (Go.Value.int Go.IntKind.i64 4))) none, type := 9, pos := "ref.go:49", after := #[{ on := 3, ground := Go.Ground.data }], guard := none }) (v := ?v66) rfl (by kernel_rfl) (by kernel_rfl) (by kernel_rfl) (fun _ _ _ h => h) (Or.inl ⟨by rfl, ?hy66⟩) (by assumption) ?rest66
    case hy66 => (intro w hSw; (try dsimp only at hSw); go_simp <;> with_reducible rfl)
    try simp only [Act.put, List.setIfInBounds_toArray, List.set_cons_zero, List.set_cons_succ]
    refine wpAnyH_take (i := 6) (oi := { dst := some 32, op := Go.Op.move (Go.Operand.tmp 0), type := 9, pos := "ref.go:49", after := #[], guard := none }) (v := ?v67) rfl (by kernel_rfl) (by kernel_rfl) (by kernel_rfl) (fun _ _ _ h => h) (Or.inl ⟨by rfl, ?hy67⟩) (by assumption) ?rest67
    case hy67 => (intro w hSw; (try dsimp only at hSw); go_simp <;> with_reducible rfl)
    try simp only [Act.put, List.setIfInBounds_toArray, List.set_cons_zero, List.set_cons_succ]
    refine wpAnyH_take (i := 7) (oi := { dst := some 33, op := Go.Op.slice 9 (Go.Operand.tmp 32) (some (Go.Operand.const (Go.Value.int Go.IntKind.i64 6))) (some (Go.Operand.const (Go.Value.int Go.IntKind.i64 8))) none, type := 9, pos := "ref.go:49", after := #[{ on := 6, ground := Go.Ground.data }], guard := none }) (v := ?v68) rfl (by kernel_rfl) (by kernel_rfl) (by kernel_rfl) (fun _ _ _ h => h) (Or.inl ⟨by rfl, ?hy68⟩) (by assumption) ?rest68
    case hy68 => (intro w hSw; (try dsimp only at hSw); go_simp <;> with_reducible rfl)
    try simp only [Act.put, List.setIfInBounds_toArray, List.set_cons_zero, List.set_cons_succ]
    refine wpAnyH_take (i := 10) (oi := { dst := some 36, op := Go.Op.move (Go.Operand.tmp 0), type := 9, pos := "ref.go:49", after := #[], guard := none }) (v := ?v69) rfl (by kernel_rfl) (by kernel_rfl) (by kernel_rfl) (fun _ _ _ h => h) (Or.inl ⟨by rfl, ?hy69⟩) (by assumption) ?rest69
    case hy69 => (intro w hSw; (try dsimp only at hSw); go_simp <;> with_reducible rfl)
    try simp only [Act.put, List.setIfInBounds_toArray, List.set_cons_zero, List.set_cons_succ]
    refine wpAnyH_take (i := 11) (oi := { dst := some 37, op := Go.Op.move (Go.Operand.tmp 8), type := 3, pos := "ref.go:49", after := #[], guard := none }) (v := ?v70) rfl (by kernel_rfl) (by kernel_rfl) (by kernel_rfl) (fun _ _ _ h => h) (Or.inl ⟨by rfl, ?hy70⟩) (by assumption) ?rest70
    case hy70 => (intro w hSw; (try dsimp only at hSw); go_simp <;> with_reducible rfl)
    try simp only [Act.put, List.setIfInBounds_toArray, List.set_cons_zero, List.set_cons_succ]
    refine wpAnyH_take (i := 12) (oi := { dst := some 38, op := Go.Op.slice 9 (Go.Operand.tmp 36) (some (Go.Operand.const (Go.Value.int Go.IntKind.i64 8))) (some (Go.Operand.tmp 37)) none, type := 9, pos := "ref.go:49", after := #[{ on := 10, ground := Go.Ground.data }, { on := 11, ground := Go.Ground.data }], guard := none }) (v := ?v71) rfl (by kernel_rfl) (by kernel_rfl) (by kernel_rfl) (fun _ _ _ h => h) (Or.inl ⟨by rfl, ?hy71⟩) (by assumption) ?rest71
    case hy71 => (intro w hSw; (try dsimp only at hSw); go_simp <;> with_reducible rfl)
    try simp only [Act.put, List.setIfInBounds_toArray, List.set_cons_zero, List.set_cons_succ]
    refine wpAnyH_ready (rs := [2, 14]) (by kernel_rfl) (by simp) ?_
    refine AllReadyH.cons (o := { dst := some 28, op := Go.Op.call { callee := Go.Callee.value (Go.Operand.func 44), args := #[Go.Operand.tmp 27], argTypes := #[9] }, type := 26, pos := "ref.go:49", after := #[{ on := 1, ground := Go.Ground.data }], guard := none }) rfl (fun K hK => ?_) ?_
    ·
      go_simp
      refine (rnum_any [l.getD 0 0, l.getD 1 0] (by simp) _).mono ?_
      rintro e v ⟨rfl, rfl⟩
      rw [HN0.out]
      refine hK.out _ _ hS (fun _ => ?_)
      refine wpAnyH_ready (rs := [5, 14]) (by kernel_rfl) (by simp) ?_
      refine AllReadyH.cons (o := { dst := some 31, op := Go.Op.call { callee := Go.Callee.value (Go.Operand.func 44), args := #[Go.Operand.tmp 30], argTypes := #[9] }, type := 26, pos := "ref.go:49", after := #[{ on := 4, ground := Go.Ground.data }, { on := 2, ground := Go.Ground.chain }], guard := none }) rfl (fun K hK => ?_) ?_
      ·
        go_simp
        refine (rnum_any [l.getD 2 0, l.getD 3 0] (by simp) _).mono ?_
        rintro e v ⟨rfl, rfl⟩
        rw [HN1.out]
        refine hK.out _ _ hS (fun _ => ?_)
        refine wpAnyH_ready (rs := [8, 14]) (by kernel_rfl) (by simp) ?_
        refine AllReadyH.cons (o := { dst := some 34, op := Go.Op.call { callee := Go.Callee.value (Go.Operand.func 44), args := #[Go.Operand.tmp 33], argTypes := #[9] }, type := 26, pos := "ref.go:49", after := #[{ on := 7, ground := Go.Ground.data }, { on := 5, ground := Go.Ground.chain }], guard := none }) rfl (fun K hK => ?_) ?_
        ·
          go_simp
          refine (rnum_any [l.getD 6 0, l.getD 7 0] (by simp) _).mono ?_
          rintro e v ⟨rfl, rfl⟩
          rw [HSM.out]
          refine hK.out _ _ hS (fun _ => ?_)
          refine wpAnyH_take (i := 9) (oi := { dst := some 35, op := Go.Op.binOp Go.BinOp.eql 26 (Go.Operand.tmp 34) (Go.Operand.const (Go.Value.int Go.IntKind.u32 0)) 26, type := 4, pos := "ref.go:49", after := #[{ on := 8, ground := Go.Ground.data }], guard := none }) (v := ?v72) rfl (by kernel_rfl) (by kernel_rfl) (by kernel_rfl) (fun _ _ _ h => h) (Or.inl ⟨by rfl, ?hy72⟩) (by assumption) ?rest72
          case hy72 => (intro w hSw; (try dsimp only at hSw); go_simp <;> with_reducible rfl)
          try simp only [Act.put, List.setIfInBounds_toArray, List.set_cons_zero, List.set_cons_succ]
          refine wpAnyH_take (i := 13) (oi := { dst := some 39, op := Go.Op.build 34 #[(0, Go.Operand.tmp 28), (1, Go.Operand.tmp 31), (2, Go.Operand.tmp 35), (3, Go.Operand.tmp 38)], type := 34, pos := "ref.go:49", after := #[{ on := 2, ground := Go.Ground.data }, { on := 5, ground := Go.Ground.data }, { on := 9, ground := Go.Ground.data }, { on := 12, ground := Go.Ground.data }], guard := none }) (v := ?v73) rfl (by kernel_rfl) (by kernel_rfl) (by kernel_rfl) (fun _ _ _ h => h) (Or.inl ⟨by rfl, ?hy73⟩) (by assumption) ?rest73
          case hy73 => (intro w hSw; (try dsimp only at hSw); go_simp <;> with_reducible rfl)
          try simp only [Act.put, List.setIfInBounds_toArray, List.set_cons_zero, List.set_cons_succ]
          refine wpAnyH_ready (rs := [14]) (by kernel_rfl) (by simp) ?_
          refine AllReadyH.cons (o := { dst := some 9, op := Go.Op.alloc 34, type := 0, pos := "ref.go:49", after := #[], guard := none }) rfl (fun K hK => ?_) AllReadyH.nil
          go_simp
          have hx : Ex (fun _ => False) wd (wd.alloc (.cells #[.int .u32 0, .int .u32 0, .bool false, .string ⟨#[]⟩] 34)) := (Ex.refl _ wd).alloc _
          have hb : (wd.alloc (.cells #[.int .u32 0, .int .u32 0, .bool false, .string ⟨#[]⟩] 34)).heap[wd.heap.size]? = some (.cells #[.int .u32 0, .int .u32 0, .bool false, .string ⟨#[]⟩] 34) := heap_alloc_new wd _
          obtain ⟨pb, hpb⟩ : ∃ pb, pb = wd.heap.size := ⟨_, rfl⟩
          have hb_pb : wd.heap.size ≤ pb := by omega
          rw [← hpb] at hb
          try simp only [← hpb]
          generalize wd.alloc (.cells #[.int .u32 0, .int .u32 0, .bool false, .string ⟨#[]⟩] 34) = we at hx hb ⊢
          clear hpb
          have HX_we := Lib.hid hx
          clear hx
          have B_pb := Lib.hid hb
          clear hb
          have hS : Ex (fun _ => False) w1 we := (HX_wd.out.trans HX_we.out)
          refine hK.out _ _ hS (fun _ => ?_)
          refine wpAnyH_ready (rs := [15]) (by kernel_rfl) (by simp) ?_
          refine AllReadyH.cons (o := { dst := none, op := Go.Op.store 34 (Go.Operand.tmp 9) (Go.Operand.tmp 39), type := 0, pos := "ref.go:49", after := #[{ on := 14, ground := Go.Ground.data }, { on := 13, ground := Go.Ground.data }, { on := 8, ground := Go.Ground.chain }, { on := 0, ground := Go.Ground.phase }, { on := 1, ground := Go.Ground.phase }, { on := 2, ground := Go.Ground.phase }, { on := 3, ground := Go.Ground.phase }, { on := 4, ground := Go.Ground.phase }, { on := 5, ground := Go.Ground.phase }, { on := 6, ground := Go.Ground.phase }, { on := 7, ground := Go.Ground.phase }, { on := 8, ground := Go.Ground.phase }, { on := 9, ground := Go.Ground.phase }, { on := 10, ground := Go.Ground.phase }, { on := 11, ground := Go.Ground.phase }, { on := 12, ground := Go.Ground.phase }, { on := 13, ground := Go.Ground.phase }, { on := 14, ground := Go.Ground.phase }], guard := none }) rfl (fun K hK => ?_) AllReadyH.nil
          have cpb0 := row_cell (k := 0) (v := .int .u32 0) B_pb.out rfl
          have cpb1 := row_cell (k := 1) (v := .int .u32 0) B_pb.out rfl
          have cpb2 := row_cell (k := 2) (v := .bool false) B_pb.out rfl
          have cpb3 := row_cell (k := 3) (v := .string ⟨#[]⟩) B_pb.out rfl
          have fpb0 := row_frozen B_pb.out 0
          have fpb1 := row_frozen B_pb.out 1
          have fpb2 := row_frozen B_pb.out 2
          have fpb3 := row_frozen B_pb.out 3
          go_simp
          have r0 : (we.setCell ⟨pb, 0, none⟩ (.int .u32 (n0 : Int))).heap[pb]? = some (.cells #[.int .u32 (n0 : Int), .int .u32 0, .bool false, .string ⟨#[]⟩] 34) := row_set B_pb.out 0 (.int .u32 (n0 : Int))
          have r1 : ((we.setCell ⟨pb, 0, none⟩ (.int .u32 (n0 : Int))).setCell ⟨pb, 1, none⟩ (.int .u32 (n1 : Int))).heap[pb]? = some (.cells #[.int .u32 (n0 : Int), .int .u32 (n1 : Int), .bool false, .string ⟨#[]⟩] 34) := row_set r0 1 (.int .u32 (n1 : Int))
          clear r0
          have r2 : (((we.setCell ⟨pb, 0, none⟩ (.int .u32 (n0 : Int))).setCell ⟨pb, 1, none⟩ (.int .u32 (n1 : Int))).setCell ⟨pb, 2, none⟩ (.bool pl)).heap[pb]? = some (.cells #[.int .u32 (n0 : Int), .int .u32 (n1 : Int), .bool pl, .string ⟨#[]⟩] 34) := row_set r1 2 (.bool pl)
          clear r1
          have r3 : ((((we.setCell ⟨pb, 0, none⟩ (.int .u32 (n0 : Int))).setCell ⟨pb, 1, none⟩ (.int .u32 (n1 : Int))).setCell ⟨pb, 2, none⟩ (.bool pl)).setCell ⟨pb, 3, none⟩ (.string (bs bb))).heap[pb]? = some (.cells #[.int .u32 (n0 : Int), .int .u32 (n1 : Int), .bool pl, .string (bs bb)] 34) := row_set r2 3 (.string (bs bb))
          clear r2
          have hx : Ex (fun j => j = pb) we ((((we.setCell ⟨pb, 0, none⟩ (.int .u32 (n0 : Int))).setCell ⟨pb, 1, none⟩ (.int .u32 (n1 : Int))).setCell ⟨pb, 2, none⟩ (.bool pl)).setCell ⟨pb, 3, none⟩ (.string (bs bb))) := (((((Ex.refl (fun j => j = pb) we).setCell (p := ⟨pb, 0, none⟩) (.inl rfl) (.int .u32 (n0 : Int))).setCell (p := ⟨pb, 1, none⟩) (.inl rfl) (.int .u32 (n1 : Int))).setCell (p := ⟨pb, 2, none⟩) (.inl rfl) (.bool pl)).setCell (p := ⟨pb, 3, none⟩) (.inl rfl) (.string (bs bb)))
          clear cpb0 cpb1 cpb2 cpb3 fpb0 fpb1 fpb2 fpb3
          generalize ((((we.setCell ⟨pb, 0, none⟩ (.int .u32 (n0 : Int))).setCell ⟨pb, 1, none⟩ (.int .u32 (n1 : Int))).setCell ⟨pb, 2, none⟩ (.bool pl)).setCell ⟨pb, 3, none⟩ (.string (bs bb))) = wf at r3 hx ⊢
          replace B_pb := Lib.hid r3
          clear r3
          have HX_wf := Lib.hid hx
          clear hx
          have hS : Ex (fun _ => False) w1 wf := ((HX_wd.out.trans HX_we.out).andThen HX_wf.out (fun i hi e => by have := HX_wd.out.size; have := hb_pb; omega))
          refine hK.out _ _ hS (fun _ => ?_)
          refine wpAnyH_done (by kernel_rfl) ?_ _
          go_wp2_with fail
          go_meet
          exact ⟨pb, rfl, Lib.hid B_pb.out, Lib.hid ((HX_wd.out.trans HX_we.out).andThen HX_wf.out (fun i hi e => by have := HX_wd.out.size; have := hb_pb; omega))⟩
        refine AllReadyH.cons (o := { dst := some 9, op := Go.Op.alloc 34, type := 0, pos := "ref.go:49", after := #[], guard := none }) rfl (fun K hK => ?_) AllReadyH.nil
        go_simp
        have hx : Ex (fun _ => False) wd (wd.alloc (.cells #[.int .u32 0, .int .u32 0, .bool false, .string ⟨#[]⟩] 34)) := (Ex.refl _ wd).alloc _
        have hb : (wd.alloc (.cells #[.int .u32 0, .int .u32 0, .bool false, .string ⟨#[]⟩] 34)).heap[wd.heap.size]? = some (.cells #[.int .u32 0, .int .u32 0, .bool false, .string ⟨#[]⟩] 34) := heap_alloc_new wd _
        obtain ⟨pb, hpb⟩ : ∃ pb, pb = wd.heap.size := ⟨_, rfl⟩
        have hb_pb : wd.heap.size ≤ pb := by omega
        rw [← hpb] at hb
        try simp only [← hpb]
        generalize wd.alloc (.cells #[.int .u32 0, .int .u32 0, .bool false, .string ⟨#[]⟩] 34) = we at hx hb ⊢
        clear hpb
        have HX_we := Lib.hid hx
        clear hx
        have B_pb := Lib.hid hb
        clear hb
        have hS : Ex (fun _ => False) w1 we := (HX_wd.out.trans HX_we.out)
        refine hK.out _ _ hS (fun _ => ?_)
        refine wpAnyH_ready (rs := [8]) (by kernel_rfl) (by simp) ?_
        refine AllReadyH.cons (o := { dst := some 34, op := Go.Op.call { callee := Go.Callee.value (Go.Operand.func 44), args := #[Go.Operand.tmp 33], argTypes := #[9] }, type := 26, pos := "ref.go:49", after := #[{ on := 7, ground := Go.Ground.data }, { on := 5, ground := Go.Ground.chain }], guard := none }) rfl (fun K hK => ?_) AllReadyH.nil
        go_simp
        refine (rnum_any [l.getD 6 0, l.getD 7 0] (by simp) _).mono ?_
        rintro e v ⟨rfl, rfl⟩
        rw [HSM.out]
        refine hK.out _ _ hS (fun _ => ?_)
        refine wpAnyH_take (i := 9) (oi := { dst := some 35, op := Go.Op.binOp Go.BinOp.eql 26 (Go.Operand.tmp 34) (Go.Operand.const (Go.Value.int Go.IntKind.u32 0)) 26, type := 4, pos := "ref.go:49", after := #[{ on := 8, ground := Go.Ground.data }], guard := none }) (v := ?v74) rfl (by kernel_rfl) (by kernel_rfl) (by kernel_rfl) (fun _ _ _ h => h) (Or.inl ⟨by rfl, ?hy74⟩) (by assumption) ?rest74
        case hy74 => (intro w hSw; (try dsimp only at hSw); go_simp <;> with_reducible rfl)
        try simp only [Act.put, List.setIfInBounds_toArray, List.set_cons_zero, List.set_cons_succ]
        refine wpAnyH_take (i := 13) (oi := { dst := some 39, op := Go.Op.build 34 #[(0, Go.Operand.tmp 28), (1, Go.Operand.tmp 31), (2, Go.Operand.tmp 35), (3, Go.Operand.tmp 38)], type := 34, pos := "ref.go:49", after := #[{ on := 2, ground := Go.Ground.data }, { on := 5, ground := Go.Ground.data }, { on := 9, ground := Go.Ground.data }, { on := 12, ground := Go.Ground.data }], guard := none }) (v := ?v75) rfl (by kernel_rfl) (by kernel_rfl) (by kernel_rfl) (fun _ _ _ h => h) (Or.inl ⟨by rfl, ?hy75⟩) (by assumption) ?rest75
        case hy75 => (intro w hSw; (try dsimp only at hSw); go_simp <;> with_reducible rfl)
        try simp only [Act.put, List.setIfInBounds_toArray, List.set_cons_zero, List.set_cons_succ]
        refine wpAnyH_ready (rs := [15]) (by kernel_rfl) (by simp) ?_
        refine AllReadyH.cons (o := { dst := none, op := Go.Op.store 34 (Go.Operand.tmp 9) (Go.Operand.tmp 39), type := 0, pos := "ref.go:49", after := #[{ on := 14, ground := Go.Ground.data }, { on := 13, ground := Go.Ground.data }, { on := 8, ground := Go.Ground.chain }, { on := 0, ground := Go.Ground.phase }, { on := 1, ground := Go.Ground.phase }, { on := 2, ground := Go.Ground.phase }, { on := 3, ground := Go.Ground.phase }, { on := 4, ground := Go.Ground.phase }, { on := 5, ground := Go.Ground.phase }, { on := 6, ground := Go.Ground.phase }, { on := 7, ground := Go.Ground.phase }, { on := 8, ground := Go.Ground.phase }, { on := 9, ground := Go.Ground.phase }, { on := 10, ground := Go.Ground.phase }, { on := 11, ground := Go.Ground.phase }, { on := 12, ground := Go.Ground.phase }, { on := 13, ground := Go.Ground.phase }, { on := 14, ground := Go.Ground.phase }], guard := none }) rfl (fun K hK => ?_) AllReadyH.nil
        have cpb0 := row_cell (k := 0) (v := .int .u32 0) B_pb.out rfl
        have cpb1 := row_cell (k := 1) (v := .int .u32 0) B_pb.out rfl
        have cpb2 := row_cell (k := 2) (v := .bool false) B_pb.out rfl
        have cpb3 := row_cell (k := 3) (v := .string ⟨#[]⟩) B_pb.out rfl
        have fpb0 := row_frozen B_pb.out 0
        have fpb1 := row_frozen B_pb.out 1
        have fpb2 := row_frozen B_pb.out 2
        have fpb3 := row_frozen B_pb.out 3
        go_simp
        have r0 : (we.setCell ⟨pb, 0, none⟩ (.int .u32 (n0 : Int))).heap[pb]? = some (.cells #[.int .u32 (n0 : Int), .int .u32 0, .bool false, .string ⟨#[]⟩] 34) := row_set B_pb.out 0 (.int .u32 (n0 : Int))
        have r1 : ((we.setCell ⟨pb, 0, none⟩ (.int .u32 (n0 : Int))).setCell ⟨pb, 1, none⟩ (.int .u32 (n1 : Int))).heap[pb]? = some (.cells #[.int .u32 (n0 : Int), .int .u32 (n1 : Int), .bool false, .string ⟨#[]⟩] 34) := row_set r0 1 (.int .u32 (n1 : Int))
        clear r0
        have r2 : (((we.setCell ⟨pb, 0, none⟩ (.int .u32 (n0 : Int))).setCell ⟨pb, 1, none⟩ (.int .u32 (n1 : Int))).setCell ⟨pb, 2, none⟩ (.bool pl)).heap[pb]? = some (.cells #[.int .u32 (n0 : Int), .int .u32 (n1 : Int), .bool pl, .string ⟨#[]⟩] 34) := row_set r1 2 (.bool pl)
        clear r1
        have r3 : ((((we.setCell ⟨pb, 0, none⟩ (.int .u32 (n0 : Int))).setCell ⟨pb, 1, none⟩ (.int .u32 (n1 : Int))).setCell ⟨pb, 2, none⟩ (.bool pl)).setCell ⟨pb, 3, none⟩ (.string (bs bb))).heap[pb]? = some (.cells #[.int .u32 (n0 : Int), .int .u32 (n1 : Int), .bool pl, .string (bs bb)] 34) := row_set r2 3 (.string (bs bb))
        clear r2
        have hx : Ex (fun j => j = pb) we ((((we.setCell ⟨pb, 0, none⟩ (.int .u32 (n0 : Int))).setCell ⟨pb, 1, none⟩ (.int .u32 (n1 : Int))).setCell ⟨pb, 2, none⟩ (.bool pl)).setCell ⟨pb, 3, none⟩ (.string (bs bb))) := (((((Ex.refl (fun j => j = pb) we).setCell (p := ⟨pb, 0, none⟩) (.inl rfl) (.int .u32 (n0 : Int))).setCell (p := ⟨pb, 1, none⟩) (.inl rfl) (.int .u32 (n1 : Int))).setCell (p := ⟨pb, 2, none⟩) (.inl rfl) (.bool pl)).setCell (p := ⟨pb, 3, none⟩) (.inl rfl) (.string (bs bb)))
        clear cpb0 cpb1 cpb2 cpb3 fpb0 fpb1 fpb2 fpb3
        generalize ((((we.setCell ⟨pb, 0, none⟩ (.int .u32 (n0 : Int))).setCell ⟨pb, 1, none⟩ (.int .u32 (n1 : Int))).setCell ⟨pb, 2, none⟩ (.bool pl)).setCell ⟨pb, 3, none⟩ (.string (bs bb))) = wf at r3 hx ⊢
        replace B_pb := Lib.hid r3
        clear r3
        have HX_wf := Lib.hid hx
        clear hx
        have hS : Ex (fun _ => False) w1 wf := ((HX_wd.out.trans HX_we.out).andThen HX_wf.out (fun i hi e => by have := HX_wd.out.size; have := hb_pb; omega))
        refine hK.out _ _ hS (fun _ => ?_)
        refine wpAnyH_done (by kernel_rfl) ?_ _
        go_wp2_with fail
        go_meet
        exact ⟨pb, rfl, Lib.hid B_pb.out, Lib.hid ((HX_wd.out.trans HX_we.out).andThen HX_wf.out (fun i hi e => by have := HX_wd.out.size; have := hb_pb; omega))⟩
      refine AllReadyH.cons (o := { dst := some 9, op := Go.Op.alloc 34, type := 0, pos := "ref.go:49", after := #[], guard := none }) rfl (fun K hK => ?_) AllReadyH.nil
      go_simp
      have hx : Ex (fun _ => False) wd (wd.alloc (.cells #[.int .u32 0, .int .u32 0, .bool false, .string ⟨#[]⟩] 34)) := (Ex.refl _ wd).alloc _
      have hb : (wd.alloc (.cells #[.int .u32 0, .int .u32 0, .bool false, .string ⟨#[]⟩] 34)).heap[wd.heap.size]? = some (.cells #[.int .u32 0, .int .u32 0, .bool false, .string ⟨#[]⟩] 34) := heap_alloc_new wd _
      obtain ⟨pb, hpb⟩ : ∃ pb, pb = wd.heap.size := ⟨_, rfl⟩
      have hb_pb : wd.heap.size ≤ pb := by omega
      rw [← hpb] at hb
      try simp only [← hpb]
      generalize wd.alloc (.cells #[.int .u32 0, .int .u32 0, .bool false, .string ⟨#[]⟩] 34) = we at hx hb ⊢
      clear hpb
      have HX_we := Lib.hid hx
      clear hx
      have B_pb := Lib.hid hb
      clear hb
      have hS : Ex (fun _ => False) w1 we := (HX_wd.out.trans HX_we.out)
      refine hK.out _ _ hS (fun _ => ?_)
      refine wpAnyH_ready (rs := [5]) (by kernel_rfl) (by simp) ?_
      refine AllReadyH.cons (o := { dst := some 31, op := Go.Op.call { callee := Go.Callee.value (Go.Operand.func 44), args := #[Go.Operand.tmp 30], argTypes := #[9] }, type := 26, pos := "ref.go:49", after := #[{ on := 4, ground := Go.Ground.data }, { on := 2, ground := Go.Ground.chain }], guard := none }) rfl (fun K hK => ?_) AllReadyH.nil
      go_simp
      refine (rnum_any [l.getD 2 0, l.getD 3 0] (by simp) _).mono ?_
      rintro e v ⟨rfl, rfl⟩
      rw [HN1.out]
      refine hK.out _ _ hS (fun _ => ?_)
      refine wpAnyH_ready (rs := [8]) (by kernel_rfl) (by simp) ?_
      refine AllReadyH.cons (o := { dst := some 34, op := Go.Op.call { callee := Go.Callee.value (Go.Operand.func 44), args := #[Go.Operand.tmp 33], argTypes := #[9] }, type := 26, pos := "ref.go:49", after := #[{ on := 7, ground := Go.Ground.data }, { on := 5, ground := Go.Ground.chain }], guard := none }) rfl (fun K hK => ?_) AllReadyH.nil
      go_simp
      refine (rnum_any [l.getD 6 0, l.getD 7 0] (by simp) _).mono ?_
      rintro e v ⟨rfl, rfl⟩
      rw [HSM.out]
      refine hK.out _ _ hS (fun _ => ?_)
      refine wpAnyH_take (i := 9) (oi := { dst := some 35, op := Go.Op.binOp Go.BinOp.eql 26 (Go.Operand.tmp 34) (Go.Operand.const (Go.Value.int Go.IntKind.u32 0)) 26, type := 4, pos := "ref.go:49", after := #[{ on := 8, ground := Go.Ground.data }], guard := none }) (v := ?v76) rfl (by kernel_rfl) (by kernel_rfl) (by kernel_rfl) (fun _ _ _ h => h) (Or.inl ⟨by rfl, ?hy76⟩) (by assumption) ?rest76
      case hy76 => (intro w hSw; (try dsimp only at hSw); go_simp <;> with_reducible rfl)
      try simp only [Act.put, List.setIfInBounds_toArray, List.set_cons_zero, List.set_cons_succ]
      refine wpAnyH_take (i := 13) (oi := { dst := some 39, op := Go.Op.build 34 #[(0, Go.Operand.tmp 28), (1, Go.Operand.tmp 31), (2, Go.Operand.tmp 35), (3, Go.Operand.tmp 38)], type := 34, pos := "ref.go:49", after := #[{ on := 2, ground := Go.Ground.data }, { on := 5, ground := Go.Ground.data }, { on := 9, ground := Go.Ground.data }, { on := 12, ground := Go.Ground.data }], guard := none }) (v := ?v77) rfl (by kernel_rfl) (by kernel_rfl) (by kernel_rfl) (fun _ _ _ h => h) (Or.inl ⟨by rfl, ?hy77⟩) (by assumption) ?rest77
      case hy77 => (intro w hSw; (try dsimp only at hSw); go_simp <;> with_reducible rfl)
      try simp only [Act.put, List.setIfInBounds_toArray, List.set_cons_zero, List.set_cons_succ]
      refine wpAnyH_ready (rs := [15]) (by kernel_rfl) (by simp) ?_
      refine AllReadyH.cons (o := { dst := none, op := Go.Op.store 34 (Go.Operand.tmp 9) (Go.Operand.tmp 39), type := 0, pos := "ref.go:49", after := #[{ on := 14, ground := Go.Ground.data }, { on := 13, ground := Go.Ground.data }, { on := 8, ground := Go.Ground.chain }, { on := 0, ground := Go.Ground.phase }, { on := 1, ground := Go.Ground.phase }, { on := 2, ground := Go.Ground.phase }, { on := 3, ground := Go.Ground.phase }, { on := 4, ground := Go.Ground.phase }, { on := 5, ground := Go.Ground.phase }, { on := 6, ground := Go.Ground.phase }, { on := 7, ground := Go.Ground.phase }, { on := 8, ground := Go.Ground.phase }, { on := 9, ground := Go.Ground.phase }, { on := 10, ground := Go.Ground.phase }, { on := 11, ground := Go.Ground.phase }, { on := 12, ground := Go.Ground.phase }, { on := 13, ground := Go.Ground.phase }, { on := 14, ground := Go.Ground.phase }], guard := none }) rfl (fun K hK => ?_) AllReadyH.nil
      have cpb0 := row_cell (k := 0) (v := .int .u32 0) B_pb.out rfl
      have cpb1 := row_cell (k := 1) (v := .int .u32 0) B_pb.out rfl
      have cpb2 := row_cell (k := 2) (v := .bool false) B_pb.out rfl
      have cpb3 := row_cell (k := 3) (v := .string ⟨#[]⟩) B_pb.out rfl
      have fpb0 := row_frozen B_pb.out 0
      have fpb1 := row_frozen B_pb.out 1
      have fpb2 := row_frozen B_pb.out 2
      have fpb3 := row_frozen B_pb.out 3
      go_simp
      have r0 : (we.setCell ⟨pb, 0, none⟩ (.int .u32 (n0 : Int))).heap[pb]? = some (.cells #[.int .u32 (n0 : Int), .int .u32 0, .bool false, .string ⟨#[]⟩] 34) := row_set B_pb.out 0 (.int .u32 (n0 : Int))
      have r1 : ((we.setCell ⟨pb, 0, none⟩ (.int .u32 (n0 : Int))).setCell ⟨pb, 1, none⟩ (.int .u32 (n1 : Int))).heap[pb]? = some (.cells #[.int .u32 (n0 : Int), .int .u32 (n1 : Int), .bool false, .string ⟨#[]⟩] 34) := row_set r0 1 (.int .u32 (n1 : Int))
      clear r0
      have r2 : (((we.setCell ⟨pb, 0, none⟩ (.int .u32 (n0 : Int))).setCell ⟨pb, 1, none⟩ (.int .u32 (n1 : Int))).setCell ⟨pb, 2, none⟩ (.bool pl)).heap[pb]? = some (.cells #[.int .u32 (n0 : Int), .int .u32 (n1 : Int), .bool pl, .string ⟨#[]⟩] 34) := row_set r1 2 (.bool pl)
      clear r1
      have r3 : ((((we.setCell ⟨pb, 0, none⟩ (.int .u32 (n0 : Int))).setCell ⟨pb, 1, none⟩ (.int .u32 (n1 : Int))).setCell ⟨pb, 2, none⟩ (.bool pl)).setCell ⟨pb, 3, none⟩ (.string (bs bb))).heap[pb]? = some (.cells #[.int .u32 (n0 : Int), .int .u32 (n1 : Int), .bool pl, .string (bs bb)] 34) := row_set r2 3 (.string (bs bb))
      clear r2
      have hx : Ex (fun j => j = pb) we ((((we.setCell ⟨pb, 0, none⟩ (.int .u32 (n0 : Int))).setCell ⟨pb, 1, none⟩ (.int .u32 (n1 : Int))).setCell ⟨pb, 2, none⟩ (.bool pl)).setCell ⟨pb, 3, none⟩ (.string (bs bb))) := (((((Ex.refl (fun j => j = pb) we).setCell (p := ⟨pb, 0, none⟩) (.inl rfl) (.int .u32 (n0 : Int))).setCell (p := ⟨pb, 1, none⟩) (.inl rfl) (.int .u32 (n1 : Int))).setCell (p := ⟨pb, 2, none⟩) (.inl rfl) (.bool pl)).setCell (p := ⟨pb, 3, none⟩) (.inl rfl) (.string (bs bb)))
      clear cpb0 cpb1 cpb2 cpb3 fpb0 fpb1 fpb2 fpb3
      generalize ((((we.setCell ⟨pb, 0, none⟩ (.int .u32 (n0 : Int))).setCell ⟨pb, 1, none⟩ (.int .u32 (n1 : Int))).setCell ⟨pb, 2, none⟩ (.bool pl)).setCell ⟨pb, 3, none⟩ (.string (bs bb))) = wf at r3 hx ⊢
      replace B_pb := Lib.hid r3
      clear r3
      have HX_wf := Lib.hid hx
      clear hx
      have hS : Ex (fun _ => False) w1 wf := ((HX_wd.out.trans HX_we.out).andThen HX_wf.out (fun i hi e => by have := HX_wd.out.size; have := hb_pb; omega))
      refine hK.out _ _ hS (fun _ => ?_)
      refine wpAnyH_done (by kernel_rfl) ?_ _
      go_wp2_with fail
      go_meet
      exact ⟨pb, rfl, Lib.hid B_pb.out, Lib.hid ((HX_wd.out.trans HX_we.out).andThen HX_wf.out (fun i hi e => by have := HX_wd.out.size; have := hb_pb; omega))⟩
    refine AllReadyH.cons (o := { dst := some 9, op := Go.Op.alloc 34, type := 0, pos := "ref.go:49", after := #[], guard := none }) rfl (fun K hK => ?_) AllReadyH.nil
    go_simp
    have hx : Ex (fun _ => False) wd (wd.alloc (.cells #[.int .u32 0, .int .u32 0, .bool false, .string ⟨#[]⟩] 34)) := (Ex.refl _ wd).alloc _
    have hb : (wd.alloc (.cells #[.int .u32 0, .int .u32 0, .bool false, .string ⟨#[]⟩] 34)).heap[wd.heap.size]? = some (.cells #[.int .u32 0, .int .u32 0, .bool false, .string ⟨#[]⟩] 34) := heap_alloc_new wd _
    obtain ⟨pb, hpb⟩ : ∃ pb, pb = wd.heap.size := ⟨_, rfl⟩
    have hb_pb : wd.heap.size ≤ pb := by omega
    rw [← hpb] at hb
    try simp only [← hpb]
    generalize wd.alloc (.cells #[.int .u32 0, .int .u32 0, .bool false, .string ⟨#[]⟩] 34) = we at hx hb ⊢
    clear hpb
    have HX_we := Lib.hid hx
    clear hx
    have B_pb := Lib.hid hb
    clear hb
    have hS : Ex (fun _ => False) w1 we := (HX_wd.out.trans HX_we.out)
    refine hK.out _ _ hS (fun _ => ?_)
    refine wpAnyH_ready (rs := [2]) (by kernel_rfl) (by simp) ?_
    refine AllReadyH.cons (o := { dst := some 28, op := Go.Op.call { callee := Go.Callee.value (Go.Operand.func 44), args := #[Go.Operand.tmp 27], argTypes := #[9] }, type := 26, pos := "ref.go:49", after := #[{ on := 1, ground := Go.Ground.data }], guard := none }) rfl (fun K hK => ?_) AllReadyH.nil
    go_simp
    refine (rnum_any [l.getD 0 0, l.getD 1 0] (by simp) _).mono ?_
    rintro e v ⟨rfl, rfl⟩
    rw [HN0.out]
    refine hK.out _ _ hS (fun _ => ?_)
    refine wpAnyH_ready (rs := [5]) (by kernel_rfl) (by simp) ?_
    refine AllReadyH.cons (o := { dst := some 31, op := Go.Op.call { callee := Go.Callee.value (Go.Operand.func 44), args := #[Go.Operand.tmp 30], argTypes := #[9] }, type := 26, pos := "ref.go:49", after := #[{ on := 4, ground := Go.Ground.data }, { on := 2, ground := Go.Ground.chain }], guard := none }) rfl (fun K hK => ?_) AllReadyH.nil
    go_simp
    refine (rnum_any [l.getD 2 0, l.getD 3 0] (by simp) _).mono ?_
    rintro e v ⟨rfl, rfl⟩
    rw [HN1.out]
    refine hK.out _ _ hS (fun _ => ?_)
    refine wpAnyH_ready (rs := [8]) (by kernel_rfl) (by simp) ?_
    refine AllReadyH.cons (o := { dst := some 34, op := Go.Op.call { callee := Go.Callee.value (Go.Operand.func 44), args := #[Go.Operand.tmp 33], argTypes := #[9] }, type := 26, pos := "ref.go:49", after := #[{ on := 7, ground := Go.Ground.data }, { on := 5, ground := Go.Ground.chain }], guard := none }) rfl (fun K hK => ?_) AllReadyH.nil
    go_simp
    refine (rnum_any [l.getD 6 0, l.getD 7 0] (by simp) _).mono ?_
    rintro e v ⟨rfl, rfl⟩
    rw [HSM.out]
    refine hK.out _ _ hS (fun _ => ?_)
    refine wpAnyH_take (i := 9) (oi := { dst := some 35, op := Go.Op.binOp Go.BinOp.eql 26 (Go.Operand.tmp 34) (Go.Operand.const (Go.Value.int Go.IntKind.u32 0)) 26, type := 4, pos := "ref.go:49", after := #[{ on := 8, ground := Go.Ground.data }], guard := none }) (v := ?v78) rfl (by kernel_rfl) (by kernel_rfl) (by kernel_rfl) (fun _ _ _ h => h) (Or.inl ⟨by rfl, ?hy78⟩) (by assumption) ?rest78
    case hy78 => (intro w hSw; (try dsimp only at hSw); go_simp <;> with_reducible rfl)
    try simp only [Act.put, List.setIfInBounds_toArray, List.set_cons_zero, List.set_cons_succ]
    refine wpAnyH_take (i := 13) (oi := { dst := some 39, op := Go.Op.build 34 #[(0, Go.Operand.tmp 28), (1, Go.Operand.tmp 31), (2, Go.Operand.tmp 35), (3, Go.Operand.tmp 38)], type := 34, pos := "ref.go:49", after := #[{ on := 2, ground := Go.Ground.data }, { on := 5, ground := Go.Ground.data }, { on := 9, ground := Go.Ground.data }, { on := 12, ground := Go.Ground.data }], guard := none }) (v := ?v79) rfl (by kernel_rfl) (by kernel_rfl) (by kernel_rfl) (fun _ _ _ h => h) (Or.inl ⟨by rfl, ?hy79⟩) (by assumption) ?rest79
    case hy79 => (intro w hSw; (try dsimp only at hSw); go_simp <;> with_reducible rfl)
    try simp only [Act.put, List.setIfInBounds_toArray, List.set_cons_zero, List.set_cons_succ]
    refine wpAnyH_ready (rs := [15]) (by kernel_rfl) (by simp) ?_
    refine AllReadyH.cons (o := { dst := none, op := Go.Op.store 34 (Go.Operand.tmp 9) (Go.Operand.tmp 39), type := 0, pos := "ref.go:49", after := #[{ on := 14, ground := Go.Ground.data }, { on := 13, ground := Go.Ground.data }, { on := 8, ground := Go.Ground.chain }, { on := 0, ground := Go.Ground.phase }, { on := 1, ground := Go.Ground.phase }, { on := 2, ground := Go.Ground.phase }, { on := 3, ground := Go.Ground.phase }, { on := 4, ground := Go.Ground.phase }, { on := 5, ground := Go.Ground.phase }, { on := 6, ground := Go.Ground.phase }, { on := 7, ground := Go.Ground.phase }, { on := 8, ground := Go.Ground.phase }, { on := 9, ground := Go.Ground.phase }, { on := 10, ground := Go.Ground.phase }, { on := 11, ground := Go.Ground.phase }, { on := 12, ground := Go.Ground.phase }, { on := 13, ground := Go.Ground.phase }, { on := 14, ground := Go.Ground.phase }], guard := none }) rfl (fun K hK => ?_) AllReadyH.nil
    have cpb0 := row_cell (k := 0) (v := .int .u32 0) B_pb.out rfl
    have cpb1 := row_cell (k := 1) (v := .int .u32 0) B_pb.out rfl
    have cpb2 := row_cell (k := 2) (v := .bool false) B_pb.out rfl
    have cpb3 := row_cell (k := 3) (v := .string ⟨#[]⟩) B_pb.out rfl
    have fpb0 := row_frozen B_pb.out 0
    have fpb1 := row_frozen B_pb.out 1
    have fpb2 := row_frozen B_pb.out 2
    have fpb3 := row_frozen B_pb.out 3
    go_simp
    have r0 : (we.setCell ⟨pb, 0, none⟩ (.int .u32 (n0 : Int))).heap[pb]? = some (.cells #[.int .u32 (n0 : Int), .int .u32 0, .bool false, .string ⟨#[]⟩] 34) := row_set B_pb.out 0 (.int .u32 (n0 : Int))
    have r1 : ((we.setCell ⟨pb, 0, none⟩ (.int .u32 (n0 : Int))).setCell ⟨pb, 1, none⟩ (.int .u32 (n1 : Int))).heap[pb]? = some (.cells #[.int .u32 (n0 : Int), .int .u32 (n1 : Int), .bool false, .string ⟨#[]⟩] 34) := row_set r0 1 (.int .u32 (n1 : Int))
    clear r0
    have r2 : (((we.setCell ⟨pb, 0, none⟩ (.int .u32 (n0 : Int))).setCell ⟨pb, 1, none⟩ (.int .u32 (n1 : Int))).setCell ⟨pb, 2, none⟩ (.bool pl)).heap[pb]? = some (.cells #[.int .u32 (n0 : Int), .int .u32 (n1 : Int), .bool pl, .string ⟨#[]⟩] 34) := row_set r1 2 (.bool pl)
    clear r1
    have r3 : ((((we.setCell ⟨pb, 0, none⟩ (.int .u32 (n0 : Int))).setCell ⟨pb, 1, none⟩ (.int .u32 (n1 : Int))).setCell ⟨pb, 2, none⟩ (.bool pl)).setCell ⟨pb, 3, none⟩ (.string (bs bb))).heap[pb]? = some (.cells #[.int .u32 (n0 : Int), .int .u32 (n1 : Int), .bool pl, .string (bs bb)] 34) := row_set r2 3 (.string (bs bb))
    clear r2
    have hx : Ex (fun j => j = pb) we ((((we.setCell ⟨pb, 0, none⟩ (.int .u32 (n0 : Int))).setCell ⟨pb, 1, none⟩ (.int .u32 (n1 : Int))).setCell ⟨pb, 2, none⟩ (.bool pl)).setCell ⟨pb, 3, none⟩ (.string (bs bb))) := (((((Ex.refl (fun j => j = pb) we).setCell (p := ⟨pb, 0, none⟩) (.inl rfl) (.int .u32 (n0 : Int))).setCell (p := ⟨pb, 1, none⟩) (.inl rfl) (.int .u32 (n1 : Int))).setCell (p := ⟨pb, 2, none⟩) (.inl rfl) (.bool pl)).setCell (p := ⟨pb, 3, none⟩) (.inl rfl) (.string (bs bb)))
    clear cpb0 cpb1 cpb2 cpb3 fpb0 fpb1 fpb2 fpb3
    generalize ((((we.setCell ⟨pb, 0, none⟩ (.int .u32 (n0 : Int))).setCell ⟨pb, 1, none⟩ (.int .u32 (n1 : Int))).setCell ⟨pb, 2, none⟩ (.bool pl)).setCell ⟨pb, 3, none⟩ (.string (bs bb))) = wf at r3 hx ⊢
    replace B_pb := Lib.hid r3
    clear r3
    have HX_wf := Lib.hid hx
    clear hx
    have hS : Ex (fun _ => False) w1 wf := ((HX_wd.out.trans HX_we.out).andThen HX_wf.out (fun i hi e => by have := HX_wd.out.size; have := hb_pb; omega))
    refine hK.out _ _ hS (fun _ => ?_)
    refine wpAnyH_done (by kernel_rfl) ?_ _
    go_wp2_with fail
    go_meet
    exact ⟨pb, rfl, Lib.hid B_pb.out, Lib.hid ((HX_wd.out.trans HX_we.out).andThen HX_wf.out (fun i hi e => by have := HX_wd.out.size; have := hb_pb; omega))⟩
  case rest =>
    obtain ⟨pb, rfl, B_pb, hx⟩ := hcut
    have hx := hx.out
    clear q1
    have HX_wc := Lib.hid hx
    clear hx
    obtain rfl := HPLV.out
    have cpb2 := row_cell (k := 2) (v := .bool false) B_pb.out rfl
    go_upto_region 9 with fail
    have hS0 : Ex (fun _ => False) wc wc.drew := (Ex.refl _ wc).drew
    refine wp_region_held_drew (S := fun W => Ex (fun _ => False) wc W) (by kernel_rfl) hS0 (fun _ => ?_)
    refine wpAnyH_take (i := 0) (oi := { dst := some 40, op := Go.Op.fieldAddr 34 (Go.Operand.tmp 9) 2, type := 0, pos := "ref.go:50", after := #[], guard := none }) (v := ?v80) rfl (by kernel_rfl) (by kernel_rfl) (by kernel_rfl) (fun _ _ _ h => h) (Or.inl ⟨by rfl, ?hy80⟩) (by assumption) ?rest80
    case hy80 => (intro w hSw; (try dsimp only at hSw); have ecpb2 := hSw.cell cpb2 id; go_simp <;> with_reducible rfl)
    try simp only [Act.put, List.setIfInBounds_toArray, List.set_cons_zero, List.set_cons_succ]
    refine wpAnyH_take (i := 1) (oi := { dst := some 41, op := Go.Op.load 4 (Go.Operand.tmp 40), type := 4, pos := "ref.go:50", after := #[{ on := 0, ground := Go.Ground.data }], guard := none }) (v := ?v81) rfl (by kernel_rfl) (by kernel_rfl) (by kernel_rfl) (fun _ _ _ h => h) (Or.inl ⟨by rfl, ?hy81⟩) (by assumption) ?rest81
    case hy81 => (intro w hSw; (try dsimp only at hSw); have ecpb2 := hSw.cell cpb2 id; go_simp <;> with_reducible rfl)
    try simp only [Act.put, List.setIfInBounds_toArray, List.set_cons_zero, List.set_cons_succ]
    refine wpAnyH_take (i := 2) (oi := { dst := some 42, op := Go.Op.unOp Go.UnOp.not 4 (Go.Operand.tmp 41), type := 4, pos := "ref.go:50", after := #[{ on := 1, ground := Go.Ground.data }], guard := none }) (v := ?v82) rfl (by kernel_rfl) (by kernel_rfl) (by kernel_rfl) (fun _ _ _ h => h) (Or.inl ⟨by rfl, ?hy82⟩) (by assumption) ?rest82
    case hy82 => (intro w hSw; (try dsimp only at hSw); have ecpb2 := hSw.cell cpb2 id; go_simp <;> with_reducible rfl)
    try simp only [Act.put, List.setIfInBounds_toArray, List.set_cons_zero, List.set_cons_succ]
    refine wpAnyH_take (i := 3) (oi := { dst := some 43, op := Go.Op.move (Go.Operand.tmp 42), type := 4, pos := "ref.go:50", after := #[{ on := 2, ground := Go.Ground.data }], guard := none }) (v := ?v83) rfl (by kernel_rfl) (by kernel_rfl) (by kernel_rfl) (fun _ _ _ h => h) (Or.inl ⟨by rfl, ?hy83⟩) (by assumption) ?rest83
    case hy83 => (intro w hSw; (try dsimp only at hSw); have ecpb2 := hSw.cell cpb2 id; go_simp <;> with_reducible rfl)
    try simp only [Act.put, List.setIfInBounds_toArray, List.set_cons_zero, List.set_cons_succ]
    refine wpAnyH_take (i := 4) (oi := { dst := some 44, op := Go.Op.move (Go.Operand.tmp 1), type := 26, pos := "ref.go:50", after := #[{ on := 3, ground := Go.Ground.guard }], guard := some (3, true) }) (v := ?v84) rfl (by kernel_rfl) (by kernel_rfl) (by kernel_rfl) (fun _ _ _ h => h) (Or.inl ⟨by rfl, ?hy84⟩) (by assumption) ?rest84
    case hy84 => (intro w hSw; (try dsimp only at hSw); have ecpb2 := hSw.cell cpb2 id; go_simp <;> with_reducible rfl)
    try simp only [Act.put, List.setIfInBounds_toArray, List.set_cons_zero, List.set_cons_succ]
    refine wpAnyH_take (i := 5) (oi := { dst := some 45, op := Go.Op.move (Go.Operand.tmp 2), type := 26, pos := "ref.go:50", after := #[{ on := 3, ground := Go.Ground.guard }], guard := some (3, true) }) (v := ?v85) rfl (by kernel_rfl) (by kernel_rfl) (by kernel_rfl) (fun _ _ _ h => h) (Or.inl ⟨by rfl, ?hy85⟩) (by assumption) ?rest85
    case hy85 => (intro w hSw; (try dsimp only at hSw); have ecpb2 := hSw.cell cpb2 id; go_simp <;> with_reducible rfl)
    try simp only [Act.put, List.setIfInBounds_toArray, List.set_cons_zero, List.set_cons_succ]
    refine wpAnyH_take (i := 6) (oi := { dst := some 46, op := Go.Op.move (Go.Operand.tmp 8), type := 3, pos := "ref.go:50", after := #[{ on := 3, ground := Go.Ground.guard }], guard := some (3, true) }) (v := ?v86) rfl (by kernel_rfl) (by kernel_rfl) (by kernel_rfl) (fun _ _ _ h => h) (Or.inl ⟨by rfl, ?hy86⟩) (by assumption) ?rest86
    case hy86 => (intro w hSw; (try dsimp only at hSw); have ecpb2 := hSw.cell cpb2 id; go_simp <;> with_reducible rfl)
    try simp only [Act.put, List.setIfInBounds_toArray, List.set_cons_zero, List.set_cons_succ]
    refine wpAnyH_take (i := 8) (oi := { dst := some 48, op := Go.Op.move (Go.Operand.tmp 0), type := 9, pos := "ref.go:50", after := #[{ on := 3, ground := Go.Ground.guard }], guard := some (3, true) }) (v := ?v87) rfl (by kernel_rfl) (by kernel_rfl) (by kernel_rfl) (fun _ _ _ h => h) (Or.inl ⟨by rfl, ?hy87⟩) (by assumption) ?rest87
    case hy87 => (intro w hSw; (try dsimp only at hSw); have ecpb2 := hSw.cell cpb2 id; go_simp <;> with_reducible rfl)
    try simp only [Act.put, List.setIfInBounds_toArray, List.set_cons_zero, List.set_cons_succ]
    refine wpAnyH_take (i := 9) (oi := { dst := some 49, op := Go.Op.move (Go.Operand.tmp 8), type := 3, pos := "ref.go:50", after := #[{ on := 3, ground := Go.Ground.guard }], guard := some (3, true) }) (v := ?v88) rfl (by kernel_rfl) (by kernel_rfl) (by kernel_rfl) (fun _ _ _ h => h) (Or.inl ⟨by rfl, ?hy88⟩) (by assumption) ?rest88
    case hy88 => (intro w hSw; (try dsimp only at hSw); have ecpb2 := hSw.cell cpb2 id; go_simp <;> with_reducible rfl)
    try simp only [Act.put, List.setIfInBounds_toArray, List.set_cons_zero, List.set_cons_succ]
    refine wpAnyH_take (i := 10) (oi := { dst := some 50, op := Go.Op.slice 9 (Go.Operand.tmp 48) none (some (Go.Operand.tmp 49)) none, type := 9, pos := "ref.go:50", after := #[{ on := 8, ground := Go.Ground.data }, { on := 9, ground := Go.Ground.data }, { on := 3, ground := Go.Ground.guard }], guard := some (3, true) }) (v := ?v89) rfl (by kernel_rfl) (by kernel_rfl) (by kernel_rfl) (fun _ _ _ h => h) (Or.inl ⟨by rfl, ?hy89⟩) (by assumption) ?rest89
    case hy89 => (intro w hSw; (try dsimp only at hSw); have ecpb2 := hSw.cell cpb2 id; go_simp <;> with_reducible rfl)
    try simp only [Act.put, List.setIfInBounds_toArray, List.set_cons_zero, List.set_cons_succ]
    refine wpAnyH_ready (rs := [7]) (by kernel_rfl) (by simp) ?_
    refine AllReadyH.cons (o := { dst := some 47, op := Go.Op.call { callee := Go.Callee.value (Go.Operand.func 46), args := #[Go.Operand.tmp 44, Go.Operand.tmp 45, Go.Operand.const (Go.Value.int Go.IntKind.u8 17), Go.Operand.tmp 46], argTypes := #[26, 26, 5, 3] }, type := 9, pos := "ref.go:50", after := #[{ on := 4, ground := Go.Ground.data }, { on := 5, ground := Go.Ground.data }, { on := 6, ground := Go.Ground.data }, { on := 3, ground := Go.Ground.chain }, { on := 3, ground := Go.Ground.guard }], guard := some (3, true) }) rfl (fun K hK => ?_) AllReadyH.nil
    go_simp
    refine (refpseudo_any s t 17 (sz : Int) HS.out HT.out (by omega) (by have := HSZL.out; omega) _).mono ?_
    rintro e wg ⟨rfl, hx⟩
    rw [HPT.out]
    have hS1 := hS0.trans hx
    clear hx
    refine hK.out _ _ hS1 (fun _ => ?_)
    refine wpAnyH_take (i := 11) (oi := { dst := some 51, op := Go.Op.binOp Go.BinOp.add 9 (Go.Operand.tmp 47) (Go.Operand.tmp 50) 9, type := 9, pos := "ref.go:50", after := #[{ on := 7, ground := Go.Ground.data }, { on := 10, ground := Go.Ground.data }, { on := 3, ground := Go.Ground.guard }], guard := some (3, true) }) (v := ?v90) rfl (by kernel_rfl) (by kernel_rfl) (by kernel_rfl) (fun _ _ _ h => h) (Or.inl ⟨by rfl, ?hy90⟩) (by assumption) ?rest90
    case hy90 => (intro w hSw; (try dsimp only at hSw); have ecpb2 := hSw.cell cpb2 id; go_simp <;> with_reducible rfl)
    try simp only [Act.put, List.setIfInBounds_toArray, List.set_cons_zero, List.set_cons_succ]
    refine wpAnyH_ready (rs := [12]) (by kernel_rfl) (by simp) ?_
    refine AllReadyH.cons (o := { dst := some 52, op := Go.Op.call { callee := Go.Callee.value (Go.Operand.func 45), args := #[Go.Operand.tmp 51], argTypes := #[9] }, type := 23, pos := "ref.go:50", after := #[{ on := 11, ground := Go.Ground.data }, { on := 7, ground := Go.Ground.chain }, { on := 3, ground := Go.Ground.guard }], guard := some (3, true) }) rfl (fun K hK => ?_) AllReadyH.nil
    go_simp
    refine (refsum_any (PS ++ TT) HSL.out _).mono ?_
    rintro e wh ⟨rfl, hx⟩
    rw [HSU.out]
    have hS2 := hS1.trans hx
    clear hx
    refine hK.out _ _ hS2 (fun _ => ?_)
    refine wpAnyH_take (i := 13) (oi := { dst := some 53, op := Go.Op.binOp Go.BinOp.neq 23 (Go.Operand.tmp 52) (Go.Operand.const (Go.Value.int Go.IntKind.u16 0)) 23, type := 4, pos := "ref.go:50", after := #[{ on := 12, ground := Go.Ground.data }, { on := 3, ground := Go.Ground.guard }], guard := some (3, true) }) (v := ?v91) rfl (by kernel_rfl) (by kernel_rfl) (by kernel_rfl) (fun _ _ _ h => h) (Or.inl ⟨by rfl, ?hy91⟩) (by assumption) ?rest91
    case hy91 => (intro w hSw; (try dsimp only at hSw); have ecpb2 := hSw.cell cpb2 id; go_simp <;> with_reducible rfl)
    try simp only [Act.put, List.setIfInBounds_toArray, List.set_cons_zero, List.set_cons_succ]
    refine wpAnyH_take (i := 14) (oi := { dst := some 54, op := Go.Op.pick (Go.Operand.tmp 43) (Go.Operand.tmp 53) (Go.Operand.const (Go.Value.bool false)), type := 4, pos := "ref.go:50", after := #[{ on := 3, ground := Go.Ground.data }, { on := 13, ground := Go.Ground.data }], guard := none }) (v := ?v92) rfl (by kernel_rfl) (by kernel_rfl) (by kernel_rfl) (fun _ _ _ h => h) (Or.inl ⟨by rfl, ?hy92⟩) (by assumption) ?rest92
    case hy92 => (intro w hSw; (try dsimp only at hSw); have ecpb2 := hSw.cell cpb2 id; go_simp <;> with_reducible rfl)
    try simp only [Act.put, List.setIfInBounds_toArray, List.set_cons_zero, List.set_cons_succ]
    refine wpAnyH_done (by kernel_rfl) ?_ _
    have hx := hS2
    clear hS0 hS1 hS2 q2 q4 q5 a1 y1 y2 el cpb2
    have HX_wh := Lib.hid hx
    clear hx
    replace B_pb := Lib.hid ((HX_wh.out.block pb (row_lt B_pb.out) id).trans B_pb.out)
    have cpb0 := row_cell (k := 0) (v := .int .u32 (n0 : Int)) B_pb.out rfl
    have cpb1 := row_cell (k := 1) (v := .int .u32 (n1 : Int)) B_pb.out rfl
    have cpb2 := row_cell (k := 2) (v := .bool false) B_pb.out rfl
    have cpb3 := row_cell (k := 3) (v := .string (bs bb)) B_pb.out rfl
    replace B_rb := Lib.hid (((HX_wc.out.trans HX_wh.out).block rb (row_lt B_rb.out) id).trans B_rb.out)
    have crb0 := row_cell (k := 0) (v := .int .u32 0) B_rb.out rfl
    have crb1 := row_cell (k := 1) (v := .int .u32 0) B_rb.out rfl
    have crb2 := row_cell (k := 2) (v := .bool false) B_rb.out rfl
    have crb3 := row_cell (k := 3) (v := .string ⟨#[]⟩) B_rb.out rfl
    have frb0 := row_frozen B_rb.out 0
    have frb1 := row_frozen B_rb.out 1
    have frb2 := row_frozen B_rb.out 2
    have frb3 := row_frozen B_rb.out 3
    go_wp2_with fail
    (try simp only [Exit.inBlock, Exit.then])
    have r0 : (wh.setCell ⟨rb, 0, none⟩ (.int .u32 (n0 : Int))).heap[rb]? = some (.cells #[.int .u32 (n0 : Int), .int .u32 0, .bool false, .string ⟨#[]⟩] 34) := row_set B_rb.out 0 (.int .u32 (n0 : Int))
    have r1 : ((wh.setCell ⟨rb, 0, none⟩ (.int .u32 (n0 : Int))).setCell ⟨rb, 1, none⟩ (.int .u32 (n1 : Int))).heap[rb]? = some (.cells #[.int .u32 (n0 : Int), .int .u32 (n1 : Int), .bool false, .string ⟨#[]⟩] 34) := row_set r0 1 (.int .u32 (n1 : Int))
    clear r0
    have r2 : (((wh.setCell ⟨rb, 0, none⟩ (.int .u32 (n0 : Int))).setCell ⟨rb, 1, none⟩ (.int .u32 (n1 : Int))).setCell ⟨rb, 2, none⟩ (.bool false)).heap[rb]? = some (.cells #[.int .u32 (n0 : Int), .int .u32 (n1 : Int), .bool false, .string ⟨#[]⟩] 34) := row_set r1 2 (.bool false)
    clear r1
    have r3 : ((((wh.setCell ⟨rb, 0, none⟩ (.int .u32 (n0 : Int))).setCell ⟨rb, 1, none⟩ (.int .u32 (n1 : Int))).setCell ⟨rb, 2, none⟩ (.bool false)).setCell ⟨rb, 3, none⟩ (.string (bs bb))).heap[rb]? = some (.cells #[.int .u32 (n0 : Int), .int .u32 (n1 : Int), .bool false, .string (bs bb)] 34) := row_set r2 3 (.string (bs bb))
    clear r2
    have hx : Ex (fun j => j = rb) wh ((((wh.setCell ⟨rb, 0, none⟩ (.int .u32 (n0 : Int))).setCell ⟨rb, 1, none⟩ (.int .u32 (n1 : Int))).setCell ⟨rb, 2, none⟩ (.bool false)).setCell ⟨rb, 3, none⟩ (.string (bs bb))) := (((((Ex.refl (fun j => j = rb) wh).setCell (p := ⟨rb, 0, none⟩) (.inl rfl) (.int .u32 (n0 : Int))).setCell (p := ⟨rb, 1, none⟩) (.inl rfl) (.int .u32 (n1 : Int))).setCell (p := ⟨rb, 2, none⟩) (.inl rfl) (.bool false)).setCell (p := ⟨rb, 3, none⟩) (.inl rfl) (.string (bs bb)))
    clear crb0 crb1 crb2 crb3 frb0 frb1 frb2 frb3
    generalize ((((wh.setCell ⟨rb, 0, none⟩ (.int .u32 (n0 : Int))).setCell ⟨rb, 1, none⟩ (.int .u32 (n1 : Int))).setCell ⟨rb, 2, none⟩ (.bool false)).setCell ⟨rb, 3, none⟩ (.string (bs bb))) = wz at r3 hx ⊢
    replace B_rb := Lib.hid r3
    clear r3
    have HX_wz := Lib.hid hx
    clear hx
    refine bodyPost_ret (v := .tuple #[.agg #[.int .u32 (n0 : Int), .int .u32 (n1 : Int), .bool false, .string (bs bb)], .string ⟨#[]⟩]) ?_ rfl ⟨rfl, (((HX_w1.out.trans HX_wc.out).trans HX_wh.out).andThen HX_wz.out (fun i hi e => by have := hb_rb; omega))⟩
    exact results_cell_row2 (p := 6) (u := 7) rfl _ _ rb 34 #[.int .u32 (n0 : Int), .int .u32 (n1 : Int), .bool false, .string (bs bb)] (0, 0) _ _ rfl rfl B_rb.out Tryd.underlying34 rfl rd_size
end Go.Proofs.YtfcfpkhcpijkfaaDoor
