/-
  The contract of the reference's Parse of a frame. By an AI agent.
-/
import Derived.Test.YtkgieciamophkaaDoorRefB03
import Derived.Test.YtkgieciamophkaaDoorRow2
import Derived.Deep.DeepCutAuto
import Derived.Deep.CutBlock
import Derived.IntWalk
namespace Go.Proofs.YtkgieciamophkaaDoor
open Go.RowKit

theorem dbs_sub (l : List UInt8) (i j : Nat) (_h : j ≤ l.length) : (bs l).extract i j = bs ((l.take j).drop i) := by
  apply ByteArray.ext
  simp only [bs, ByteArray.data_extract, List.extract_toArray, List.extract_eq_take_drop]
  rw [List.drop_take]
theorem tx312 : bs (etx [lay3, lay1] 2) = ⟨#[101, 116, 104, 101, 114, 58, 32, 111, 99, 116, 101, 116, 115, 58, 32, 101, 114, 114, 111, 114, 32, 50]⟩ := by decide
theorem wrap_small (v : Nat) (h : v < 65536) : wrap64 (v : Int) = (v : Int) ∧ IntKind.i64.wrap (v : Int) = (v : Int) := by
  refine ⟨?_, ?_⟩
  · unfold wrap64; omega
  · rw [IntKind.wrap_i64]; omega
def zrf : Value := .agg #[.string ⟨#[]⟩, .string ⟨#[]⟩, .int .i64 0, .int .u32 0, .string ⟨#[]⟩]
theorem tag_lit (a b : UInt8) : ((bs [a, b]).toList == [129, 0]) = decide (nb [a, b] = 33024) := by
  have h : (bs [a, b]).toList = [a, b] := by simp [bs]
  rw [h]
  have ha := a.toNat_lt
  have hb := b.toNat_lt
  have hn : nb [a, b] = a.toNat * 256 + b.toNat := by simp [nb]
  by_cases h1 : a = 129
  · by_cases h2 : b = 0
    · rw [h1, h2]; decide
    · have h3 : b.toNat ≠ 0 := fun h => h2 (UInt8.toNat_inj.1 h)
      rw [decide_eq_false (by rw [hn]; omega), beq_eq_false_iff_ne]
      intro h4
      injection h4 with _ h5
      injection h5 with h6 _
      exact h2 h6
  · have h3 : a.toNat ≠ 129 := fun h => h1 (UInt8.toNat_inj.1 h)
    rw [decide_eq_false (by rw [hn]; omega), beq_eq_false_iff_ne]
    intro h4
    injection h4 with h5 _
    exact h1 h5
set_option maxRecDepth 100000 in
set_option maxHeartbeats 4000000 in
theorem rp3_big (l : List UInt8)  (w : World) (h9 : 9000 < l.length) :
    Calls Tryd.prog 35 #[.string (bs l)] w fun e w' => e = .returned (.tuple #[zrf, .string (bs (etx [lay3] 7))]) ∧ Ex (fun _ => False) w w' := by
  have hz := bs_size l
  rw [tx37]
  unfold zrf
  have h9i : (9000 : Int) < (l.length : Int) := by omega
  clear h9
  go_enter Tryd.func35, Tryd.ntmps35
  go_upto_region 1 with fail
  have hx : Ex (fun _ => False) w (w.alloc (.cells #[.string ⟨#[]⟩, .string ⟨#[]⟩, .int .i64 0, .int .u32 0, .string ⟨#[]⟩] 80)) := (Ex.refl _ w).alloc _
  have hb : (w.alloc (.cells #[.string ⟨#[]⟩, .string ⟨#[]⟩, .int .i64 0, .int .u32 0, .string ⟨#[]⟩] 80)).heap[w.heap.size]? = some (.cells #[.string ⟨#[]⟩, .string ⟨#[]⟩, .int .i64 0, .int .u32 0, .string ⟨#[]⟩] 80) := heap_alloc_new w _
  obtain ⟨rb, hrb⟩ : ∃ rb, rb = w.heap.size := ⟨_, rfl⟩
  have hb_rb : w.heap.size ≤ rb := by omega
  rw [← hrb] at hb
  try simp only [← hrb]
  generalize w.alloc (.cells #[.string ⟨#[]⟩, .string ⟨#[]⟩, .int .i64 0, .int .u32 0, .string ⟨#[]⟩] 80) = w1 at hx hb ⊢
  clear hrb
  have HX_w1 := Lib.hid hx
  clear hx
  have B_rb := Lib.hid hb
  clear hb
  have crb0 := row_cell (k := 0) (v := .string ⟨#[]⟩) B_rb.out rfl
  have crb1 := row_cell (k := 1) (v := .string ⟨#[]⟩) B_rb.out rfl
  have crb2 := row_cell (k := 2) (v := .int .i64 0) B_rb.out rfl
  have crb3 := row_cell (k := 3) (v := .int .u32 0) B_rb.out rfl
  have crb4 := row_cell (k := 4) (v := .string ⟨#[]⟩) B_rb.out rfl
  have frb0 := row_frozen B_rb.out 0
  have frb1 := row_frozen B_rb.out 1
  have frb2 := row_frozen B_rb.out 2
  have frb3 := row_frozen B_rb.out 3
  have frb4 := row_frozen B_rb.out 4
  go_wp2_with fail
  (try simp only [Exit.inBlock, Exit.then])
  have r0 : (w1.setCell ⟨rb, 0, none⟩ (.string ⟨#[]⟩)).heap[rb]? = some (.cells #[.string ⟨#[]⟩, .string ⟨#[]⟩, .int .i64 0, .int .u32 0, .string ⟨#[]⟩] 80) := row_set B_rb.out 0 (.string ⟨#[]⟩)
  have r1 : ((w1.setCell ⟨rb, 0, none⟩ (.string ⟨#[]⟩)).setCell ⟨rb, 1, none⟩ (.string ⟨#[]⟩)).heap[rb]? = some (.cells #[.string ⟨#[]⟩, .string ⟨#[]⟩, .int .i64 0, .int .u32 0, .string ⟨#[]⟩] 80) := row_set r0 1 (.string ⟨#[]⟩)
  clear r0
  have r2 : (((w1.setCell ⟨rb, 0, none⟩ (.string ⟨#[]⟩)).setCell ⟨rb, 1, none⟩ (.string ⟨#[]⟩)).setCell ⟨rb, 2, none⟩ (.int .i64 0)).heap[rb]? = some (.cells #[.string ⟨#[]⟩, .string ⟨#[]⟩, .int .i64 0, .int .u32 0, .string ⟨#[]⟩] 80) := row_set r1 2 (.int .i64 0)
  clear r1
  have r3 : ((((w1.setCell ⟨rb, 0, none⟩ (.string ⟨#[]⟩)).setCell ⟨rb, 1, none⟩ (.string ⟨#[]⟩)).setCell ⟨rb, 2, none⟩ (.int .i64 0)).setCell ⟨rb, 3, none⟩ (.int .u32 0)).heap[rb]? = some (.cells #[.string ⟨#[]⟩, .string ⟨#[]⟩, .int .i64 0, .int .u32 0, .string ⟨#[]⟩] 80) := row_set r2 3 (.int .u32 0)
  clear r2
  have r4 : (((((w1.setCell ⟨rb, 0, none⟩ (.string ⟨#[]⟩)).setCell ⟨rb, 1, none⟩ (.string ⟨#[]⟩)).setCell ⟨rb, 2, none⟩ (.int .i64 0)).setCell ⟨rb, 3, none⟩ (.int .u32 0)).setCell ⟨rb, 4, none⟩ (.string ⟨#[]⟩)).heap[rb]? = some (.cells #[.string ⟨#[]⟩, .string ⟨#[]⟩, .int .i64 0, .int .u32 0, .string ⟨#[]⟩] 80) := row_set r3 4 (.string ⟨#[]⟩)
  clear r3
  have hx : Ex (fun j => j = rb) w1 (((((w1.setCell ⟨rb, 0, none⟩ (.string ⟨#[]⟩)).setCell ⟨rb, 1, none⟩ (.string ⟨#[]⟩)).setCell ⟨rb, 2, none⟩ (.int .i64 0)).setCell ⟨rb, 3, none⟩ (.int .u32 0)).setCell ⟨rb, 4, none⟩ (.string ⟨#[]⟩)) := ((((((Ex.refl (fun j => j = rb) w1).setCell (p := ⟨rb, 0, none⟩) (.inl rfl) (.string ⟨#[]⟩)).setCell (p := ⟨rb, 1, none⟩) (.inl rfl) (.string ⟨#[]⟩)).setCell (p := ⟨rb, 2, none⟩) (.inl rfl) (.int .i64 0)).setCell (p := ⟨rb, 3, none⟩) (.inl rfl) (.int .u32 0)).setCell (p := ⟨rb, 4, none⟩) (.inl rfl) (.string ⟨#[]⟩))
  clear crb0 crb1 crb2 crb3 crb4 frb0 frb1 frb2 frb3 frb4
  generalize (((((w1.setCell ⟨rb, 0, none⟩ (.string ⟨#[]⟩)).setCell ⟨rb, 1, none⟩ (.string ⟨#[]⟩)).setCell ⟨rb, 2, none⟩ (.int .i64 0)).setCell ⟨rb, 3, none⟩ (.int .u32 0)).setCell ⟨rb, 4, none⟩ (.string ⟨#[]⟩)) = wz at r4 hx ⊢
  replace B_rb := Lib.hid r4
  clear r4
  have HX_wz := Lib.hid hx
  clear hx
  refine bodyPost_ret (v := .tuple #[.agg #[.string ⟨#[]⟩, .string ⟨#[]⟩, .int .i64 0, .int .u32 0, .string ⟨#[]⟩], .string ⟨#[101, 116, 104, 101, 114, 58, 32, 101, 114, 114, 111, 114, 32, 55]⟩]) ?_ rfl ⟨rfl, (HX_w1.out.andThen HX_wz.out (fun i hi e => by have := hb_rb; omega))⟩
  exact results_cell_row2 (p := 2) (u := 3) rfl _ _ rb 80 #[.string ⟨#[]⟩, .string ⟨#[]⟩, .int .i64 0, .int .u32 0, .string ⟨#[]⟩] (0, 0) _ _ rfl rfl B_rb.out Tryd.underlying80 rfl rf_size
set_option maxRecDepth 100000 in
set_option maxHeartbeats 4000000 in
theorem rp3_short (l : List UInt8)  (w : World) (h9 : l.length < 14) :
    Calls Tryd.prog 35 #[.string (bs l)] w fun e w' => e = .returned (.tuple #[zrf, .string (bs (etx [lay3, lay1] 2))]) ∧ Ex (fun _ => False) w w' := by
  have hz := bs_size l
  rw [tx312]
  unfold zrf
  have h9i : ¬ (9000 : Int) < (l.length : Int) := by omega
  have h14 : (l.length : Int) < 14 := by omega
  clear h9
  go_enter Tryd.func35, Tryd.ntmps35
  go_upto_region 1 with fail
  have hx : Ex (fun _ => False) w (w.alloc (.cells #[.string ⟨#[]⟩, .string ⟨#[]⟩, .int .i64 0, .int .u32 0, .string ⟨#[]⟩] 80)) := (Ex.refl _ w).alloc _
  have hb : (w.alloc (.cells #[.string ⟨#[]⟩, .string ⟨#[]⟩, .int .i64 0, .int .u32 0, .string ⟨#[]⟩] 80)).heap[w.heap.size]? = some (.cells #[.string ⟨#[]⟩, .string ⟨#[]⟩, .int .i64 0, .int .u32 0, .string ⟨#[]⟩] 80) := heap_alloc_new w _
  obtain ⟨rb, hrb⟩ : ∃ rb, rb = w.heap.size := ⟨_, rfl⟩
  have hb_rb : w.heap.size ≤ rb := by omega
  rw [← hrb] at hb
  try simp only [← hrb]
  generalize w.alloc (.cells #[.string ⟨#[]⟩, .string ⟨#[]⟩, .int .i64 0, .int .u32 0, .string ⟨#[]⟩] 80) = w1 at hx hb ⊢
  clear hrb
  have HX_w1 := Lib.hid hx
  clear hx
  have B_rb := Lib.hid hb
  clear hb
  have crb0 := row_cell (k := 0) (v := .string ⟨#[]⟩) B_rb.out rfl
  have crb1 := row_cell (k := 1) (v := .string ⟨#[]⟩) B_rb.out rfl
  have crb2 := row_cell (k := 2) (v := .int .i64 0) B_rb.out rfl
  have crb3 := row_cell (k := 3) (v := .int .u32 0) B_rb.out rfl
  have crb4 := row_cell (k := 4) (v := .string ⟨#[]⟩) B_rb.out rfl
  have frb0 := row_frozen B_rb.out 0
  have frb1 := row_frozen B_rb.out 1
  have frb2 := row_frozen B_rb.out 2
  have frb3 := row_frozen B_rb.out 3
  have frb4 := row_frozen B_rb.out 4
  go_wp2_with fail
  (try simp only [Exit.inBlock, Exit.then])
  have r0 : (w1.setCell ⟨rb, 0, none⟩ (.string ⟨#[]⟩)).heap[rb]? = some (.cells #[.string ⟨#[]⟩, .string ⟨#[]⟩, .int .i64 0, .int .u32 0, .string ⟨#[]⟩] 80) := row_set B_rb.out 0 (.string ⟨#[]⟩)
  have r1 : ((w1.setCell ⟨rb, 0, none⟩ (.string ⟨#[]⟩)).setCell ⟨rb, 1, none⟩ (.string ⟨#[]⟩)).heap[rb]? = some (.cells #[.string ⟨#[]⟩, .string ⟨#[]⟩, .int .i64 0, .int .u32 0, .string ⟨#[]⟩] 80) := row_set r0 1 (.string ⟨#[]⟩)
  clear r0
  have r2 : (((w1.setCell ⟨rb, 0, none⟩ (.string ⟨#[]⟩)).setCell ⟨rb, 1, none⟩ (.string ⟨#[]⟩)).setCell ⟨rb, 2, none⟩ (.int .i64 0)).heap[rb]? = some (.cells #[.string ⟨#[]⟩, .string ⟨#[]⟩, .int .i64 0, .int .u32 0, .string ⟨#[]⟩] 80) := row_set r1 2 (.int .i64 0)
  clear r1
  have r3 : ((((w1.setCell ⟨rb, 0, none⟩ (.string ⟨#[]⟩)).setCell ⟨rb, 1, none⟩ (.string ⟨#[]⟩)).setCell ⟨rb, 2, none⟩ (.int .i64 0)).setCell ⟨rb, 3, none⟩ (.int .u32 0)).heap[rb]? = some (.cells #[.string ⟨#[]⟩, .string ⟨#[]⟩, .int .i64 0, .int .u32 0, .string ⟨#[]⟩] 80) := row_set r2 3 (.int .u32 0)
  clear r2
  have r4 : (((((w1.setCell ⟨rb, 0, none⟩ (.string ⟨#[]⟩)).setCell ⟨rb, 1, none⟩ (.string ⟨#[]⟩)).setCell ⟨rb, 2, none⟩ (.int .i64 0)).setCell ⟨rb, 3, none⟩ (.int .u32 0)).setCell ⟨rb, 4, none⟩ (.string ⟨#[]⟩)).heap[rb]? = some (.cells #[.string ⟨#[]⟩, .string ⟨#[]⟩, .int .i64 0, .int .u32 0, .string ⟨#[]⟩] 80) := row_set r3 4 (.string ⟨#[]⟩)
  clear r3
  have hx : Ex (fun j => j = rb) w1 (((((w1.setCell ⟨rb, 0, none⟩ (.string ⟨#[]⟩)).setCell ⟨rb, 1, none⟩ (.string ⟨#[]⟩)).setCell ⟨rb, 2, none⟩ (.int .i64 0)).setCell ⟨rb, 3, none⟩ (.int .u32 0)).setCell ⟨rb, 4, none⟩ (.string ⟨#[]⟩)) := ((((((Ex.refl (fun j => j = rb) w1).setCell (p := ⟨rb, 0, none⟩) (.inl rfl) (.string ⟨#[]⟩)).setCell (p := ⟨rb, 1, none⟩) (.inl rfl) (.string ⟨#[]⟩)).setCell (p := ⟨rb, 2, none⟩) (.inl rfl) (.int .i64 0)).setCell (p := ⟨rb, 3, none⟩) (.inl rfl) (.int .u32 0)).setCell (p := ⟨rb, 4, none⟩) (.inl rfl) (.string ⟨#[]⟩))
  clear crb0 crb1 crb2 crb3 crb4 frb0 frb1 frb2 frb3 frb4
  generalize (((((w1.setCell ⟨rb, 0, none⟩ (.string ⟨#[]⟩)).setCell ⟨rb, 1, none⟩ (.string ⟨#[]⟩)).setCell ⟨rb, 2, none⟩ (.int .i64 0)).setCell ⟨rb, 3, none⟩ (.int .u32 0)).setCell ⟨rb, 4, none⟩ (.string ⟨#[]⟩)) = wz at r4 hx ⊢
  replace B_rb := Lib.hid r4
  clear r4
  have HX_wz := Lib.hid hx
  clear hx
  refine bodyPost_ret (v := .tuple #[.agg #[.string ⟨#[]⟩, .string ⟨#[]⟩, .int .i64 0, .int .u32 0, .string ⟨#[]⟩], .string ⟨#[101, 116, 104, 101, 114, 58, 32, 111, 99, 116, 101, 116, 115, 58, 32, 101, 114, 114, 111, 114, 32, 50]⟩]) ?_ rfl ⟨rfl, (HX_w1.out.andThen HX_wz.out (fun i hi e => by have := hb_rb; omega))⟩
  exact results_cell_row2 (p := 2) (u := 3) rfl _ _ rb 80 #[.string ⟨#[]⟩, .string ⟨#[]⟩, .int .i64 0, .int .u32 0, .string ⟨#[]⟩] (0, 0) _ _ rfl rfl B_rb.out Tryd.underlying80 rfl rf_size
set_option maxRecDepth 100000 in
set_option maxHeartbeats 4000000 in
theorem rp3_cut (l : List UInt8) (d s : List UInt8) (a b : UInt8) (r : List UInt8) (w : World) (hl : l = d ++ (s ++ a :: b :: r)) (hd : d.length = 6) (hs : s.length = 6) (ht : nb [a, b] = 33024) (hr : r.length < 4) :
    Calls Tryd.prog 35 #[.string (bs l)] w fun e w' => e = .returned (.tuple #[zrf, .string (bs (etx [lay3, lay1] 2))]) ∧ Ex (fun _ => False) w w' := by
  have hz := bs_size l
  rw [tx312]
  unfold zrf
  obtain ⟨n, hn⟩ : ∃ n, n = l.length := ⟨_, rfl⟩
  rw [← hn] at hz
  have hln : n = 14 + r.length := by rw [hn, hl]; simp [hd, hs]; omega
  have q3 : (bs l).extract 12 14 = bs [a, b] := by
    rw [dbs_sub l 12 14 (by omega), hl, List.take_append, List.take_of_length_le (by omega), hd, List.take_append, List.take_of_length_le (by omega), hs, ← List.append_assoc, List.drop_append, List.drop_of_length_le (by simp; omega), List.nil_append, List.length_append, hd, hs]
    rfl
  have i14 : ¬ (n : Int) < 14 := by omega
  have i14' : (14 : Int) ≤ (n : Int) := by omega
  have i9 : ¬ (9000 : Int) < (n : Int) := by omega

  have htl2 : ((bs [a, b]).toList == [129, 0]) = true := by rw [tag_lit, decide_eq_true ht]
  have i18 : (n : Int) < 18 := by omega
  clear hl hn hln hd hs ht hr
  go_enter Tryd.func35, Tryd.ntmps35
  go_upto_region 1 with fail
  have hx : Ex (fun _ => False) w (w.alloc (.cells #[.string ⟨#[]⟩, .string ⟨#[]⟩, .int .i64 0, .int .u32 0, .string ⟨#[]⟩] 80)) := (Ex.refl _ w).alloc _
  have hb : (w.alloc (.cells #[.string ⟨#[]⟩, .string ⟨#[]⟩, .int .i64 0, .int .u32 0, .string ⟨#[]⟩] 80)).heap[w.heap.size]? = some (.cells #[.string ⟨#[]⟩, .string ⟨#[]⟩, .int .i64 0, .int .u32 0, .string ⟨#[]⟩] 80) := heap_alloc_new w _
  obtain ⟨rb, hrb⟩ : ∃ rb, rb = w.heap.size := ⟨_, rfl⟩
  have hb_rb : w.heap.size ≤ rb := by omega
  rw [← hrb] at hb
  try simp only [← hrb]
  generalize w.alloc (.cells #[.string ⟨#[]⟩, .string ⟨#[]⟩, .int .i64 0, .int .u32 0, .string ⟨#[]⟩] 80) = w1 at hx hb ⊢
  clear hrb
  have HX_w1 := Lib.hid hx
  clear hx
  have B_rb := Lib.hid hb
  clear hb
  have crb0 := row_cell (k := 0) (v := .string ⟨#[]⟩) B_rb.out rfl
  have crb1 := row_cell (k := 1) (v := .string ⟨#[]⟩) B_rb.out rfl
  have crb2 := row_cell (k := 2) (v := .int .i64 0) B_rb.out rfl
  have crb3 := row_cell (k := 3) (v := .int .u32 0) B_rb.out rfl
  have crb4 := row_cell (k := 4) (v := .string ⟨#[]⟩) B_rb.out rfl
  have frb0 := row_frozen B_rb.out 0
  have frb1 := row_frozen B_rb.out 1
  have frb2 := row_frozen B_rb.out 2
  have frb3 := row_frozen B_rb.out 3
  have frb4 := row_frozen B_rb.out 4
  go_wp2_with fail
  (try simp only [Exit.inBlock, Exit.then])
  have r0 : (w1.setCell ⟨rb, 0, none⟩ (.string ⟨#[]⟩)).heap[rb]? = some (.cells #[.string ⟨#[]⟩, .string ⟨#[]⟩, .int .i64 0, .int .u32 0, .string ⟨#[]⟩] 80) := row_set B_rb.out 0 (.string ⟨#[]⟩)
  have r1 : ((w1.setCell ⟨rb, 0, none⟩ (.string ⟨#[]⟩)).setCell ⟨rb, 1, none⟩ (.string ⟨#[]⟩)).heap[rb]? = some (.cells #[.string ⟨#[]⟩, .string ⟨#[]⟩, .int .i64 0, .int .u32 0, .string ⟨#[]⟩] 80) := row_set r0 1 (.string ⟨#[]⟩)
  clear r0
  have r2 : (((w1.setCell ⟨rb, 0, none⟩ (.string ⟨#[]⟩)).setCell ⟨rb, 1, none⟩ (.string ⟨#[]⟩)).setCell ⟨rb, 2, none⟩ (.int .i64 0)).heap[rb]? = some (.cells #[.string ⟨#[]⟩, .string ⟨#[]⟩, .int .i64 0, .int .u32 0, .string ⟨#[]⟩] 80) := row_set r1 2 (.int .i64 0)
  clear r1
  have r3 : ((((w1.setCell ⟨rb, 0, none⟩ (.string ⟨#[]⟩)).setCell ⟨rb, 1, none⟩ (.string ⟨#[]⟩)).setCell ⟨rb, 2, none⟩ (.int .i64 0)).setCell ⟨rb, 3, none⟩ (.int .u32 0)).heap[rb]? = some (.cells #[.string ⟨#[]⟩, .string ⟨#[]⟩, .int .i64 0, .int .u32 0, .string ⟨#[]⟩] 80) := row_set r2 3 (.int .u32 0)
  clear r2
  have r4 : (((((w1.setCell ⟨rb, 0, none⟩ (.string ⟨#[]⟩)).setCell ⟨rb, 1, none⟩ (.string ⟨#[]⟩)).setCell ⟨rb, 2, none⟩ (.int .i64 0)).setCell ⟨rb, 3, none⟩ (.int .u32 0)).setCell ⟨rb, 4, none⟩ (.string ⟨#[]⟩)).heap[rb]? = some (.cells #[.string ⟨#[]⟩, .string ⟨#[]⟩, .int .i64 0, .int .u32 0, .string ⟨#[]⟩] 80) := row_set r3 4 (.string ⟨#[]⟩)
  clear r3
  have hx : Ex (fun j => j = rb) w1 (((((w1.setCell ⟨rb, 0, none⟩ (.string ⟨#[]⟩)).setCell ⟨rb, 1, none⟩ (.string ⟨#[]⟩)).setCell ⟨rb, 2, none⟩ (.int .i64 0)).setCell ⟨rb, 3, none⟩ (.int .u32 0)).setCell ⟨rb, 4, none⟩ (.string ⟨#[]⟩)) := ((((((Ex.refl (fun j => j = rb) w1).setCell (p := ⟨rb, 0, none⟩) (.inl rfl) (.string ⟨#[]⟩)).setCell (p := ⟨rb, 1, none⟩) (.inl rfl) (.string ⟨#[]⟩)).setCell (p := ⟨rb, 2, none⟩) (.inl rfl) (.int .i64 0)).setCell (p := ⟨rb, 3, none⟩) (.inl rfl) (.int .u32 0)).setCell (p := ⟨rb, 4, none⟩) (.inl rfl) (.string ⟨#[]⟩))
  clear crb0 crb1 crb2 crb3 crb4 frb0 frb1 frb2 frb3 frb4
  generalize (((((w1.setCell ⟨rb, 0, none⟩ (.string ⟨#[]⟩)).setCell ⟨rb, 1, none⟩ (.string ⟨#[]⟩)).setCell ⟨rb, 2, none⟩ (.int .i64 0)).setCell ⟨rb, 3, none⟩ (.int .u32 0)).setCell ⟨rb, 4, none⟩ (.string ⟨#[]⟩)) = wz at r4 hx ⊢
  replace B_rb := Lib.hid r4
  clear r4
  have HX_wz := Lib.hid hx
  clear hx
  refine bodyPost_ret (v := .tuple #[.agg #[.string ⟨#[]⟩, .string ⟨#[]⟩, .int .i64 0, .int .u32 0, .string ⟨#[]⟩], .string ⟨#[101, 116, 104, 101, 114, 58, 32, 111, 99, 116, 101, 116, 115, 58, 32, 101, 114, 114, 111, 114, 32, 50]⟩]) ?_ rfl ⟨rfl, (HX_w1.out.andThen HX_wz.out (fun i hi e => by have := hb_rb; omega))⟩
  exact results_cell_row2 (p := 2) (u := 3) rfl _ _ rb 80 #[.string ⟨#[]⟩, .string ⟨#[]⟩, .int .i64 0, .int .u32 0, .string ⟨#[]⟩] (0, 0) _ _ rfl rfl B_rb.out Tryd.underlying80 rfl rf_size
set_option maxRecDepth 100000 in
set_option maxHeartbeats 4000000 in
theorem rp3_plain (l : List UInt8) (d s : List UInt8) (a b : UInt8) (r : List UInt8) (w : World) (hl : l = d ++ (s ++ a :: b :: r)) (hd : d.length = 6) (hs : s.length = 6) (ht : nb [a, b] ≠ 33024) (h9 : l.length ≤ 9000) :
    Calls Tryd.prog 35 #[.string (bs l)] w fun e w' => e = .returned (.tuple #[rfv ⟨d, s, -1, nb [a, b], r⟩, .string ⟨#[]⟩]) ∧ Ex (fun _ => False) w w' := by
  have hz := bs_size l
  obtain ⟨n, hn⟩ : ∃ n, n = l.length := ⟨_, rfl⟩
  rw [← hn] at hz
  have hln : n = 14 + r.length := by rw [hn, hl]; simp [hd, hs]; omega
  have q3 : (bs l).extract 12 14 = bs [a, b] := by
    rw [dbs_sub l 12 14 (by omega), hl, List.take_append, List.take_of_length_le (by omega), hd, List.take_append, List.take_of_length_le (by omega), hs, ← List.append_assoc, List.drop_append, List.drop_of_length_le (by simp; omega), List.nil_append, List.length_append, hd, hs]
    rfl
  have i14 : ¬ (n : Int) < 14 := by omega
  have i14' : (14 : Int) ≤ (n : Int) := by omega
  have i9 : ¬ (9000 : Int) < (n : Int) := by omega
  have q1 : (bs l).extract 0 6 = bs d := by
    rw [dbs_sub l 0 6 (by omega), List.drop_zero, hl, List.take_append, List.take_of_length_le (by omega), hd]; simp
  have q2 : (bs l).extract 6 12 = bs s := by
    rw [dbs_sub l 6 12 (by omega), hl, List.take_append, List.take_of_length_le (by omega), hd, List.drop_append, List.drop_of_length_le (by omega), List.nil_append, hd, List.take_append, List.take_of_length_le (by omega), hs]
    simp
  obtain ⟨R, hR⟩ : ∃ R, R = a :: b :: r := ⟨_, rfl⟩
  have q4 : (bs l).extract 12 n = bs R := by
    rw [hn, dbs_sub l 12 l.length (by omega), List.take_length, hl, ← List.append_assoc, List.drop_append, List.drop_of_length_le (by simp; omega), List.length_append, hd, hs, hR]
    rfl
  obtain ⟨nR, hnR⟩ : ∃ n, n = R.length := ⟨_, rfl⟩
  have zR : (bs R).size = nR := by rw [bs_size, hnR]
  have hlR : nR = 2 + r.length := by rw [hnR, hR]; simp; omega
  have q5 : (bs R).extract 0 2 = bs [a, b] := by rw [dbs_sub R 0 2 (by omega), hR]; rfl
  have i6 : (6 : Int) ≤ (n : Int) := by omega
  have i12 : (12 : Int) ≤ (n : Int) := by omega
  have iR : (2 : Int) ≤ (nR : Int) := by omega
  have htl2 : ((bs [a, b]).toList == [129, 0]) = false := by rw [tag_lit, decide_eq_false ht]
  have hrv : rfv ⟨d, s, -1, nb [a, b], r⟩ = .agg #[.string (bs d), .string (bs s), .int .i64 (-1), .int .u32 (nb [a, b] : Int), .string (bs r)] := rfl
  rw [hrv]
  obtain ⟨ty, hty⟩ : ∃ t, t = nb [a, b] := ⟨_, rfl⟩
  rw [← hty]
  have q10 : (bs R).extract 2 nR = bs r := by rw [hnR, dbs_sub R 2 R.length (by omega), List.take_length, hR]; rfl
  have HTY := Lib.hid hty
  clear hl hn hln hd hs ht hR hnR hlR hty hrv 
  clear h9
  go_enter Tryd.func35, Tryd.ntmps35
  go_upto_region 1 with fail
  have hx : Ex (fun _ => False) w (w.alloc (.cells #[.string ⟨#[]⟩, .string ⟨#[]⟩, .int .i64 0, .int .u32 0, .string ⟨#[]⟩] 80)) := (Ex.refl _ w).alloc _
  have hb : (w.alloc (.cells #[.string ⟨#[]⟩, .string ⟨#[]⟩, .int .i64 0, .int .u32 0, .string ⟨#[]⟩] 80)).heap[w.heap.size]? = some (.cells #[.string ⟨#[]⟩, .string ⟨#[]⟩, .int .i64 0, .int .u32 0, .string ⟨#[]⟩] 80) := heap_alloc_new w _
  obtain ⟨rb, hrb⟩ : ∃ rb, rb = w.heap.size := ⟨_, rfl⟩
  have hb_rb : w.heap.size ≤ rb := by omega
  rw [← hrb] at hb
  try simp only [← hrb]
  generalize w.alloc (.cells #[.string ⟨#[]⟩, .string ⟨#[]⟩, .int .i64 0, .int .u32 0, .string ⟨#[]⟩] 80) = w1 at hx hb ⊢
  clear hrb
  have HX_w1 := Lib.hid hx
  clear hx
  have B_rb := Lib.hid hb
  clear hb
  go_upto_region 5 with fail
  go_cut [4] (fun x wx => ∃ pb : Nat, w1.heap.size ≤ pb ∧ x = .pointer (some ⟨pb, 0, none⟩) ∧ Hid (wx.heap[pb]? = some (.cells #[.string (bs d), .string (bs s), .int .i64 (-1), .int .u32 0, .string ⟨#[]⟩] 80)) ∧ Hid (Ex (fun _ => False) w1 wx))
  case first =>
    have hS0 : Ex (fun _ => False) w1 w1.drew := (Ex.refl _ w1).drew
    refine wp_region_held_drew (S := fun W => Ex (fun _ => False) w1 W) (by kernel_rfl) hS0 (fun _ => ?_)
    generalize w1.drew = wd at hS0 ⊢
    have HX_wd := Lib.hid hS0
    have hS := hS0
    clear hS0
    refine wpAnyH_take (i := 0) (oi := { dst := some 24, op := Go.Op.move (Go.Operand.tmp 0), type := 9, pos := "ref.go:22", after := #[], guard := none }) (v := ?v1) rfl (by kernel_rfl) (by kernel_rfl) (by kernel_rfl) (fun _ _ _ h => h) (Or.inl ⟨by rfl, ?hy1⟩) (by assumption) ?rest1
    case hy1 => (intro w hSw; (try dsimp only at hSw); go_simp <;> with_reducible rfl)
    try simp only [Act.put, List.setIfInBounds_toArray, List.set_cons_zero, List.set_cons_succ]
    refine wpAnyH_take (i := 1) (oi := { dst := some 25, op := Go.Op.slice 9 (Go.Operand.tmp 24) none (some (Go.Operand.const (Go.Value.int Go.IntKind.i64 6))) none, type := 9, pos := "ref.go:22", after := #[{ on := 0, ground := Go.Ground.data }], guard := none }) (v := ?v2) rfl (by kernel_rfl) (by kernel_rfl) (by kernel_rfl) (fun _ _ _ h => h) (Or.inl ⟨by rfl, ?hy2⟩) (by assumption) ?rest2
    case hy2 => (intro w hSw; (try dsimp only at hSw); go_simp <;> with_reducible rfl)
    try simp only [Act.put, List.setIfInBounds_toArray, List.set_cons_zero, List.set_cons_succ]
    refine wpAnyH_take (i := 2) (oi := { dst := some 26, op := Go.Op.move (Go.Operand.tmp 0), type := 9, pos := "ref.go:22", after := #[], guard := none }) (v := ?v3) rfl (by kernel_rfl) (by kernel_rfl) (by kernel_rfl) (fun _ _ _ h => h) (Or.inl ⟨by rfl, ?hy3⟩) (by assumption) ?rest3
    case hy3 => (intro w hSw; (try dsimp only at hSw); go_simp <;> with_reducible rfl)
    try simp only [Act.put, List.setIfInBounds_toArray, List.set_cons_zero, List.set_cons_succ]
    refine wpAnyH_take (i := 3) (oi := { dst := some 27, op := Go.Op.slice 9 (Go.Operand.tmp 26) (some (Go.Operand.const (Go.Value.int Go.IntKind.i64 6))) (some (Go.Operand.const (Go.Value.int Go.IntKind.i64 12))) none, type := 9, pos := "ref.go:22", after := #[{ on := 2, ground := Go.Ground.data }], guard := none }) (v := ?v4) rfl (by kernel_rfl) (by kernel_rfl) (by kernel_rfl) (fun _ _ _ h => h) (Or.inl ⟨by rfl, ?hy4⟩) (by assumption) ?rest4
    case hy4 => (intro w hSw; (try dsimp only at hSw); go_simp <;> with_reducible rfl)
    try simp only [Act.put, List.setIfInBounds_toArray, List.set_cons_zero, List.set_cons_succ]
    refine wpAnyH_take (i := 4) (oi := { dst := some 28, op := Go.Op.build 80 #[(0, Go.Operand.tmp 25), (1, Go.Operand.tmp 27), (2, Go.Operand.const (Go.Value.int Go.IntKind.i64 (-1)))], type := 80, pos := "ref.go:22", after := #[{ on := 1, ground := Go.Ground.data }, { on := 3, ground := Go.Ground.data }], guard := none }) (v := ?v5) rfl (by kernel_rfl) (by kernel_rfl) (by kernel_rfl) (fun _ _ _ h => h) (Or.inl ⟨by rfl, ?hy5⟩) (by assumption) ?rest5
    case hy5 => (intro w hSw; (try dsimp only at hSw); go_simp <;> with_reducible rfl)
    try simp only [Act.put, List.setIfInBounds_toArray, List.set_cons_zero, List.set_cons_succ]
    refine wpAnyH_ready (rs := [5]) (by kernel_rfl) (by simp) ?_
    refine AllReadyH.cons (o := { dst := some 4, op := Go.Op.alloc 80, type := 0, pos := "ref.go:22", after := #[], guard := none }) rfl (fun K hK => ?_) AllReadyH.nil
    go_simp
    have hx : Ex (fun _ => False) wd (wd.alloc (.cells #[.string ⟨#[]⟩, .string ⟨#[]⟩, .int .i64 0, .int .u32 0, .string ⟨#[]⟩] 80)) := (Ex.refl _ wd).alloc _
    have hb : (wd.alloc (.cells #[.string ⟨#[]⟩, .string ⟨#[]⟩, .int .i64 0, .int .u32 0, .string ⟨#[]⟩] 80)).heap[wd.heap.size]? = some (.cells #[.string ⟨#[]⟩, .string ⟨#[]⟩, .int .i64 0, .int .u32 0, .string ⟨#[]⟩] 80) := heap_alloc_new wd _
    obtain ⟨pb, hpb⟩ : ∃ pb, pb = wd.heap.size := ⟨_, rfl⟩
    have hb_pb : wd.heap.size ≤ pb := by omega
    rw [← hpb] at hb
    try simp only [← hpb]
    generalize wd.alloc (.cells #[.string ⟨#[]⟩, .string ⟨#[]⟩, .int .i64 0, .int .u32 0, .string ⟨#[]⟩] 80) = we at hx hb ⊢
    clear hpb
    have HX_we := Lib.hid hx
    clear hx
    have B_pb := Lib.hid hb
    clear hb
    have hS : Ex (fun _ => False) w1 we := (HX_wd.out.trans HX_we.out)
    refine hK.out _ _ hS (fun _ => ?_)
    refine wpAnyH_ready (rs := [6]) (by kernel_rfl) (by simp) ?_
    refine AllReadyH.cons (o := { dst := none, op := Go.Op.store 80 (Go.Operand.tmp 4) (Go.Operand.tmp 28), type := 0, pos := "ref.go:22", after := #[{ on := 5, ground := Go.Ground.data }, { on := 4, ground := Go.Ground.data }, { on := 0, ground := Go.Ground.phase }, { on := 1, ground := Go.Ground.phase }, { on := 2, ground := Go.Ground.phase }, { on := 3, ground := Go.Ground.phase }, { on := 4, ground := Go.Ground.phase }, { on := 5, ground := Go.Ground.phase }], guard := none }) rfl (fun K hK => ?_) AllReadyH.nil
    have cpb0 := row_cell (k := 0) (v := .string ⟨#[]⟩) B_pb.out rfl
    have cpb1 := row_cell (k := 1) (v := .string ⟨#[]⟩) B_pb.out rfl
    have cpb2 := row_cell (k := 2) (v := .int .i64 0) B_pb.out rfl
    have cpb3 := row_cell (k := 3) (v := .int .u32 0) B_pb.out rfl
    have cpb4 := row_cell (k := 4) (v := .string ⟨#[]⟩) B_pb.out rfl
    have fpb0 := row_frozen B_pb.out 0
    have fpb1 := row_frozen B_pb.out 1
    have fpb2 := row_frozen B_pb.out 2
    have fpb3 := row_frozen B_pb.out 3
    have fpb4 := row_frozen B_pb.out 4
    go_simp
    have r0 : (we.setCell ⟨pb, 0, none⟩ (.string (bs d))).heap[pb]? = some (.cells #[.string (bs d), .string ⟨#[]⟩, .int .i64 0, .int .u32 0, .string ⟨#[]⟩] 80) := row_set B_pb.out 0 (.string (bs d))
    have r1 : ((we.setCell ⟨pb, 0, none⟩ (.string (bs d))).setCell ⟨pb, 1, none⟩ (.string (bs s))).heap[pb]? = some (.cells #[.string (bs d), .string (bs s), .int .i64 0, .int .u32 0, .string ⟨#[]⟩] 80) := row_set r0 1 (.string (bs s))
    clear r0
    have r2 : (((we.setCell ⟨pb, 0, none⟩ (.string (bs d))).setCell ⟨pb, 1, none⟩ (.string (bs s))).setCell ⟨pb, 2, none⟩ (.int .i64 (-1))).heap[pb]? = some (.cells #[.string (bs d), .string (bs s), .int .i64 (-1), .int .u32 0, .string ⟨#[]⟩] 80) := row_set r1 2 (.int .i64 (-1))
    clear r1
    have r3 : ((((we.setCell ⟨pb, 0, none⟩ (.string (bs d))).setCell ⟨pb, 1, none⟩ (.string (bs s))).setCell ⟨pb, 2, none⟩ (.int .i64 (-1))).setCell ⟨pb, 3, none⟩ (.int .u32 0)).heap[pb]? = some (.cells #[.string (bs d), .string (bs s), .int .i64 (-1), .int .u32 0, .string ⟨#[]⟩] 80) := row_set r2 3 (.int .u32 0)
    clear r2
    have r4 : (((((we.setCell ⟨pb, 0, none⟩ (.string (bs d))).setCell ⟨pb, 1, none⟩ (.string (bs s))).setCell ⟨pb, 2, none⟩ (.int .i64 (-1))).setCell ⟨pb, 3, none⟩ (.int .u32 0)).setCell ⟨pb, 4, none⟩ (.string ⟨#[]⟩)).heap[pb]? = some (.cells #[.string (bs d), .string (bs s), .int .i64 (-1), .int .u32 0, .string ⟨#[]⟩] 80) := row_set r3 4 (.string ⟨#[]⟩)
    clear r3
    have hx : Ex (fun j => j = pb) we (((((we.setCell ⟨pb, 0, none⟩ (.string (bs d))).setCell ⟨pb, 1, none⟩ (.string (bs s))).setCell ⟨pb, 2, none⟩ (.int .i64 (-1))).setCell ⟨pb, 3, none⟩ (.int .u32 0)).setCell ⟨pb, 4, none⟩ (.string ⟨#[]⟩)) := ((((((Ex.refl (fun j => j = pb) we).setCell (p := ⟨pb, 0, none⟩) (.inl rfl) (.string (bs d))).setCell (p := ⟨pb, 1, none⟩) (.inl rfl) (.string (bs s))).setCell (p := ⟨pb, 2, none⟩) (.inl rfl) (.int .i64 (-1))).setCell (p := ⟨pb, 3, none⟩) (.inl rfl) (.int .u32 0)).setCell (p := ⟨pb, 4, none⟩) (.inl rfl) (.string ⟨#[]⟩))
    clear cpb0 cpb1 cpb2 cpb3 cpb4 fpb0 fpb1 fpb2 fpb3 fpb4
    generalize (((((we.setCell ⟨pb, 0, none⟩ (.string (bs d))).setCell ⟨pb, 1, none⟩ (.string (bs s))).setCell ⟨pb, 2, none⟩ (.int .i64 (-1))).setCell ⟨pb, 3, none⟩ (.int .u32 0)).setCell ⟨pb, 4, none⟩ (.string ⟨#[]⟩)) = wf at r4 hx ⊢
    replace B_pb := Lib.hid r4
    clear r4
    have HX_wf := Lib.hid hx
    clear hx
    have hS : Ex (fun _ => False) w1 wf := ((HX_wd.out.trans HX_we.out).andThen HX_wf.out (fun i hi e => by have := HX_wd.out.size; have := hb_pb; omega))
    refine hK.out _ _ hS (fun _ => ?_)
    refine wpAnyH_done (by kernel_rfl) ?_ _
    go_wp2_with fail
    go_meet
    exact ⟨pb, (by have := HX_wd.out.size; omega), rfl, Lib.hid B_pb.out, Lib.hid ((HX_wd.out.trans HX_we.out).andThen HX_wf.out (fun i hi e => by have := HX_wd.out.size; have := hb_pb; omega))⟩
  case rest =>
    obtain ⟨pb, hb_pb, rfl, B_pb, hx⟩ := hcut
    have hx := hx.out
    clear q1 q2 q3
    have HX_wc := Lib.hid hx
    clear hx
    have ne_rb_pb : rb ≠ pb := by have := row_lt B_rb.out; omega
    go_wp2_with fail
    refine (rnum_any [a, b] (by simp) _).mono ?_
    rintro e9 _ ⟨rfl, rfl⟩
    rw [← HTY.out]
    have fpb3 := row_frozen B_pb.out 3
    have cpb3 := row_cell (k := 3) (v := .int .u32 0) B_pb.out rfl
    go_upto_region 11 with fail
    have hb : (wc.setCell ⟨pb, 3, none⟩ (.int .u32 (ty : Int))).heap[pb]? = some (.cells #[.string (bs d), .string (bs s), .int .i64 (-1), .int .u32 (ty : Int), .string ⟨#[]⟩] 80) := (row_set B_pb.out 3 (.int .u32 (ty : Int)))
    have hx : Ex (fun j => j = pb) wc (wc.setCell ⟨pb, 3, none⟩ (.int .u32 (ty : Int))) := ((Ex.refl (fun j => j = pb) wc).setCell (p := ⟨pb, 3, none⟩) (.inl rfl) (.int .u32 (ty : Int)))
    clear fpb3 cpb3
    generalize (wc.setCell ⟨pb, 3, none⟩ (.int .u32 (ty : Int))) = wt at hx hb ⊢
    clear B_pb
    have HX_wt := Lib.hid hx
    clear hx
    have B_pb := Lib.hid hb
    clear hb
    have fpb4 := row_frozen B_pb.out 4
    have cpb4 := row_cell (k := 4) (v := .string ⟨#[]⟩) B_pb.out rfl
    go_upto_region 12 with fail
    have hb : (wt.setCell ⟨pb, 4, none⟩ (.string (bs r))).heap[pb]? = some (.cells #[.string (bs d), .string (bs s), .int .i64 (-1), .int .u32 (ty : Int), .string (bs r)] 80) := (row_set B_pb.out 4 (.string (bs r)))
    have hx : Ex (fun j => j = pb) wt (wt.setCell ⟨pb, 4, none⟩ (.string (bs r))) := ((Ex.refl (fun j => j = pb) wt).setCell (p := ⟨pb, 4, none⟩) (.inl rfl) (.string (bs r)))
    clear fpb4 cpb4
    generalize (wt.setCell ⟨pb, 4, none⟩ (.string (bs r))) = wb at hx hb ⊢
    clear B_pb
    have HX_wb := Lib.hid hx
    clear hx
    have B_pb := Lib.hid hb
    clear hb
    replace B_rb := Lib.hid ((((HX_wc.out.andThen HX_wt.out (fun i hi e => by have := hb_pb; omega)).andThen HX_wb.out (fun i hi e => by have := hb_pb; omega)).block rb (row_lt B_rb.out) id).trans B_rb.out)
    have cpb0 := row_cell (k := 0) (v := .string (bs d)) B_pb.out rfl
    have cpb1 := row_cell (k := 1) (v := .string (bs s)) B_pb.out rfl
    have cpb2 := row_cell (k := 2) (v := .int .i64 (-1)) B_pb.out rfl
    have cpb3 := row_cell (k := 3) (v := .int .u32 (ty : Int)) B_pb.out rfl
    have cpb4 := row_cell (k := 4) (v := .string (bs r)) B_pb.out rfl
    have crb0 := row_cell (k := 0) (v := .string ⟨#[]⟩) B_rb.out rfl
    have crb1 := row_cell (k := 1) (v := .string ⟨#[]⟩) B_rb.out rfl
    have crb2 := row_cell (k := 2) (v := .int .i64 0) B_rb.out rfl
    have crb3 := row_cell (k := 3) (v := .int .u32 0) B_rb.out rfl
    have crb4 := row_cell (k := 4) (v := .string ⟨#[]⟩) B_rb.out rfl
    have frb0 := row_frozen B_rb.out 0
    have frb1 := row_frozen B_rb.out 1
    have frb2 := row_frozen B_rb.out 2
    have frb3 := row_frozen B_rb.out 3
    have frb4 := row_frozen B_rb.out 4
    go_wp2_with fail
    (try simp only [Exit.inBlock, Exit.then])
    have r0 : (wb.setCell ⟨rb, 0, none⟩ (.string (bs d))).heap[rb]? = some (.cells #[.string (bs d), .string ⟨#[]⟩, .int .i64 0, .int .u32 0, .string ⟨#[]⟩] 80) := row_set B_rb.out 0 (.string (bs d))
    have r1 : ((wb.setCell ⟨rb, 0, none⟩ (.string (bs d))).setCell ⟨rb, 1, none⟩ (.string (bs s))).heap[rb]? = some (.cells #[.string (bs d), .string (bs s), .int .i64 0, .int .u32 0, .string ⟨#[]⟩] 80) := row_set r0 1 (.string (bs s))
    clear r0
    have r2 : (((wb.setCell ⟨rb, 0, none⟩ (.string (bs d))).setCell ⟨rb, 1, none⟩ (.string (bs s))).setCell ⟨rb, 2, none⟩ (.int .i64 (-1))).heap[rb]? = some (.cells #[.string (bs d), .string (bs s), .int .i64 (-1), .int .u32 0, .string ⟨#[]⟩] 80) := row_set r1 2 (.int .i64 (-1))
    clear r1
    have r3 : ((((wb.setCell ⟨rb, 0, none⟩ (.string (bs d))).setCell ⟨rb, 1, none⟩ (.string (bs s))).setCell ⟨rb, 2, none⟩ (.int .i64 (-1))).setCell ⟨rb, 3, none⟩ (.int .u32 (ty : Int))).heap[rb]? = some (.cells #[.string (bs d), .string (bs s), .int .i64 (-1), .int .u32 (ty : Int), .string ⟨#[]⟩] 80) := row_set r2 3 (.int .u32 (ty : Int))
    clear r2
    have r4 : (((((wb.setCell ⟨rb, 0, none⟩ (.string (bs d))).setCell ⟨rb, 1, none⟩ (.string (bs s))).setCell ⟨rb, 2, none⟩ (.int .i64 (-1))).setCell ⟨rb, 3, none⟩ (.int .u32 (ty : Int))).setCell ⟨rb, 4, none⟩ (.string (bs r))).heap[rb]? = some (.cells #[.string (bs d), .string (bs s), .int .i64 (-1), .int .u32 (ty : Int), .string (bs r)] 80) := row_set r3 4 (.string (bs r))
    clear r3
    have hx : Ex (fun j => j = rb) wb (((((wb.setCell ⟨rb, 0, none⟩ (.string (bs d))).setCell ⟨rb, 1, none⟩ (.string (bs s))).setCell ⟨rb, 2, none⟩ (.int .i64 (-1))).setCell ⟨rb, 3, none⟩ (.int .u32 (ty : Int))).setCell ⟨rb, 4, none⟩ (.string (bs r))) := ((((((Ex.refl (fun j => j = rb) wb).setCell (p := ⟨rb, 0, none⟩) (.inl rfl) (.string (bs d))).setCell (p := ⟨rb, 1, none⟩) (.inl rfl) (.string (bs s))).setCell (p := ⟨rb, 2, none⟩) (.inl rfl) (.int .i64 (-1))).setCell (p := ⟨rb, 3, none⟩) (.inl rfl) (.int .u32 (ty : Int))).setCell (p := ⟨rb, 4, none⟩) (.inl rfl) (.string (bs r)))
    clear crb0 crb1 crb2 crb3 crb4 frb0 frb1 frb2 frb3 frb4
    generalize (((((wb.setCell ⟨rb, 0, none⟩ (.string (bs d))).setCell ⟨rb, 1, none⟩ (.string (bs s))).setCell ⟨rb, 2, none⟩ (.int .i64 (-1))).setCell ⟨rb, 3, none⟩ (.int .u32 (ty : Int))).setCell ⟨rb, 4, none⟩ (.string (bs r))) = wz at r4 hx ⊢
    replace B_rb := Lib.hid r4
    clear r4
    have HX_wz := Lib.hid hx
    clear hx
    refine bodyPost_ret (v := .tuple #[.agg #[.string (bs d), .string (bs s), .int .i64 (-1), .int .u32 (ty : Int), .string (bs r)], .string ⟨#[]⟩]) ?_ rfl ⟨rfl, ((((HX_w1.out.trans HX_wc.out).andThen HX_wt.out (fun i hi e => by have := HX_w1.out.size; have := hb_pb; omega)).andThen HX_wb.out (fun i hi e => by have := HX_w1.out.size; have := hb_pb; omega)).andThen HX_wz.out (fun i hi e => by have := hb_rb; omega))⟩
    exact results_cell_row2 (p := 2) (u := 3) rfl _ _ rb 80 #[.string (bs d), .string (bs s), .int .i64 (-1), .int .u32 (ty : Int), .string (bs r)] (0, 0) _ _ rfl rfl B_rb.out Tryd.underlying80 rfl rf_size
set_option maxRecDepth 100000 in
set_option maxHeartbeats 4000000 in
theorem rp3_tag (l : List UInt8) (d s : List UInt8) (a b : UInt8) (r : List UInt8) (c k f g : UInt8) (r2 : List UInt8) (w : World) (hl : l = d ++ (s ++ a :: b :: r)) (hd : d.length = 6) (hs : s.length = 6) (hr2 : r = c :: k :: f :: g :: r2) (ht : nb [a, b] = 33024) (h9 : l.length ≤ 9000) :
    Calls Tryd.prog 35 #[.string (bs l)] w fun e w' => e = .returned (.tuple #[rfv ⟨d, s, (nb [c, k] : Int), nb [f, g], r2⟩, .string ⟨#[]⟩]) ∧ Ex (fun _ => False) w w' := by
  have hz := bs_size l
  obtain ⟨n, hn⟩ : ∃ n, n = l.length := ⟨_, rfl⟩
  rw [← hn] at hz
  have hln : n = 14 + r.length := by rw [hn, hl]; simp [hd, hs]; omega
  have q3 : (bs l).extract 12 14 = bs [a, b] := by
    rw [dbs_sub l 12 14 (by omega), hl, List.take_append, List.take_of_length_le (by omega), hd, List.take_append, List.take_of_length_le (by omega), hs, ← List.append_assoc, List.drop_append, List.drop_of_length_le (by simp; omega), List.nil_append, List.length_append, hd, hs]
    rfl
  have i14 : ¬ (n : Int) < 14 := by omega
  have i14' : (14 : Int) ≤ (n : Int) := by omega
  have i9 : ¬ (9000 : Int) < (n : Int) := by omega
  have q1 : (bs l).extract 0 6 = bs d := by
    rw [dbs_sub l 0 6 (by omega), List.drop_zero, hl, List.take_append, List.take_of_length_le (by omega), hd]; simp
  have q2 : (bs l).extract 6 12 = bs s := by
    rw [dbs_sub l 6 12 (by omega), hl, List.take_append, List.take_of_length_le (by omega), hd, List.drop_append, List.drop_of_length_le (by omega), List.nil_append, hd, List.take_append, List.take_of_length_le (by omega), hs]
    simp
  obtain ⟨R, hR⟩ : ∃ R, R = a :: b :: r := ⟨_, rfl⟩
  have q4 : (bs l).extract 12 n = bs R := by
    rw [hn, dbs_sub l 12 l.length (by omega), List.take_length, hl, ← List.append_assoc, List.drop_append, List.drop_of_length_le (by simp; omega), List.length_append, hd, hs, hR]
    rfl
  obtain ⟨nR, hnR⟩ : ∃ n, n = R.length := ⟨_, rfl⟩
  have zR : (bs R).size = nR := by rw [bs_size, hnR]
  have hlR : nR = 2 + r.length := by rw [hnR, hR]; simp; omega
  have q5 : (bs R).extract 0 2 = bs [a, b] := by rw [dbs_sub R 0 2 (by omega), hR]; rfl
  have i6 : (6 : Int) ≤ (n : Int) := by omega
  have i12 : (12 : Int) ≤ (n : Int) := by omega
  have iR : (2 : Int) ≤ (nR : Int) := by omega
  have htl2 : ((bs [a, b]).toList == [129, 0]) = true := by rw [tag_lit, decide_eq_true ht]
  have hrv : rfv ⟨d, s, (nb [c, k] : Int), nb [f, g], r2⟩ = .agg #[.string (bs d), .string (bs s), .int .i64 (nb [c, k] : Int), .int .u32 (nb [f, g] : Int), .string (bs r2)] := rfl
  rw [hrv]
  obtain ⟨ty, hty⟩ : ∃ t, t = nb [f, g] := ⟨_, rfl⟩
  rw [← hty]
  obtain ⟨vl, hvl⟩ : ∃ t, t = nb [c, k] := ⟨_, rfl⟩
  rw [← hvl]
  have hvb : vl < 65536 := by rw [hvl]; exact nb2_lt c k
  have i18 : ¬ (n : Int) < 18 := by have h := hln; rw [hr2] at h; simp at h; omega
  have iR4 : (4 : Int) ≤ (nR : Int) := by have h := hlR; rw [hr2] at h; simp at h; omega
  have q7 : (bs R).extract 2 4 = bs [c, k] := by rw [dbs_sub R 2 4 (by omega), hR, hr2]; rfl
  obtain ⟨R2, hR2⟩ : ∃ R, R = f :: g :: r2 := ⟨_, rfl⟩
  have q8 : (bs R).extract 4 nR = bs R2 := by rw [hnR, dbs_sub R 4 R.length (by omega), List.take_length, hR, hr2, hR2]; rfl
  obtain ⟨nQ, hnQ⟩ : ∃ n, n = R2.length := ⟨_, rfl⟩
  have zQ : (bs R2).size = nQ := by rw [bs_size, hnQ]
  have hlQ : nQ = 2 + r2.length := by rw [hnQ, hR2]; simp; omega
  have iQ : (2 : Int) ≤ (nQ : Int) := by omega
  have q9 : (bs R2).extract 0 2 = bs [f, g] := by rw [dbs_sub R2 0 2 (by omega), hR2]; rfl
  have q10 : (bs R2).extract 2 nQ = bs r2 := by rw [hnQ, dbs_sub R2 2 R2.length (by omega), List.take_length, hR2]; rfl
  obtain ⟨hw1, hw2⟩ := wrap_small vl hvb
  have HVL := Lib.hid hvl
  clear hvl hvb hR2 hnQ hlQ
  have HTY := Lib.hid hty
  clear hl hn hln hd hs ht hR hnR hlR hty hrv hr2
  clear h9
  go_enter Tryd.func35, Tryd.ntmps35
  go_upto_region 1 with fail
  have hx : Ex (fun _ => False) w (w.alloc (.cells #[.string ⟨#[]⟩, .string ⟨#[]⟩, .int .i64 0, .int .u32 0, .string ⟨#[]⟩] 80)) := (Ex.refl _ w).alloc _
  have hb : (w.alloc (.cells #[.string ⟨#[]⟩, .string ⟨#[]⟩, .int .i64 0, .int .u32 0, .string ⟨#[]⟩] 80)).heap[w.heap.size]? = some (.cells #[.string ⟨#[]⟩, .string ⟨#[]⟩, .int .i64 0, .int .u32 0, .string ⟨#[]⟩] 80) := heap_alloc_new w _
  obtain ⟨rb, hrb⟩ : ∃ rb, rb = w.heap.size := ⟨_, rfl⟩
  have hb_rb : w.heap.size ≤ rb := by omega
  rw [← hrb] at hb
  try simp only [← hrb]
  generalize w.alloc (.cells #[.string ⟨#[]⟩, .string ⟨#[]⟩, .int .i64 0, .int .u32 0, .string ⟨#[]⟩] 80) = w1 at hx hb ⊢
  clear hrb
  have HX_w1 := Lib.hid hx
  clear hx
  have B_rb := Lib.hid hb
  clear hb
  go_upto_region 5 with fail
  go_cut [4] (fun x wx => ∃ pb : Nat, w1.heap.size ≤ pb ∧ x = .pointer (some ⟨pb, 0, none⟩) ∧ Hid (wx.heap[pb]? = some (.cells #[.string (bs d), .string (bs s), .int .i64 (-1), .int .u32 0, .string ⟨#[]⟩] 80)) ∧ Hid (Ex (fun _ => False) w1 wx))
  case first =>
    have hS0 : Ex (fun _ => False) w1 w1.drew := (Ex.refl _ w1).drew
    refine wp_region_held_drew (S := fun W => Ex (fun _ => False) w1 W) (by kernel_rfl) hS0 (fun _ => ?_)
    generalize w1.drew = wd at hS0 ⊢
    have HX_wd := Lib.hid hS0
    have hS := hS0
    clear hS0
    refine wpAnyH_take (i := 0) (oi := { dst := some 24, op := Go.Op.move (Go.Operand.tmp 0), type := 9, pos := "ref.go:22", after := #[], guard := none }) (v := ?v6) rfl (by kernel_rfl) (by kernel_rfl) (by kernel_rfl) (fun _ _ _ h => h) (Or.inl ⟨by rfl, ?hy6⟩) (by assumption) ?rest6
    case hy6 => (intro w hSw; (try dsimp only at hSw); go_simp <;> with_reducible rfl)
    try simp only [Act.put, List.setIfInBounds_toArray, List.set_cons_zero, List.set_cons_succ]
    refine wpAnyH_take (i := 1) (oi := { dst := some 25, op := Go.Op.slice 9 (Go.Operand.tmp 24) none (some (Go.Operand.const (Go.Value.int Go.IntKind.i64 6))) none, type := 9, pos := "ref.go:22", after := #[{ on := 0, ground := Go.Ground.data }], guard := none }) (v := ?v7) rfl (by kernel_rfl) (by kernel_rfl) (by kernel_rfl) (fun _ _ _ h => h) (Or.inl ⟨by rfl, ?hy7⟩) (by assumption) ?rest7
    case hy7 => (intro w hSw; (try dsimp only at hSw); go_simp <;> with_reducible rfl)
    try simp only [Act.put, List.setIfInBounds_toArray, List.set_cons_zero, List.set_cons_succ]
    refine wpAnyH_take (i := 2) (oi := { dst := some 26, op := Go.Op.move (Go.Operand.tmp 0), type := 9, pos := "ref.go:22", after := #[], guard := none }) (v := ?v8) rfl (by kernel_rfl) (by kernel_rfl) (by kernel_rfl) (fun _ _ _ h => h) (Or.inl ⟨by rfl, ?hy8⟩) (by assumption) ?rest8
    case hy8 => (intro w hSw; (try dsimp only at hSw); go_simp <;> with_reducible rfl)
    try simp only [Act.put, List.setIfInBounds_toArray, List.set_cons_zero, List.set_cons_succ]
    refine wpAnyH_take (i := 3) (oi := { dst := some 27, op := Go.Op.slice 9 (Go.Operand.tmp 26) (some (Go.Operand.const (Go.Value.int Go.IntKind.i64 6))) (some (Go.Operand.const (Go.Value.int Go.IntKind.i64 12))) none, type := 9, pos := "ref.go:22", after := #[{ on := 2, ground := Go.Ground.data }], guard := none }) (v := ?v9) rfl (by kernel_rfl) (by kernel_rfl) (by kernel_rfl) (fun _ _ _ h => h) (Or.inl ⟨by rfl, ?hy9⟩) (by assumption) ?rest9
    case hy9 => (intro w hSw; (try dsimp only at hSw); go_simp <;> with_reducible rfl)
    try simp only [Act.put, List.setIfInBounds_toArray, List.set_cons_zero, List.set_cons_succ]
    refine wpAnyH_take (i := 4) (oi := { dst := some 28, op := Go.Op.build 80 #[(0, Go.Operand.tmp 25), (1, Go.Operand.tmp 27), (2, Go.Operand.const (Go.Value.int Go.IntKind.i64 (-1)))], type := 80, pos := "ref.go:22", after := #[{ on := 1, ground := Go.Ground.data }, { on := 3, ground := Go.Ground.data }], guard := none }) (v := ?v10) rfl (by kernel_rfl) (by kernel_rfl) (by kernel_rfl) (fun _ _ _ h => h) (Or.inl ⟨by rfl, ?hy10⟩) (by assumption) ?rest10
    case hy10 => (intro w hSw; (try dsimp only at hSw); go_simp <;> with_reducible rfl)
    try simp only [Act.put, List.setIfInBounds_toArray, List.set_cons_zero, List.set_cons_succ]
    refine wpAnyH_ready (rs := [5]) (by kernel_rfl) (by simp) ?_
    refine AllReadyH.cons (o := { dst := some 4, op := Go.Op.alloc 80, type := 0, pos := "ref.go:22", after := #[], guard := none }) rfl (fun K hK => ?_) AllReadyH.nil
    go_simp
    have hx : Ex (fun _ => False) wd (wd.alloc (.cells #[.string ⟨#[]⟩, .string ⟨#[]⟩, .int .i64 0, .int .u32 0, .string ⟨#[]⟩] 80)) := (Ex.refl _ wd).alloc _
    have hb : (wd.alloc (.cells #[.string ⟨#[]⟩, .string ⟨#[]⟩, .int .i64 0, .int .u32 0, .string ⟨#[]⟩] 80)).heap[wd.heap.size]? = some (.cells #[.string ⟨#[]⟩, .string ⟨#[]⟩, .int .i64 0, .int .u32 0, .string ⟨#[]⟩] 80) := heap_alloc_new wd _
    obtain ⟨pb, hpb⟩ : ∃ pb, pb = wd.heap.size := ⟨_, rfl⟩
    have hb_pb : wd.heap.size ≤ pb := by omega
    rw [← hpb] at hb
    try simp only [← hpb]
    generalize wd.alloc (.cells #[.string ⟨#[]⟩, .string ⟨#[]⟩, .int .i64 0, .int .u32 0, .string ⟨#[]⟩] 80) = we at hx hb ⊢
    clear hpb
    have HX_we := Lib.hid hx
    clear hx
    have B_pb := Lib.hid hb
    clear hb
    have hS : Ex (fun _ => False) w1 we := (HX_wd.out.trans HX_we.out)
    refine hK.out _ _ hS (fun _ => ?_)
    refine wpAnyH_ready (rs := [6]) (by kernel_rfl) (by simp) ?_
    refine AllReadyH.cons (o := { dst := none, op := Go.Op.store 80 (Go.Operand.tmp 4) (Go.Operand.tmp 28), type := 0, pos := "ref.go:22", after := #[{ on := 5, ground := Go.Ground.data }, { on := 4, ground := Go.Ground.data }, { on := 0, ground := Go.Ground.phase }, { on := 1, ground := Go.Ground.phase }, { on := 2, ground := Go.Ground.phase }, { on := 3, ground := Go.Ground.phase }, { on := 4, ground := Go.Ground.phase }, { on := 5, ground := Go.Ground.phase }], guard := none }) rfl (fun K hK => ?_) AllReadyH.nil
    have cpb0 := row_cell (k := 0) (v := .string ⟨#[]⟩) B_pb.out rfl
    have cpb1 := row_cell (k := 1) (v := .string ⟨#[]⟩) B_pb.out rfl
    have cpb2 := row_cell (k := 2) (v := .int .i64 0) B_pb.out rfl
    have cpb3 := row_cell (k := 3) (v := .int .u32 0) B_pb.out rfl
    have cpb4 := row_cell (k := 4) (v := .string ⟨#[]⟩) B_pb.out rfl
    have fpb0 := row_frozen B_pb.out 0
    have fpb1 := row_frozen B_pb.out 1
    have fpb2 := row_frozen B_pb.out 2
    have fpb3 := row_frozen B_pb.out 3
    have fpb4 := row_frozen B_pb.out 4
    go_simp
    have r0 : (we.setCell ⟨pb, 0, none⟩ (.string (bs d))).heap[pb]? = some (.cells #[.string (bs d), .string ⟨#[]⟩, .int .i64 0, .int .u32 0, .string ⟨#[]⟩] 80) := row_set B_pb.out 0 (.string (bs d))
    have r1 : ((we.setCell ⟨pb, 0, none⟩ (.string (bs d))).setCell ⟨pb, 1, none⟩ (.string (bs s))).heap[pb]? = some (.cells #[.string (bs d), .string (bs s), .int .i64 0, .int .u32 0, .string ⟨#[]⟩] 80) := row_set r0 1 (.string (bs s))
    clear r0
    have r2 : (((we.setCell ⟨pb, 0, none⟩ (.string (bs d))).setCell ⟨pb, 1, none⟩ (.string (bs s))).setCell ⟨pb, 2, none⟩ (.int .i64 (-1))).heap[pb]? = some (.cells #[.string (bs d), .string (bs s), .int .i64 (-1), .int .u32 0, .string ⟨#[]⟩] 80) := row_set r1 2 (.int .i64 (-1))
    clear r1
    have r3 : ((((we.setCell ⟨pb, 0, none⟩ (.string (bs d))).setCell ⟨pb, 1, none⟩ (.string (bs s))).setCell ⟨pb, 2, none⟩ (.int .i64 (-1))).setCell ⟨pb, 3, none⟩ (.int .u32 0)).heap[pb]? = some (.cells #[.string (bs d), .string (bs s), .int .i64 (-1), .int .u32 0, .string ⟨#[]⟩] 80) := row_set r2 3 (.int .u32 0)
    clear r2
    have r4 : (((((we.setCell ⟨pb, 0, none⟩ (.string (bs d))).setCell ⟨pb, 1, none⟩ (.string (bs s))).setCell ⟨pb, 2, none⟩ (.int .i64 (-1))).setCell ⟨pb, 3, none⟩ (.int .u32 0)).setCell ⟨pb, 4, none⟩ (.string ⟨#[]⟩)).heap[pb]? = some (.cells #[.string (bs d), .string (bs s), .int .i64 (-1), .int .u32 0, .string ⟨#[]⟩] 80) := row_set r3 4 (.string ⟨#[]⟩)
    clear r3
    have hx : Ex (fun j => j = pb) we (((((we.setCell ⟨pb, 0, none⟩ (.string (bs d))).setCell ⟨pb, 1, none⟩ (.string (bs s))).setCell ⟨pb, 2, none⟩ (.int .i64 (-1))).setCell ⟨pb, 3, none⟩ (.int .u32 0)).setCell ⟨pb, 4, none⟩ (.string ⟨#[]⟩)) := ((((((Ex.refl (fun j => j = pb) we).setCell (p := ⟨pb, 0, none⟩) (.inl rfl) (.string (bs d))).setCell (p := ⟨pb, 1, none⟩) (.inl rfl) (.string (bs s))).setCell (p := ⟨pb, 2, none⟩) (.inl rfl) (.int .i64 (-1))).setCell (p := ⟨pb, 3, none⟩) (.inl rfl) (.int .u32 0)).setCell (p := ⟨pb, 4, none⟩) (.inl rfl) (.string ⟨#[]⟩))
    clear cpb0 cpb1 cpb2 cpb3 cpb4 fpb0 fpb1 fpb2 fpb3 fpb4
    generalize (((((we.setCell ⟨pb, 0, none⟩ (.string (bs d))).setCell ⟨pb, 1, none⟩ (.string (bs s))).setCell ⟨pb, 2, none⟩ (.int .i64 (-1))).setCell ⟨pb, 3, none⟩ (.int .u32 0)).setCell ⟨pb, 4, none⟩ (.string ⟨#[]⟩)) = wf at r4 hx ⊢
    replace B_pb := Lib.hid r4
    clear r4
    have HX_wf := Lib.hid hx
    clear hx
    have hS : Ex (fun _ => False) w1 wf := ((HX_wd.out.trans HX_we.out).andThen HX_wf.out (fun i hi e => by have := HX_wd.out.size; have := hb_pb; omega))
    refine hK.out _ _ hS (fun _ => ?_)
    refine wpAnyH_done (by kernel_rfl) ?_ _
    go_wp2_with fail
    go_meet
    exact ⟨pb, (by have := HX_wd.out.size; omega), rfl, Lib.hid B_pb.out, Lib.hid ((HX_wd.out.trans HX_we.out).andThen HX_wf.out (fun i hi e => by have := HX_wd.out.size; have := hb_pb; omega))⟩
  case rest =>
    obtain ⟨pb, hb_pb, rfl, B_pb, hx⟩ := hcut
    have hx := hx.out
    clear q1 q2 q3
    have HX_wc := Lib.hid hx
    clear hx
    have ne_rb_pb : rb ≠ pb := by have := row_lt B_rb.out; omega
    go_wp2_with fail
    refine (rnum_any [c, k] (by simp) _).mono ?_
    rintro e9 _ ⟨rfl, rfl⟩
    rw [← HVL.out]
    have fpb2 := row_frozen B_pb.out 2
    have cpb2 := row_cell (k := 2) (v := .int .i64 (-1)) B_pb.out rfl
    go_upto_region 9 with fail
    have hb : (wc.setCell ⟨pb, 2, none⟩ (.int .i64 (vl : Int))).heap[pb]? = some (.cells #[.string (bs d), .string (bs s), .int .i64 (vl : Int), .int .u32 0, .string ⟨#[]⟩] 80) := (row_set B_pb.out 2 (.int .i64 (vl : Int)))
    have hx : Ex (fun j => j = pb) wc (wc.setCell ⟨pb, 2, none⟩ (.int .i64 (vl : Int))) := ((Ex.refl (fun j => j = pb) wc).setCell (p := ⟨pb, 2, none⟩) (.inl rfl) (.int .i64 (vl : Int)))
    clear fpb2 cpb2
    generalize (wc.setCell ⟨pb, 2, none⟩ (.int .i64 (vl : Int))) = wv at hx hb ⊢
    clear B_pb
    have HX_wv := Lib.hid hx
    clear hx
    have B_pb := Lib.hid hb
    clear hb
    go_wp2_with fail
    refine (rnum_any [f, g] (by simp) _).mono ?_
    rintro e9 _ ⟨rfl, rfl⟩
    rw [← HTY.out]
    have fpb3 := row_frozen B_pb.out 3
    have cpb3 := row_cell (k := 3) (v := .int .u32 0) B_pb.out rfl
    go_upto_region 11 with fail
    have hb : (wv.setCell ⟨pb, 3, none⟩ (.int .u32 (ty : Int))).heap[pb]? = some (.cells #[.string (bs d), .string (bs s), .int .i64 (vl : Int), .int .u32 (ty : Int), .string ⟨#[]⟩] 80) := (row_set B_pb.out 3 (.int .u32 (ty : Int)))
    have hx : Ex (fun j => j = pb) wv (wv.setCell ⟨pb, 3, none⟩ (.int .u32 (ty : Int))) := ((Ex.refl (fun j => j = pb) wv).setCell (p := ⟨pb, 3, none⟩) (.inl rfl) (.int .u32 (ty : Int)))
    clear fpb3 cpb3
    generalize (wv.setCell ⟨pb, 3, none⟩ (.int .u32 (ty : Int))) = wt at hx hb ⊢
    clear B_pb
    have HX_wt := Lib.hid hx
    clear hx
    have B_pb := Lib.hid hb
    clear hb
    have fpb4 := row_frozen B_pb.out 4
    have cpb4 := row_cell (k := 4) (v := .string ⟨#[]⟩) B_pb.out rfl
    go_upto_region 12 with fail
    have hb : (wt.setCell ⟨pb, 4, none⟩ (.string (bs r2))).heap[pb]? = some (.cells #[.string (bs d), .string (bs s), .int .i64 (vl : Int), .int .u32 (ty : Int), .string (bs r2)] 80) := (row_set B_pb.out 4 (.string (bs r2)))
    have hx : Ex (fun j => j = pb) wt (wt.setCell ⟨pb, 4, none⟩ (.string (bs r2))) := ((Ex.refl (fun j => j = pb) wt).setCell (p := ⟨pb, 4, none⟩) (.inl rfl) (.string (bs r2)))
    clear fpb4 cpb4
    generalize (wt.setCell ⟨pb, 4, none⟩ (.string (bs r2))) = wb at hx hb ⊢
    clear B_pb
    have HX_wb := Lib.hid hx
    clear hx
    have B_pb := Lib.hid hb
    clear hb
    replace B_rb := Lib.hid (((((HX_wc.out.andThen HX_wv.out (fun i hi e => by have := hb_pb; omega)).andThen HX_wt.out (fun i hi e => by have := hb_pb; omega)).andThen HX_wb.out (fun i hi e => by have := hb_pb; omega)).block rb (row_lt B_rb.out) id).trans B_rb.out)
    have cpb0 := row_cell (k := 0) (v := .string (bs d)) B_pb.out rfl
    have cpb1 := row_cell (k := 1) (v := .string (bs s)) B_pb.out rfl
    have cpb2 := row_cell (k := 2) (v := .int .i64 (vl : Int)) B_pb.out rfl
    have cpb3 := row_cell (k := 3) (v := .int .u32 (ty : Int)) B_pb.out rfl
    have cpb4 := row_cell (k := 4) (v := .string (bs r2)) B_pb.out rfl
    have crb0 := row_cell (k := 0) (v := .string ⟨#[]⟩) B_rb.out rfl
    have crb1 := row_cell (k := 1) (v := .string ⟨#[]⟩) B_rb.out rfl
    have crb2 := row_cell (k := 2) (v := .int .i64 0) B_rb.out rfl
    have crb3 := row_cell (k := 3) (v := .int .u32 0) B_rb.out rfl
    have crb4 := row_cell (k := 4) (v := .string ⟨#[]⟩) B_rb.out rfl
    have frb0 := row_frozen B_rb.out 0
    have frb1 := row_frozen B_rb.out 1
    have frb2 := row_frozen B_rb.out 2
    have frb3 := row_frozen B_rb.out 3
    have frb4 := row_frozen B_rb.out 4
    go_wp2_with fail
    (try simp only [Exit.inBlock, Exit.then])
    have r0 : (wb.setCell ⟨rb, 0, none⟩ (.string (bs d))).heap[rb]? = some (.cells #[.string (bs d), .string ⟨#[]⟩, .int .i64 0, .int .u32 0, .string ⟨#[]⟩] 80) := row_set B_rb.out 0 (.string (bs d))
    have r1 : ((wb.setCell ⟨rb, 0, none⟩ (.string (bs d))).setCell ⟨rb, 1, none⟩ (.string (bs s))).heap[rb]? = some (.cells #[.string (bs d), .string (bs s), .int .i64 0, .int .u32 0, .string ⟨#[]⟩] 80) := row_set r0 1 (.string (bs s))
    clear r0
    have r2 : (((wb.setCell ⟨rb, 0, none⟩ (.string (bs d))).setCell ⟨rb, 1, none⟩ (.string (bs s))).setCell ⟨rb, 2, none⟩ (.int .i64 (vl : Int))).heap[rb]? = some (.cells #[.string (bs d), .string (bs s), .int .i64 (vl : Int), .int .u32 0, .string ⟨#[]⟩] 80) := row_set r1 2 (.int .i64 (vl : Int))
    clear r1
    have r3 : ((((wb.setCell ⟨rb, 0, none⟩ (.string (bs d))).setCell ⟨rb, 1, none⟩ (.string (bs s))).setCell ⟨rb, 2, none⟩ (.int .i64 (vl : Int))).setCell ⟨rb, 3, none⟩ (.int .u32 (ty : Int))).heap[rb]? = some (.cells #[.string (bs d), .string (bs s), .int .i64 (vl : Int), .int .u32 (ty : Int), .string ⟨#[]⟩] 80) := row_set r2 3 (.int .u32 (ty : Int))
    clear r2
    have r4 : (((((wb.setCell ⟨rb, 0, none⟩ (.string (bs d))).setCell ⟨rb, 1, none⟩ (.string (bs s))).setCell ⟨rb, 2, none⟩ (.int .i64 (vl : Int))).setCell ⟨rb, 3, none⟩ (.int .u32 (ty : Int))).setCell ⟨rb, 4, none⟩ (.string (bs r2))).heap[rb]? = some (.cells #[.string (bs d), .string (bs s), .int .i64 (vl : Int), .int .u32 (ty : Int), .string (bs r2)] 80) := row_set r3 4 (.string (bs r2))
    clear r3
    have hx : Ex (fun j => j = rb) wb (((((wb.setCell ⟨rb, 0, none⟩ (.string (bs d))).setCell ⟨rb, 1, none⟩ (.string (bs s))).setCell ⟨rb, 2, none⟩ (.int .i64 (vl : Int))).setCell ⟨rb, 3, none⟩ (.int .u32 (ty : Int))).setCell ⟨rb, 4, none⟩ (.string (bs r2))) := ((((((Ex.refl (fun j => j = rb) wb).setCell (p := ⟨rb, 0, none⟩) (.inl rfl) (.string (bs d))).setCell (p := ⟨rb, 1, none⟩) (.inl rfl) (.string (bs s))).setCell (p := ⟨rb, 2, none⟩) (.inl rfl) (.int .i64 (vl : Int))).setCell (p := ⟨rb, 3, none⟩) (.inl rfl) (.int .u32 (ty : Int))).setCell (p := ⟨rb, 4, none⟩) (.inl rfl) (.string (bs r2)))
    clear crb0 crb1 crb2 crb3 crb4 frb0 frb1 frb2 frb3 frb4
    generalize (((((wb.setCell ⟨rb, 0, none⟩ (.string (bs d))).setCell ⟨rb, 1, none⟩ (.string (bs s))).setCell ⟨rb, 2, none⟩ (.int .i64 (vl : Int))).setCell ⟨rb, 3, none⟩ (.int .u32 (ty : Int))).setCell ⟨rb, 4, none⟩ (.string (bs r2))) = wz at r4 hx ⊢
    replace B_rb := Lib.hid r4
    clear r4
    have HX_wz := Lib.hid hx
    clear hx
    refine bodyPost_ret (v := .tuple #[.agg #[.string (bs d), .string (bs s), .int .i64 (vl : Int), .int .u32 (ty : Int), .string (bs r2)], .string ⟨#[]⟩]) ?_ rfl ⟨rfl, (((((HX_w1.out.trans HX_wc.out).andThen HX_wv.out (fun i hi e => by have := HX_w1.out.size; have := hb_pb; omega)).andThen HX_wt.out (fun i hi e => by have := HX_w1.out.size; have := hb_pb; omega)).andThen HX_wb.out (fun i hi e => by have := HX_w1.out.size; have := hb_pb; omega)).andThen HX_wz.out (fun i hi e => by have := hb_rb; omega))⟩
    exact results_cell_row2 (p := 2) (u := 3) rfl _ _ rb 80 #[.string (bs d), .string (bs s), .int .i64 (vl : Int), .int .u32 (ty : Int), .string (bs r2)] (0, 0) _ _ rfl rfl B_rb.out Tryd.underlying80 rfl rf_size
/-- what the reference's Parse gives -/
def rpfv (l : List UInt8) : Value := if eyes l then rfv (efr l) else zrf
theorem rp3_any (l : List UInt8) (w : World) :
    Calls Tryd.prog 35 #[.string (bs l)] w fun e w' => e = .returned (.tuple #[rpfv l, .string (esays l)]) ∧ Ex (fun _ => False) w w' := by
  by_cases h9 : 9000 < l.length
  · have e1 : rpfv l = zrf := if_neg (by unfold eyes; rw [decide_eq_true h9]; simp)
    rw [e1, show esays l = _ from if_pos h9]
    exact rp3_big l w h9
  by_cases h14 : l.length < 14
  · have hp := pframe_short h14
    have e1 : rpfv l = zrf := if_neg (by unfold eyes; rw [hp]; simp)
    rw [e1, show esays l = bs (etx [lay3, lay1] 2) by unfold esays; rw [if_neg h9, hp]; rfl]
    exact rp3_short l w h14
  obtain ⟨d0, d1, d2, d3, d4, d5, r1, rfl⟩ := six (show 6 ≤ l.length by omega)
  obtain ⟨s0, s1, s2, s3, s4, s5, r2, rfl⟩ := six (show 6 ≤ r1.length by simp at h14; omega)
  obtain ⟨a, b, r, rfl⟩ := two (show 2 ≤ r2.length by simp at h14; omega)
  generalize hl : (d0 :: d1 :: d2 :: d3 :: d4 :: d5 :: s0 :: s1 :: s2 :: s3 :: s4 :: s5 :: a :: b :: r) = l at h9 h14 ⊢
  have hl' : l = [d0, d1, d2, d3, d4, d5] ++ ([s0, s1, s2, s3, s4, s5] ++ a :: b :: r) := hl.symm
  by_cases ht : nb [a, b] = 33024
  · by_cases hr : r.length < 4
    · have hp : pframe l = none := by rw [← hl]; simp [pframe, ptag_cut ht hr]
      have e1 : rpfv l = zrf := if_neg (by unfold eyes; rw [hp]; simp)
      rw [e1, show esays l = bs (etx [lay3, lay1] 2) by unfold esays; rw [if_neg h9, hp]; rfl]
      exact rp3_cut l _ _ a b r w hl' rfl rfl ht hr
    · match r, hr, hl, hl' with
      | c :: e :: f :: g :: r', _, hl, hl' =>
        have hp : pframe l = some ⟨[d0, d1, d2, d3, d4, d5], [s0, s1, s2, s3, s4, s5], (nb [c, e] : Int), nb [f, g], r'⟩ := by rw [← hl]; simp [pframe, ptag_tag ht]
        have e1 : rpfv l = rfv ⟨[d0, d1, d2, d3, d4, d5], [s0, s1, s2, s3, s4, s5], (nb [c, e] : Int), nb [f, g], r'⟩ := by
          unfold rpfv efr eyes; rw [hp, decide_eq_false h9, if_neg h9]; rfl
        rw [e1, show esays l = ⟨#[]⟩ by unfold esays; rw [if_neg h9, hp]; rfl]
        exact rp3_tag l _ _ a b _ c e f g r' w hl' rfl rfl rfl ht (by omega)
      | [], h, _, _ => simp at h
      | [_], h, _, _ => simp at h
      | [_, _], h, _, _ => simp at h
      | [_, _, _], h, _, _ => simp at h
  · have hp : pframe l = some ⟨[d0, d1, d2, d3, d4, d5], [s0, s1, s2, s3, s4, s5], -1, nb [a, b], r⟩ := by rw [← hl]; simp [pframe, ptag_plain ht]
    have e1 : rpfv l = rfv ⟨[d0, d1, d2, d3, d4, d5], [s0, s1, s2, s3, s4, s5], -1, nb [a, b], r⟩ := by
      unfold rpfv efr eyes; rw [hp, decide_eq_false h9, if_neg h9]; rfl
    rw [e1, show esays l = ⟨#[]⟩ by unfold esays; rw [if_neg h9, hp]; rfl]
    exact rp3_plain l _ _ a b r w hl' rfl rfl ht (by omega)
end Go.Proofs.YtkgieciamophkaaDoor
