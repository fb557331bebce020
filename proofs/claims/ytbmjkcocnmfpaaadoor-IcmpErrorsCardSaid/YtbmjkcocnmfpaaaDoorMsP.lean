/-
  The contract of icmp.Parse. By an AI agent.
-/
import Derived.Test.YtbmjkcocnmfpaaaDoorMsB
namespace Go.Proofs.YtbmjkcocnmfpaaaDoor
open Go.RowKit

theorem eight {l : List UInt8} (h : 8 ≤ l.length) : ∃ x0 x1 x2 x3 x4 x5 x6 x7, l.take 8 = [x0, x1, x2, x3, x4, x5, x6, x7] ∧ pm l = ⟨(x0.toNat : Int), (x1.toNat : Int), (nb [x4, x5, x6, x7] : Int), l.drop 8⟩ := by
  obtain ⟨x0, l, rfl⟩ := List.exists_cons_of_length_pos (l := l) (by omega)
  obtain ⟨x1, l, rfl⟩ := List.exists_cons_of_length_pos (l := l) (by simp at h; omega)
  obtain ⟨x2, l, rfl⟩ := List.exists_cons_of_length_pos (l := l) (by simp at h; omega)
  obtain ⟨x3, l, rfl⟩ := List.exists_cons_of_length_pos (l := l) (by simp at h; omega)
  obtain ⟨x4, l, rfl⟩ := List.exists_cons_of_length_pos (l := l) (by simp at h; omega)
  obtain ⟨x5, l, rfl⟩ := List.exists_cons_of_length_pos (l := l) (by simp at h; omega)
  obtain ⟨x6, l, rfl⟩ := List.exists_cons_of_length_pos (l := l) (by simp at h; omega)
  obtain ⟨x7, l, rfl⟩ := List.exists_cons_of_length_pos (l := l) (by simp at h; omega)
  exact ⟨x0, x1, x2, x3, x4, x5, x6, x7, rfl, rfl⟩
set_option maxRecDepth 100000 in
set_option maxHeartbeats 4000000 in
theorem mparse_short (P : Nat → Prop) (A : Option Addr) (n c : Nat) (l : List UInt8) (w : World) (hr : RB w P (.slice A n c) l) (hA : A = none → c = 0) (hl : l.length ≤ 1000000000) (h8 : l.length < 8) :
    Calls Tryd.prog 7 #[.slice A n c] w fun e w' => ∃ v, e = .returned (.tuple #[msv zms (.slice none 0 0), v]) ∧ EC w' (fun j => w.heap.size ≤ j) [lay7, lay1] v 2 ∧ Ex (fun _ => False) w w' := by
  obtain rfl : n = l.length := by obtain ⟨_, _, _, e, _⟩ := hr; injection e
  have HR := Lib.hid hr
  have HA := Lib.hid hA
  clear hr hA
  go_enter Tryd.func7, Tryd.ntmps7
  go_upto_region 1 with fail
  have hx : Ex (fun _ => False) w (w.alloc (.cells #[.int .u8 0, .int .u8 0, .int .u32 0, .slice none 0 0] 25)) := (Ex.refl _ w).alloc _
  have hb : (w.alloc (.cells #[.int .u8 0, .int .u8 0, .int .u32 0, .slice none 0 0] 25)).heap[w.heap.size]? = some (.cells #[.int .u8 0, .int .u8 0, .int .u32 0, .slice none 0 0] 25) := heap_alloc_new w _
  obtain ⟨rb, hrb⟩ : ∃ rb, rb = w.heap.size := ⟨_, rfl⟩
  have hb_rb : w.heap.size ≤ rb := by omega
  rw [← hrb] at hb
  try simp only [← hrb]
  generalize w.alloc (.cells #[.int .u8 0, .int .u8 0, .int .u32 0, .slice none 0 0] 25) = w1 at hx hb ⊢
  clear hrb
  have HX_w1 := Lib.hid hx
  clear hx
  have B_rb := Lib.hid hb
  clear hb
  have hrbl := row_lt B_rb.out
  go_wp2_with fail
  refine (read_anyF P A l.length c l w1 (RB.keep HR.out HX_w1.out (fun _ _ _ => id)) HA.out hl).mono ?_
  rintro e w2 ⟨p1, g1, rfl, hr2, hb_p1, hb_g1, hx, _⟩
  have HX_w2 := Lib.hid hx
  clear hx
  have HR2 := Lib.hid hr2
  clear hr2
  have ne_rb_p1 : rb ≠ p1 := by omega
  have ne_rb_g1 : rb ≠ g1 := by omega
  have ne_g1_p1 := HR2.out.apart
  go_wp2_with fail
  refine (rbytes_few p1 g1 0 l 8 w2 HR2.out (by omega)).mono ?_
  rintro e w3 ⟨v3, rfl, he, hx⟩
  obtain ⟨ty3, y3, hv3⟩ := he.shape
  have HX_w3 := Lib.hid hx
  clear hx
  have HE3 := Lib.hid he
  clear he
  subst hv3
  go_wp2_with fail
  refine (wrong7_any _ [lay1] 2 _ w3 HE3.out).mono ?_
  rintro e w4 ⟨v4, rfl, he, hx⟩
  have HX_w4 := Lib.hid hx
  clear hx
  have hz02 := (HX_w1.out.trans HX_w2.out).size
  have hz23 := HX_w3.out.size
  have hz12 := HX_w2.out.size
  have he := EC.upO (B' := w1.heap.size) he (by omega) (by omega)
  have HE4 := Lib.hid he
  clear he
  replace B_rb := Lib.hid ((((HX_w2.out.trans HX_w3.out).trans HX_w4.out).block rb (row_lt B_rb.out) id).trans B_rb.out)
  have crb0 := row_cell (k := 0) (v := .int .u8 0) B_rb.out rfl
  have crb1 := row_cell (k := 1) (v := .int .u8 0) B_rb.out rfl
  have crb2 := row_cell (k := 2) (v := .int .u32 0) B_rb.out rfl
  have crb3 := row_cell (k := 3) (v := .slice none 0 0) B_rb.out rfl
  have frb0 := row_frozen B_rb.out 0
  have frb1 := row_frozen B_rb.out 1
  have frb2 := row_frozen B_rb.out 2
  have frb3 := row_frozen B_rb.out 3
  go_wp2_with fail
  (try simp only [Exit.inBlock, Exit.then])
  have r0 : (w4.setCell ⟨rb, 0, none⟩ (.int .u8 0)).heap[rb]? = some (.cells #[.int .u8 0, .int .u8 0, .int .u32 0, .slice none 0 0] 25) := row_set B_rb.out 0 (.int .u8 0)
  have r1 : ((w4.setCell ⟨rb, 0, none⟩ (.int .u8 0)).setCell ⟨rb, 1, none⟩ (.int .u8 0)).heap[rb]? = some (.cells #[.int .u8 0, .int .u8 0, .int .u32 0, .slice none 0 0] 25) := row_set r0 1 (.int .u8 0)
  clear r0
  have r2 : (((w4.setCell ⟨rb, 0, none⟩ (.int .u8 0)).setCell ⟨rb, 1, none⟩ (.int .u8 0)).setCell ⟨rb, 2, none⟩ (.int .u32 0)).heap[rb]? = some (.cells #[.int .u8 0, .int .u8 0, .int .u32 0, .slice none 0 0] 25) := row_set r1 2 (.int .u32 0)
  clear r1
  have r3 : ((((w4.setCell ⟨rb, 0, none⟩ (.int .u8 0)).setCell ⟨rb, 1, none⟩ (.int .u8 0)).setCell ⟨rb, 2, none⟩ (.int .u32 0)).setCell ⟨rb, 3, none⟩ (.slice none 0 0)).heap[rb]? = some (.cells #[.int .u8 0, .int .u8 0, .int .u32 0, .slice none 0 0] 25) := row_set r2 3 (.slice none 0 0)
  clear r2
  have hx : Ex (fun j => j = rb) w4 ((((w4.setCell ⟨rb, 0, none⟩ (.int .u8 0)).setCell ⟨rb, 1, none⟩ (.int .u8 0)).setCell ⟨rb, 2, none⟩ (.int .u32 0)).setCell ⟨rb, 3, none⟩ (.slice none 0 0)) := (((((Ex.refl (fun j => j = rb) w4).setCell (p := ⟨rb, 0, none⟩) (.inl rfl) (.int .u8 0)).setCell (p := ⟨rb, 1, none⟩) (.inl rfl) (.int .u8 0)).setCell (p := ⟨rb, 2, none⟩) (.inl rfl) (.int .u32 0)).setCell (p := ⟨rb, 3, none⟩) (.inl rfl) (.slice none 0 0))
  clear crb0 crb1 crb2 crb3 frb0 frb1 frb2 frb3
  generalize ((((w4.setCell ⟨rb, 0, none⟩ (.int .u8 0)).setCell ⟨rb, 1, none⟩ (.int .u8 0)).setCell ⟨rb, 2, none⟩ (.int .u32 0)).setCell ⟨rb, 3, none⟩ (.slice none 0 0)) = wz at r3 hx ⊢
  replace B_rb := Lib.hid r3
  clear r3
  have HX_wz := Lib.hid hx
  clear hx
  refine bodyPost_ret (v := .tuple #[.agg #[.int .u8 0, .int .u8 0, .int .u32 0, .slice none 0 0], v4]) ?_ rfl ⟨v4, rfl, EC.up (EC.keepB HX_wz.out (by omega) HE4.out) (by omega), ((((HX_w1.out.trans HX_w2.out).trans HX_w3.out).trans HX_w4.out).andThen HX_wz.out (fun i hi e => by have := hb_rb; omega))⟩
  exact results_cell_row2 (p := 2) (u := 3) rfl _ _ rb 25 #[.int .u8 0, .int .u8 0, .int .u32 0, .slice none 0 0] (0, 0) _ _ rfl rfl B_rb.out Tryd.underlying25 rfl ms_size
set_option maxRecDepth 100000 in
set_option maxHeartbeats 4000000 in
theorem mparse_sum (P : Nat → Prop) (A : Option Addr) (n c : Nat) (l : List UInt8) (w : World) (hr : RB w P (.slice A n c) l) (hA : A = none → c = 0) (hl : l.length ≤ 1000000000) (h8 : 8 ≤ l.length) (hs : su l ≠ 0) :
    Calls Tryd.prog 7 #[.slice A n c] w fun e w' => ∃ v, e = .returned (.tuple #[msv zms (.slice none 0 0), v]) ∧ EC w' (fun j => w.heap.size ≤ j) [lay7] v 4 ∧ Ex (fun _ => False) w w' := by
  obtain rfl : n = l.length := by obtain ⟨_, _, _, e, _⟩ := hr; injection e
  have hd : decide (su l = 0) = false := by rw [decide_eq_false_iff_not]; exact hs
  have HD := Lib.hid hd
  clear hd hs
  have HR := Lib.hid hr
  have HA := Lib.hid hA
  clear hr hA
  go_enter Tryd.func7, Tryd.ntmps7
  go_upto_region 1 with fail
  have hx : Ex (fun _ => False) w (w.alloc (.cells #[.int .u8 0, .int .u8 0, .int .u32 0, .slice none 0 0] 25)) := (Ex.refl _ w).alloc _
  have hb : (w.alloc (.cells #[.int .u8 0, .int .u8 0, .int .u32 0, .slice none 0 0] 25)).heap[w.heap.size]? = some (.cells #[.int .u8 0, .int .u8 0, .int .u32 0, .slice none 0 0] 25) := heap_alloc_new w _
  obtain ⟨rb, hrb⟩ : ∃ rb, rb = w.heap.size := ⟨_, rfl⟩
  have hb_rb : w.heap.size ≤ rb := by omega
  rw [← hrb] at hb
  try simp only [← hrb]
  generalize w.alloc (.cells #[.int .u8 0, .int .u8 0, .int .u32 0, .slice none 0 0] 25) = w1 at hx hb ⊢
  clear hrb
  have HX_w1 := Lib.hid hx
  clear hx
  have B_rb := Lib.hid hb
  clear hb
  have hrbl := row_lt B_rb.out
  go_wp2_with fail
  refine (read_anyF P A l.length c l w1 (RB.keep HR.out HX_w1.out (fun _ _ _ => id)) HA.out hl).mono ?_
  rintro e w2 ⟨p1, g1, rfl, hr2, hb_p1, hb_g1, hx, _⟩
  have HX_w2 := Lib.hid hx
  clear hx
  have HR2 := Lib.hid hr2
  clear hr2
  have ne_rb_p1 : rb ≠ p1 := by omega
  have ne_rb_g1 : rb ≠ g1 := by omega
  have ne_g1_p1 := HR2.out.apart
  go_wp2_with fail
  refine (rbytes_any p1 g1 0 l 8 w2 HR2.out h8).mono ?_
  rintro e w3 ⟨u3, rfl, A3, rfl, hA3, hb3, hr3, hx⟩
  obtain rfl : A3 = some ⟨g1, 0, none⟩ := hA3.resolve_left (by intro h; subst h; simp at h8)
  clear hA3
  have HX_w3 := Lib.hid hx
  clear hx
  have HB3 := Lib.hid hb3
  have HR3 := Lib.hid hr3
  clear hb3 hr3 HR2
  have hrc := (HR.out.keep ((HX_w1.out.trans HX_w2.out).andThen HX_w3.out (fun i hi e => by have := HX_w1.out.size; have := hb_p1; omega)) (fun _ _ _ => id))
  have HRC := Lib.hid hrc
  clear hrc
  go_wp2_with fail
  refine (valid1_any P (.slice A l.length c) l w3 _ _ (by simp) HRC.out (by omega)).mono ?_
  rintro e w4 ⟨rfl, hw4⟩
  have hx : Ex (fun _ => False) w3 w4 := by rw [← hw4]; exact (Ex.refl _ w3).alloc _
  clear hw4
  rw [HD.out]
  have HX_w4 := Lib.hid hx
  clear hx
  go_wp2_with fail
  refine (wrong7_no _ w4).mono ?_
  rintro e w5 ⟨v5, rfl, he, hx⟩
  have HX_w5 := Lib.hid hx
  clear hx
  have HE5 := Lib.hid he
  clear he
  have hz01 := HX_w1.out.size
  have hz14 := ((HX_w2.out.andThen HX_w3.out (fun i hi e => by have := hb_p1; omega)).trans HX_w4.out).size
  replace B_rb := Lib.hid (((((HX_w2.out.andThen HX_w3.out (fun i hi e => by have := hb_p1; omega)).trans HX_w4.out).trans HX_w5.out).block rb (row_lt B_rb.out) id).trans B_rb.out)
  have crb0 := row_cell (k := 0) (v := .int .u8 0) B_rb.out rfl
  have crb1 := row_cell (k := 1) (v := .int .u8 0) B_rb.out rfl
  have crb2 := row_cell (k := 2) (v := .int .u32 0) B_rb.out rfl
  have crb3 := row_cell (k := 3) (v := .slice none 0 0) B_rb.out rfl
  have frb0 := row_frozen B_rb.out 0
  have frb1 := row_frozen B_rb.out 1
  have frb2 := row_frozen B_rb.out 2
  have frb3 := row_frozen B_rb.out 3
  go_wp2_with fail
  (try simp only [Exit.inBlock, Exit.then])
  have r0 : (w5.setCell ⟨rb, 0, none⟩ (.int .u8 0)).heap[rb]? = some (.cells #[.int .u8 0, .int .u8 0, .int .u32 0, .slice none 0 0] 25) := row_set B_rb.out 0 (.int .u8 0)
  have r1 : ((w5.setCell ⟨rb, 0, none⟩ (.int .u8 0)).setCell ⟨rb, 1, none⟩ (.int .u8 0)).heap[rb]? = some (.cells #[.int .u8 0, .int .u8 0, .int .u32 0, .slice none 0 0] 25) := row_set r0 1 (.int .u8 0)
  clear r0
  have r2 : (((w5.setCell ⟨rb, 0, none⟩ (.int .u8 0)).setCell ⟨rb, 1, none⟩ (.int .u8 0)).setCell ⟨rb, 2, none⟩ (.int .u32 0)).heap[rb]? = some (.cells #[.int .u8 0, .int .u8 0, .int .u32 0, .slice none 0 0] 25) := row_set r1 2 (.int .u32 0)
  clear r1
  have r3 : ((((w5.setCell ⟨rb, 0, none⟩ (.int .u8 0)).setCell ⟨rb, 1, none⟩ (.int .u8 0)).setCell ⟨rb, 2, none⟩ (.int .u32 0)).setCell ⟨rb, 3, none⟩ (.slice none 0 0)).heap[rb]? = some (.cells #[.int .u8 0, .int .u8 0, .int .u32 0, .slice none 0 0] 25) := row_set r2 3 (.slice none 0 0)
  clear r2
  have hx : Ex (fun j => j = rb) w5 ((((w5.setCell ⟨rb, 0, none⟩ (.int .u8 0)).setCell ⟨rb, 1, none⟩ (.int .u8 0)).setCell ⟨rb, 2, none⟩ (.int .u32 0)).setCell ⟨rb, 3, none⟩ (.slice none 0 0)) := (((((Ex.refl (fun j => j = rb) w5).setCell (p := ⟨rb, 0, none⟩) (.inl rfl) (.int .u8 0)).setCell (p := ⟨rb, 1, none⟩) (.inl rfl) (.int .u8 0)).setCell (p := ⟨rb, 2, none⟩) (.inl rfl) (.int .u32 0)).setCell (p := ⟨rb, 3, none⟩) (.inl rfl) (.slice none 0 0))
  clear crb0 crb1 crb2 crb3 frb0 frb1 frb2 frb3
  generalize ((((w5.setCell ⟨rb, 0, none⟩ (.int .u8 0)).setCell ⟨rb, 1, none⟩ (.int .u8 0)).setCell ⟨rb, 2, none⟩ (.int .u32 0)).setCell ⟨rb, 3, none⟩ (.slice none 0 0)) = wz at r3 hx ⊢
  replace B_rb := Lib.hid r3
  clear r3
  have HX_wz := Lib.hid hx
  clear hx
  refine bodyPost_ret (v := .tuple #[.agg #[.int .u8 0, .int .u8 0, .int .u32 0, .slice none 0 0], v5]) ?_ rfl ⟨v5, rfl, EC.up (EC.keepB HX_wz.out (by omega) HE5.out) (by omega), (((((HX_w1.out.trans HX_w2.out).andThen HX_w3.out (fun i hi e => by have := HX_w1.out.size; have := hb_p1; omega)).trans HX_w4.out).trans HX_w5.out).andThen HX_wz.out (fun i hi e => by have := hb_rb; omega))⟩
  exact results_cell_row2 (p := 2) (u := 3) rfl _ _ rb 25 #[.int .u8 0, .int .u8 0, .int .u32 0, .slice none 0 0] (0, 0) _ _ rfl rfl B_rb.out Tryd.underlying25 rfl ms_size
set_option maxRecDepth 100000 in
set_option maxHeartbeats 4000000 in
theorem mparse_yes (P : Nat → Prop) (A : Option Addr) (n c : Nat) (l : List UInt8) (w : World) (hr : RB w P (.slice A n c) l) (hA : A = none → c = 0) (hl : l.length ≤ 1000000000) (h8 : 8 ≤ l.length) (hs : su l = 0) :
    Calls Tryd.prog 7 #[.slice A n c] w fun e w' => ∃ A' g, e = .returned (.tuple #[msv (pm l) (.slice A' (pm l).b.length (pm l).b.length), .nilIface]) ∧ w.heap.size ≤ g ∧ RB w' (fun j => j = g) (.slice A' (pm l).b.length (pm l).b.length) (pm l).b ∧ Ex (fun _ => False) w w' := by
  obtain rfl : n = l.length := by obtain ⟨_, _, _, e, _⟩ := hr; injection e
  have hd : decide (su l = 0) = true := by rw [decide_eq_true_eq]; exact hs
  have HD := Lib.hid hd
  clear hd hs
  obtain ⟨x0, x1, x2, x3, x4, x5, x6, x7, ht8, hpm⟩ := eight h8
  rw [hpm]
  have HT8 := Lib.hid ht8
  obtain ⟨R, hR⟩ : ∃ R, R = l.drop 8 := ⟨_, rfl⟩
  rw [← hR]
  have HR8 := Lib.hid hR
  clear ht8 hpm hR
  have HR := Lib.hid hr
  have HA := Lib.hid hA
  clear hr hA
  go_enter Tryd.func7, Tryd.ntmps7
  go_upto_region 1 with fail
  have hx : Ex (fun _ => False) w (w.alloc (.cells #[.int .u8 0, .int .u8 0, .int .u32 0, .slice none 0 0] 25)) := (Ex.refl _ w).alloc _
  have hb : (w.alloc (.cells #[.int .u8 0, .int .u8 0, .int .u32 0, .slice none 0 0] 25)).heap[w.heap.size]? = some (.cells #[.int .u8 0, .int .u8 0, .int .u32 0, .slice none 0 0] 25) := heap_alloc_new w _
  obtain ⟨rb, hrb⟩ : ∃ rb, rb = w.heap.size := ⟨_, rfl⟩
  have hb_rb : w.heap.size ≤ rb := by omega
  rw [← hrb] at hb
  try simp only [← hrb]
  generalize w.alloc (.cells #[.int .u8 0, .int .u8 0, .int .u32 0, .slice none 0 0] 25) = w1 at hx hb ⊢
  clear hrb
  have HX_w1 := Lib.hid hx
  clear hx
  have B_rb := Lib.hid hb
  clear hb
  have hrbl := row_lt B_rb.out
  go_wp2_with fail
  refine (read_anyF P A l.length c l w1 (RB.keep HR.out HX_w1.out (fun _ _ _ => id)) HA.out hl).mono ?_
  rintro e w2 ⟨p1, g1, rfl, hr2, hb_p1, hb_g1, hx, _⟩
  have HX_w2 := Lib.hid hx
  clear hx
  have HR2 := Lib.hid hr2
  clear hr2
  have ne_rb_p1 : rb ≠ p1 := by omega
  have ne_rb_g1 : rb ≠ g1 := by omega
  have ne_g1_p1 := HR2.out.apart
  go_wp2_with fail
  refine (rbytes_any p1 g1 0 l 8 w2 HR2.out h8).mono ?_
  rintro e w3 ⟨u3, rfl, A3, rfl, hA3, hb3, hr3, hx⟩
  obtain rfl : A3 = some ⟨g1, 0, none⟩ := hA3.resolve_left (by intro h; subst h; simp at h8)
  clear hA3
  rw [← HR8.out] at hr3
  have HX_w3 := Lib.hid hx
  clear hx
  have HB3 := Lib.hid hb3
  have HR3 := Lib.hid hr3
  clear hb3 hr3 HR2
  have hrc := (HR.out.keep ((HX_w1.out.trans HX_w2.out).andThen HX_w3.out (fun i hi e => by have := HX_w1.out.size; have := hb_p1; omega)) (fun _ _ _ => id))
  have HRC := Lib.hid hrc
  clear hrc
  go_wp2_with fail
  refine (valid1_any P (.slice A l.length c) l w3 _ _ (by simp) HRC.out (by omega)).mono ?_
  rintro e w4 ⟨rfl, hw4⟩
  have hx : Ex (fun _ => False) w3 w4 := by rw [← hw4]; exact (Ex.refl _ w3).alloc _
  clear hw4
  rw [HD.out]
  have HX_w4 := Lib.hid hx
  clear hx
  have hrd := (RB.keep HB3.out HX_w4.out (fun _ _ _ => id))
  rw [HT8.out] at hrd
  have HRD := Lib.hid hrd
  clear hrd
  go_wp2_with fail
  refine (read_anyF _ (some ⟨g1, 0, none⟩) 8 8 [x0, x1, x2, x3, x4, x5, x6, x7] w4 HRD.out (fun h => by cases h) (by simp)).mono ?_
  rintro e w5 ⟨p2, g2, rfl, hr5, hb_p2, hb_g2, hx, _⟩
  have hp1 := ((RD.keep HR3.out HX_w4.out id (fun _ => id))).lt
  have hrb4 := row_lt ((((HX_w2.out.andThen HX_w3.out (fun i hi e => by have := hb_p1; omega)).trans HX_w4.out).block rb (row_lt B_rb.out) id).trans B_rb.out)
  have hz14 := ((HX_w2.out.andThen HX_w3.out (fun i hi e => by have := hb_p1; omega)).trans HX_w4.out).size
  have hg1 : l ≠ [] → True := fun _ => trivial
  clear hg1
  have ne_p1_p2 : p1 ≠ p2 := by omega
  have ne_rb_p2 : rb ≠ p2 := by omega
  have ne_p1_g2 : p1 ≠ g2 := by omega
  have ne_rb_g2 : rb ≠ g2 := by omega
  have hg14 : g1 < w4.heap.size := by
    obtain ⟨_, _, _, _, _, h⟩ := HRD.out
    obtain ⟨b, off, e, hb, hc⟩ := h 0 (by simp)
    subst hb
    exact World.block_lt_of_cell? w4 _ hc
  have ne_g1_p2 : g1 ≠ p2 := by omega
  have ne_g1_g2 : g1 ≠ g2 := by omega
  have HX_w5 := Lib.hid hx
  clear hx
  have HR5 := Lib.hid hr5
  clear hr5
  go_wp2_with fail
  refine (mnumber1 p2 g2 0 x0 [x1, x2, x3, x4, x5, x6, x7] w5 HR5.out).mono ?_
  rintro e w6 ⟨rfl, hr, hx⟩
  have HX_w6 := Lib.hid hx
  clear hx
  have HR_w6 := Lib.hid hr
  clear hr HR5
  go_wp2_with fail
  refine (mnumber1 p2 g2 _ x1 [x2, x3, x4, x5, x6, x7] w6 HR_w6.out).mono ?_
  rintro e w7 ⟨rfl, hr, hx⟩
  have HX_w7 := Lib.hid hx
  clear hx
  have HR_w7 := Lib.hid hr
  clear hr HR_w6
  go_upto_region 9 with fail
  have hx : Ex (fun _ => False) w7 (w7.alloc (.cells #[.int .u8 (x0.toNat : Int), .int .u8 (x1.toNat : Int), .int .u32 0, .slice none 0 0] 25)) := (Ex.refl _ w7).alloc _
  have hb : (w7.alloc (.cells #[.int .u8 (x0.toNat : Int), .int .u8 (x1.toNat : Int), .int .u32 0, .slice none 0 0] 25)).heap[w7.heap.size]? = some (.cells #[.int .u8 (x0.toNat : Int), .int .u8 (x1.toNat : Int), .int .u32 0, .slice none 0 0] 25) := heap_alloc_new w7 _
  obtain ⟨mb_, hmb_⟩ : ∃ mb_, mb_ = w7.heap.size := ⟨_, rfl⟩
  have hb_mb_ : w7.heap.size ≤ mb_ := by omega
  rw [← hmb_] at hb
  try simp only [← hmb_]
  generalize w7.alloc (.cells #[.int .u8 (x0.toNat : Int), .int .u8 (x1.toNat : Int), .int .u32 0, .slice none 0 0] 25) = w8 at hx hb ⊢
  clear hmb_
  have HX_w8 := Lib.hid hx
  clear hx
  have B_mb_ := Lib.hid hb
  clear hb
  have ne_mb__p2 : mb_ ≠ p2 := by (have h := (HR_w7.out).lt; omega)
  have ne_mb__p1 : mb_ ≠ p1 := by (have h := ((RD.keep HR3.out (((HX_w4.out.trans HX_w5.out).andThen HX_w6.out (fun i hi e => by have := HX_w4.out.size; have := hb_p2; omega)).andThen HX_w7.out (fun i hi e => by have := HX_w4.out.size; have := hb_p2; omega)) id (fun _ => id))).lt; omega)
  have ne_mb__rb : mb_ ≠ rb := by (have h := row_lt (((((((HX_w2.out.andThen HX_w3.out (fun i hi e => by have := hb_p1; omega)).trans HX_w4.out).trans HX_w5.out).andThen HX_w6.out (fun i hi e => by have := ((HX_w2.out.andThen HX_w3.out (fun i hi e => by have := hb_p1; omega)).trans HX_w4.out).size; have := hb_p2; omega)).andThen HX_w7.out (fun i hi e => by have := ((HX_w2.out.andThen HX_w3.out (fun i hi e => by have := hb_p1; omega)).trans HX_w4.out).size; have := hb_p2; omega)).block rb (row_lt B_rb.out) id).trans B_rb.out); omega)
  have ne_mb__g2 : mb_ ≠ g2 := by (have h := (HR_w7.out).ltg (by simp); omega)
  have ne_mb__g1 : mb_ ≠ g1 := by (have := ((HX_w5.out.andThen HX_w6.out (fun i hi e => by have := hb_p2; omega)).andThen HX_w7.out (fun i hi e => by have := hb_p2; omega)).size; omega)
  go_wp2_with fail
  refine (mnumber2 p2 g2 _ x2 x3 [x4, x5, x6, x7] w8 (RD.keep HR_w7.out HX_w8.out id (fun _ => id))).mono ?_
  rintro e w9 ⟨rfl, hr, hx⟩
  have HX_w9 := Lib.hid hx
  clear hx
  have HR_w9 := Lib.hid hr
  clear hr HR_w7
  go_wp2_with fail
  refine (mnumber4 p2 g2 _ x4 x5 x6 x7 [] w9 HR_w9.out).mono ?_
  rintro e w10 ⟨rfl, hr, hx⟩
  have HX_w10 := Lib.hid hx
  clear hx
  have HR_w10 := Lib.hid hr
  clear hr HR_w9
  replace B_mb_ := Lib.hid ((HX_w10.out.block mb_ (row_lt ((HX_w9.out.block mb_ (row_lt B_mb_.out) ne_mb__p2).trans B_mb_.out)) ne_mb__p2).trans ((HX_w9.out.block mb_ (row_lt B_mb_.out) ne_mb__p2).trans B_mb_.out))
  have cmb_2 := row_cell (k := 2) (v := .int .u32 0) B_mb_.out rfl
  have fmb_2 := row_frozen B_mb_.out 2
  go_upto_region 11 with fail
  have hb : (w10.setCell ⟨mb_, 2, none⟩ (.int .u32 (nb [x4, x5, x6, x7] : Int))).heap[mb_]? = some (.cells #[.int .u8 (x0.toNat : Int), .int .u8 (x1.toNat : Int), .int .u32 (nb [x4, x5, x6, x7] : Int), .slice none 0 0] 25) := (row_set B_mb_.out 2 (.int .u32 (nb [x4, x5, x6, x7] : Int)))
  have hx : Ex (fun j => j = mb_) w10 (w10.setCell ⟨mb_, 2, none⟩ (.int .u32 (nb [x4, x5, x6, x7] : Int))) := ((Ex.refl (fun j => j = mb_) w10).setCell (p := ⟨mb_, 2, none⟩) (.inl rfl) (.int .u32 (nb [x4, x5, x6, x7] : Int)))
  clear cmb_2 fmb_2
  generalize (w10.setCell ⟨mb_, 2, none⟩ (.int .u32 (nb [x4, x5, x6, x7] : Int))) = w11 at hx hb ⊢
  clear B_mb_
  have HX_w11 := Lib.hid hx
  clear hx
  have B_mb_ := Lib.hid hb
  clear hb
  replace HR3 := Lib.hid (RD.keep HR3.out (((((((HX_w4.out.trans HX_w5.out).andThen HX_w6.out (fun i hi e => by have := HX_w4.out.size; have := hb_p2; omega)).andThen HX_w7.out (fun i hi e => by have := HX_w4.out.size; have := hb_p2; omega)).trans HX_w8.out).andThen HX_w9.out (fun i hi e => by have := HX_w4.out.size; have := hb_p2; omega)).andThen HX_w10.out (fun i hi e => by have := HX_w4.out.size; have := hb_p2; omega)).andThen HX_w11.out (fun i hi e => by have := (((HX_w4.out.trans HX_w5.out).andThen HX_w6.out (fun i hi e => by have := HX_w4.out.size; have := hb_p2; omega)).andThen HX_w7.out (fun i hi e => by have := HX_w4.out.size; have := hb_p2; omega)).size; have := hb_mb_; omega)) id (fun _ => id))
  go_wp2_with fail
  refine (rest_any p1 g1 _ R w11 HR3.out).mono ?_
  rintro e w12 ⟨u, rfl, A12, rfl, hA12, hb12, _, hx⟩
  rw [List.take_length] at hb12
  clear hA12
  have HX_w12 := Lib.hid hx
  clear hx
  have HB12 := Lib.hid hb12
  clear hb12
  replace B_mb_ := Lib.hid ((HX_w12.out.block mb_ (row_lt B_mb_.out) ne_mb__p1).trans B_mb_.out)
  have cmb_3 := row_cell (k := 3) (v := .slice none 0 0) B_mb_.out rfl
  have fmb_3 := row_frozen B_mb_.out 3
  go_upto_region 12 with fail
  have hb : (w12.setCell ⟨mb_, 3, none⟩ (.slice A12 R.length R.length)).heap[mb_]? = some (.cells #[.int .u8 (x0.toNat : Int), .int .u8 (x1.toNat : Int), .int .u32 (nb [x4, x5, x6, x7] : Int), .slice A12 R.length R.length] 25) := (row_set B_mb_.out 3 (.slice A12 R.length R.length))
  have hx : Ex (fun j => j = mb_) w12 (w12.setCell ⟨mb_, 3, none⟩ (.slice A12 R.length R.length)) := ((Ex.refl (fun j => j = mb_) w12).setCell (p := ⟨mb_, 3, none⟩) (.inl rfl) (.slice A12 R.length R.length))
  clear cmb_3 fmb_3
  generalize (w12.setCell ⟨mb_, 3, none⟩ (.slice A12 R.length R.length)) = w13 at hx hb ⊢
  clear B_mb_
  have HX_w13 := Lib.hid hx
  clear hx
  have B_mb_ := Lib.hid hb
  clear hb
  have cmb_0 := row_cell (k := 0) (v := .int .u8 (x0.toNat : Int)) B_mb_.out rfl
  have cmb_1 := row_cell (k := 1) (v := .int .u8 (x1.toNat : Int)) B_mb_.out rfl
  have cmb_2 := row_cell (k := 2) (v := .int .u32 (nb [x4, x5, x6, x7] : Int)) B_mb_.out rfl
  have cmb_3 := row_cell (k := 3) (v := .slice A12 R.length R.length) B_mb_.out rfl
  have hz01 := HX_w1.out.size
  replace HB12 := Lib.hid (RB.keep HB12.out HX_w13.out (fun k _ hk e => ne_mb__g1.symm (hk.symm.trans e)))
  replace B_rb := Lib.hid (((((((((((((HX_w2.out.andThen HX_w3.out (fun i hi e => by have := hb_p1; omega)).trans HX_w4.out).trans HX_w5.out).andThen HX_w6.out (fun i hi e => by have := ((HX_w2.out.andThen HX_w3.out (fun i hi e => by have := hb_p1; omega)).trans HX_w4.out).size; have := hb_p2; omega)).andThen HX_w7.out (fun i hi e => by have := ((HX_w2.out.andThen HX_w3.out (fun i hi e => by have := hb_p1; omega)).trans HX_w4.out).size; have := hb_p2; omega)).trans HX_w8.out).andThen HX_w9.out (fun i hi e => by have := ((HX_w2.out.andThen HX_w3.out (fun i hi e => by have := hb_p1; omega)).trans HX_w4.out).size; have := hb_p2; omega)).andThen HX_w10.out (fun i hi e => by have := ((HX_w2.out.andThen HX_w3.out (fun i hi e => by have := hb_p1; omega)).trans HX_w4.out).size; have := hb_p2; omega)).andThen HX_w11.out (fun i hi e => by have := (((((HX_w2.out.andThen HX_w3.out (fun i hi e => by have := hb_p1; omega)).trans HX_w4.out).trans HX_w5.out).andThen HX_w6.out (fun i hi e => by have := ((HX_w2.out.andThen HX_w3.out (fun i hi e => by have := hb_p1; omega)).trans HX_w4.out).size; have := hb_p2; omega)).andThen HX_w7.out (fun i hi e => by have := ((HX_w2.out.andThen HX_w3.out (fun i hi e => by have := hb_p1; omega)).trans HX_w4.out).size; have := hb_p2; omega)).size; have := hb_mb_; omega)).andThen HX_w12.out (fun i hi e => by have := hb_p1; omega)).andThen HX_w13.out (fun i hi e => by have := (((((HX_w2.out.andThen HX_w3.out (fun i hi e => by have := hb_p1; omega)).trans HX_w4.out).trans HX_w5.out).andThen HX_w6.out (fun i hi e => by have := ((HX_w2.out.andThen HX_w3.out (fun i hi e => by have := hb_p1; omega)).trans HX_w4.out).size; have := hb_p2; omega)).andThen HX_w7.out (fun i hi e => by have := ((HX_w2.out.andThen HX_w3.out (fun i hi e => by have := hb_p1; omega)).trans HX_w4.out).size; have := hb_p2; omega)).size; have := hb_mb_; omega)).block rb (row_lt B_rb.out) id).trans B_rb.out)
  have crb0 := row_cell (k := 0) (v := .int .u8 0) B_rb.out rfl
  have crb1 := row_cell (k := 1) (v := .int .u8 0) B_rb.out rfl
  have crb2 := row_cell (k := 2) (v := .int .u32 0) B_rb.out rfl
  have crb3 := row_cell (k := 3) (v := .slice none 0 0) B_rb.out rfl
  have frb0 := row_frozen B_rb.out 0
  have frb1 := row_frozen B_rb.out 1
  have frb2 := row_frozen B_rb.out 2
  have frb3 := row_frozen B_rb.out 3
  go_wp2_with fail
  (try simp only [Exit.inBlock, Exit.then])
  have r0 : (w13.setCell ⟨rb, 0, none⟩ (.int .u8 (x0.toNat : Int))).heap[rb]? = some (.cells #[.int .u8 (x0.toNat : Int), .int .u8 0, .int .u32 0, .slice none 0 0] 25) := row_set B_rb.out 0 (.int .u8 (x0.toNat : Int))
  have r1 : ((w13.setCell ⟨rb, 0, none⟩ (.int .u8 (x0.toNat : Int))).setCell ⟨rb, 1, none⟩ (.int .u8 (x1.toNat : Int))).heap[rb]? = some (.cells #[.int .u8 (x0.toNat : Int), .int .u8 (x1.toNat : Int), .int .u32 0, .slice none 0 0] 25) := row_set r0 1 (.int .u8 (x1.toNat : Int))
  clear r0
  have r2 : (((w13.setCell ⟨rb, 0, none⟩ (.int .u8 (x0.toNat : Int))).setCell ⟨rb, 1, none⟩ (.int .u8 (x1.toNat : Int))).setCell ⟨rb, 2, none⟩ (.int .u32 (nb [x4, x5, x6, x7] : Int))).heap[rb]? = some (.cells #[.int .u8 (x0.toNat : Int), .int .u8 (x1.toNat : Int), .int .u32 (nb [x4, x5, x6, x7] : Int), .slice none 0 0] 25) := row_set r1 2 (.int .u32 (nb [x4, x5, x6, x7] : Int))
  clear r1
  have r3 : ((((w13.setCell ⟨rb, 0, none⟩ (.int .u8 (x0.toNat : Int))).setCell ⟨rb, 1, none⟩ (.int .u8 (x1.toNat : Int))).setCell ⟨rb, 2, none⟩ (.int .u32 (nb [x4, x5, x6, x7] : Int))).setCell ⟨rb, 3, none⟩ (.slice A12 R.length R.length)).heap[rb]? = some (.cells #[.int .u8 (x0.toNat : Int), .int .u8 (x1.toNat : Int), .int .u32 (nb [x4, x5, x6, x7] : Int), .slice A12 R.length R.length] 25) := row_set r2 3 (.slice A12 R.length R.length)
  clear r2
  have hx : Ex (fun j => j = rb) w13 ((((w13.setCell ⟨rb, 0, none⟩ (.int .u8 (x0.toNat : Int))).setCell ⟨rb, 1, none⟩ (.int .u8 (x1.toNat : Int))).setCell ⟨rb, 2, none⟩ (.int .u32 (nb [x4, x5, x6, x7] : Int))).setCell ⟨rb, 3, none⟩ (.slice A12 R.length R.length)) := (((((Ex.refl (fun j => j = rb) w13).setCell (p := ⟨rb, 0, none⟩) (.inl rfl) (.int .u8 (x0.toNat : Int))).setCell (p := ⟨rb, 1, none⟩) (.inl rfl) (.int .u8 (x1.toNat : Int))).setCell (p := ⟨rb, 2, none⟩) (.inl rfl) (.int .u32 (nb [x4, x5, x6, x7] : Int))).setCell (p := ⟨rb, 3, none⟩) (.inl rfl) (.slice A12 R.length R.length))
  clear crb0 crb1 crb2 crb3 frb0 frb1 frb2 frb3 cmb_0 cmb_1 cmb_2 cmb_3
  generalize ((((w13.setCell ⟨rb, 0, none⟩ (.int .u8 (x0.toNat : Int))).setCell ⟨rb, 1, none⟩ (.int .u8 (x1.toNat : Int))).setCell ⟨rb, 2, none⟩ (.int .u32 (nb [x4, x5, x6, x7] : Int))).setCell ⟨rb, 3, none⟩ (.slice A12 R.length R.length)) = wz at r3 hx ⊢
  replace B_rb := Lib.hid r3
  clear r3
  have HX_wz := Lib.hid hx
  clear hx
  refine bodyPost_ret (v := .tuple #[.agg #[.int .u8 (x0.toNat : Int), .int .u8 (x1.toNat : Int), .int .u32 (nb [x4, x5, x6, x7] : Int), .slice A12 R.length R.length], .nilIface]) ?_ rfl ⟨A12, g1, rfl, by omega, (RB.keep HB12.out HX_wz.out (fun k _ hk e => ne_rb_g1.symm (hk.symm.trans e))), (((((((((((((HX_w1.out.trans HX_w2.out).andThen HX_w3.out (fun i hi e => by have := HX_w1.out.size; have := hb_p1; omega)).trans HX_w4.out).trans HX_w5.out).andThen HX_w6.out (fun i hi e => by have := (((HX_w1.out.trans HX_w2.out).andThen HX_w3.out (fun i hi e => by have := HX_w1.out.size; have := hb_p1; omega)).trans HX_w4.out).size; have := hb_p2; omega)).andThen HX_w7.out (fun i hi e => by have := (((HX_w1.out.trans HX_w2.out).andThen HX_w3.out (fun i hi e => by have := HX_w1.out.size; have := hb_p1; omega)).trans HX_w4.out).size; have := hb_p2; omega)).trans HX_w8.out).andThen HX_w9.out (fun i hi e => by have := (((HX_w1.out.trans HX_w2.out).andThen HX_w3.out (fun i hi e => by have := HX_w1.out.size; have := hb_p1; omega)).trans HX_w4.out).size; have := hb_p2; omega)).andThen HX_w10.out (fun i hi e => by have := (((HX_w1.out.trans HX_w2.out).andThen HX_w3.out (fun i hi e => by have := HX_w1.out.size; have := hb_p1; omega)).trans HX_w4.out).size; have := hb_p2; omega)).andThen HX_w11.out (fun i hi e => by have := ((((((HX_w1.out.trans HX_w2.out).andThen HX_w3.out (fun i hi e => by have := HX_w1.out.size; have := hb_p1; omega)).trans HX_w4.out).trans HX_w5.out).andThen HX_w6.out (fun i hi e => by have := (((HX_w1.out.trans HX_w2.out).andThen HX_w3.out (fun i hi e => by have := HX_w1.out.size; have := hb_p1; omega)).trans HX_w4.out).size; have := hb_p2; omega)).andThen HX_w7.out (fun i hi e => by have := (((HX_w1.out.trans HX_w2.out).andThen HX_w3.out (fun i hi e => by have := HX_w1.out.size; have := hb_p1; omega)).trans HX_w4.out).size; have := hb_p2; omega)).size; have := hb_mb_; omega)).andThen HX_w12.out (fun i hi e => by have := HX_w1.out.size; have := hb_p1; omega)).andThen HX_w13.out (fun i hi e => by have := ((((((HX_w1.out.trans HX_w2.out).andThen HX_w3.out (fun i hi e => by have := HX_w1.out.size; have := hb_p1; omega)).trans HX_w4.out).trans HX_w5.out).andThen HX_w6.out (fun i hi e => by have := (((HX_w1.out.trans HX_w2.out).andThen HX_w3.out (fun i hi e => by have := HX_w1.out.size; have := hb_p1; omega)).trans HX_w4.out).size; have := hb_p2; omega)).andThen HX_w7.out (fun i hi e => by have := (((HX_w1.out.trans HX_w2.out).andThen HX_w3.out (fun i hi e => by have := HX_w1.out.size; have := hb_p1; omega)).trans HX_w4.out).size; have := hb_p2; omega)).size; have := hb_mb_; omega)).andThen HX_wz.out (fun i hi e => by have := hb_rb; omega))⟩
  exact results_cell_row2 (p := 2) (u := 3) rfl _ _ rb 25 #[.int .u8 (x0.toNat : Int), .int .u8 (x1.toNat : Int), .int .u32 (nb [x4, x5, x6, x7] : Int), .slice A12 R.length R.length] (0, 0) _ _ rfl rfl B_rb.out Tryd.underlying25 rfl ms_size
end Go.Proofs.YtbmjkcocnmfpaaaDoor
