/-
  shown of law 05. By an AI agent.
-/
import Derived.Test.YtfcfpkhcpijkfaaDoorSame05
import Derived.Test.YtfcfpkhcpijkfaaDoorCode
import Derived.Lib.SlBytesConst
namespace Go.Proofs.YtfcfpkhcpijkfaaDoor
open Go.RowKit

def sp5 : Pk := ⟨0, 1, false, false, 0, 64, 17, 167772161, 167772162, [120, 121]⟩
def sb5 : List UInt8 := pb sp5
theorem sb5_is : sb5 = [69, 0, 0, 22, 0, 1, 0, 0, 64, 17, 102, 212, 10, 0, 0, 1, 10, 0, 0, 2, 120, 121] := by decide +kernel
theorem sp5_ok : sp5.ok := by refine ⟨?_, ?_, ?_, ?_, ?_, ?_, ?_⟩ <;> decide
theorem sp5_right : sp5.right = 0 := by decide +kernel
theorem sb5_cut : perr ([69, 0, 0, 22, 0, 1, 0, 0, 64, 17, 102, 212, 10, 0, 0, 1, 10, 0, 0, 2, 120] : List UInt8) = some ([lay5], 2) := by decide +kernel
theorem sb5_bad : perr ([69, 0, 0, 22, 0, 1, 0, 0, 65, 17, 102, 212, 10, 0, 0, 1, 10, 0, 0, 2, 120, 121] : List UInt8) = some ([lay5], 4) := by decide +kernel
theorem RB.madeF (w : World) (l : List UInt8) (cs : Array Value) (t : TypeId) (fr : Nat × Nat) (hc : cs.toList = l.map u8v) (hl : l.length ≤ 140737488355328) (n c : Nat) (hn : n = l.length) (hcc : n ≤ c) {g : Nat} (hg : g = w.heap.size) :
    RB (w.alloc (.cells cs t fr)) (fun k => k = w.heap.size) (.slice (some ⟨g, 0, none⟩) n c) l := by
  subst hn
  subst hg
  obtain ⟨cs⟩ := cs
  simp only at hc
  subst hc
  refine ⟨by omega, _, _, rfl, hcc, fun i hi => ⟨_, _, rfl, rfl, ?_⟩⟩
  unfold World.cell?
  rw [heap_alloc_new]
  simp [hi, u8v]
theorem sq5_right : (⟨0, 0, false, false, 4, 0, 0, 0, 0, []⟩ : Pk).right = 1 := by decide +kernel
set_option maxRecDepth 100000 in
set_option maxHeartbeats 8000000 in
theorem shown5_any (w : World) (hg : ET w) : Calls Tryd.prog 23 #[] w fun e w' => e = .returned (.bool true) ∧ Ex (fun _ => False) w w' := by
  obtain ⟨i0, hi, hz0, hz1, hz2⟩ := info_parts Tryd.info5
  have HG := Lib.hid hg
  clear hg
  have hcv0 := fun (w : World) (C : Array Value) (n c : Nat) => Lib.run_convert_bytes_const (P := Tryd.prog) w 22 5 C n c Tryd.underlying22 Tryd.underlying5
  go_enter Tryd.func23, Tryd.ntmps23
  go_upto_region 2 with fail
  clear hcv0
  have hb1 := RB.madeF w [120, 121] #[.int .u8 120, .int .u8 121] 5 (2, 3) rfl (by decide) 2 2 rfl (Nat.le_refl _) rfl
  have hx : Ex (fun _ => False) w (w.alloc (.cells #[.int .u8 120, .int .u8 121] 5 (2, 3))) := (Ex.refl _ w).alloc _
  have hs1 : (w.alloc (.cells #[.int .u8 120, .int .u8 121] 5 (2, 3))).heap.size = w.heap.size + 1 := by simp
  generalize w.alloc (.cells #[.int .u8 120, .int .u8 121] 5 (2, 3)) = w1 at hb1 hx hs1 ⊢
  try simp only [← hs1]
  generalize w.heap.size = b0 at hb1 hs1 ⊢
  clear hs1
  have HX_w1 := Lib.hid hx
  clear hx
  have HB1 := Lib.hid hb1
  clear hb1
  have hx : Ex (fun _ => False) w1 (w1.alloc (.cells #[.int .u8 0, .int .u16 1, .bool false, .bool false, .int .i64 0, .int .u8 64, .int .u8 17, .int .u32 167772161, .int .u32 167772162, .slice (some ⟨b0, 0, none⟩) 2 2] 51)) := (Ex.refl _ w1).alloc _
  have hb : (w1.alloc (.cells #[.int .u8 0, .int .u16 1, .bool false, .bool false, .int .i64 0, .int .u8 64, .int .u8 17, .int .u32 167772161, .int .u32 167772162, .slice (some ⟨b0, 0, none⟩) 2 2] 51)).heap[w1.heap.size]? = some (.cells #[.int .u8 0, .int .u16 1, .bool false, .bool false, .int .i64 0, .int .u8 64, .int .u8 17, .int .u32 167772161, .int .u32 167772162, .slice (some ⟨b0, 0, none⟩) 2 2] 51) := heap_alloc_new w1 _
  obtain ⟨pb0, hpb0⟩ : ∃ pb0, pb0 = w1.heap.size := ⟨_, rfl⟩
  have hb_pb0 : w1.heap.size ≤ pb0 := by omega
  rw [← hpb0] at hb
  try simp only [← hpb0]
  generalize w1.alloc (.cells #[.int .u8 0, .int .u16 1, .bool false, .bool false, .int .i64 0, .int .u8 64, .int .u8 17, .int .u32 167772161, .int .u32 167772162, .slice (some ⟨b0, 0, none⟩) 2 2] 51) = w2 at hx hb ⊢
  clear hpb0
  have HX_w2 := Lib.hid hx
  clear hx
  have B_pb0 := Lib.hid hb
  clear hb
  have cpb00 := row_cell (k := 0) (v := .int .u8 0) B_pb0.out rfl
  have cpb01 := row_cell (k := 1) (v := .int .u16 1) B_pb0.out rfl
  have cpb02 := row_cell (k := 2) (v := .bool false) B_pb0.out rfl
  have cpb03 := row_cell (k := 3) (v := .bool false) B_pb0.out rfl
  have cpb04 := row_cell (k := 4) (v := .int .i64 0) B_pb0.out rfl
  have cpb05 := row_cell (k := 5) (v := .int .u8 64) B_pb0.out rfl
  have cpb06 := row_cell (k := 6) (v := .int .u8 17) B_pb0.out rfl
  have cpb07 := row_cell (k := 7) (v := .int .u32 167772161) B_pb0.out rfl
  have cpb08 := row_cell (k := 8) (v := .int .u32 167772162) B_pb0.out rfl
  have cpb09 := row_cell (k := 9) (v := .slice (some ⟨b0, 0, none⟩) 2 2) B_pb0.out rfl
  go_wp2_with fail
  refine (pbytes_any _ sp5 (some ⟨b0, 0, none⟩) 2 w2 sp5_ok (RB.keep HB1.out HX_w2.out (fun _ _ _ => id)) (by decide)).mono ?_
  rintro e w3 ⟨hx, hcase⟩
  obtain ⟨A3, c3, rfl, ho⟩ : ∃ A' c', e = .returned (.tuple #[.slice (some A') 22 c', .nilIface]) ∧ OB w3 w2.heap.size (.slice (some A') 22 c') [69, 0, 0, 22, 0, 1, 0, 0, 64, 17, 102, 212, 10, 0, 0, 1, 10, 0, 0, 2, 120, 121] := by
    rcases hcase with ⟨h, _⟩ | ⟨_, A', c', h1, h2⟩
    · exact absurd sp5_right h
    · have e1 : pb sp5 = [69, 0, 0, 22, 0, 1, 0, 0, 64, 17, 102, 212, 10, 0, 0, 1, 10, 0, 0, 2, 120, 121] := sb5_is
      rw [e1] at h1 h2
      exact ⟨A', c', h1, h2⟩
  obtain ⟨g3, rfl, hb_g3, hg3⟩ := ho.plain
  clear hcase cpb00 cpb01 cpb02 cpb03 cpb04 cpb05 cpb06 cpb07 cpb08 cpb09
  have HX_w3 := Lib.hid hx
  clear hx
  have HO3 := Lib.hid ho
  clear ho
  have hcc := HO3.out.rb.any
  have hc3 : 22 ≤ c3 := by obtain ⟨_, _, _, e, h, _⟩ := HO3.out.rb; injection e with _ _ e3; rw [e3]; exact h
  clear hcc
  go_wp2_with (first | (at_builtin; refine wpList_append_ob i0 22 Tryd.underlying22 hi hz0 hz1 hz2 rfl (.tmp 27) (.tmp 28) rfl w3.heap.size (.slice (some ⟨w3.heap.size, 0, none⟩) 0 0) [] rfl _ (.slice (some ⟨g3, 0, none⟩) 22 c3) [69, 0, 0, 22, 0, 1, 0, 0, 64, 17, 102, 212, 10, 0, 0, 1, 10, 0, 0, 2, 120, 121] rfl (OB.lit w3 w3.heap.size [] (Nat.le_refl _) (by simp)) (HO3.out.rb.alloc _) (by simp) (by simp) ?_; intro A4 c4 w4 ho4 hg4 hn4 hb4; have hx4 : Ex (fun _ => False) w3 w4 := ((Ex.refl _ w3).alloc _).grown hg4 (fun k hk => .inr (by obtain rfl := Option.some.inj hk; exact Nat.le_refl _)); have HO4 : Hid (OB w4 w3.heap.size (.slice A4 22 c4) [69, 0, 0, 22, 0, 1, 0, 0, 64, 17, 102, 212, 10, 0, 0, 1, 10, 0, 0, 2, 120, 121]) := ho4; have HZ4 := Lib.hid hx4.size; clear ho4 hg4 hn4 hb4) | (at_builtin; refine wpList_append_ob i0 22 Tryd.underlying22 hi hz0 hz1 hz2 rfl (.tmp 29) (.tmp 30) rfl w3.heap.size (.slice A4 22 c4) [69, 0, 0, 22, 0, 1, 0, 0, 64, 17, 102, 212, 10, 0, 0, 1, 10, 0, 0, 2, 120, 121] rfl (fun k => k = w4.heap.size) (.slice (some ⟨w4.heap.size, 0, none⟩) 1 1) [7] rfl (HO4.out.alloc _) (RB.made w4 [7] _ _ ?q1 ?q2 1 1 rfl (Nat.le_refl _) rfl) (by simp) (by have := HZ4.out; simp; omega) ?_; (case q1 => rfl); (case q2 => decide); intro A5 c5 w5 ho5 hg5 hn5 hb5; have hx5 := (hx4.alloc (.cells #[.int .u8 7] 5)).grown hg5 (fun k hk => .inr (HO4.out.lt k hk).1); have HO5 : Hid (OB w5 w3.heap.size (.slice A5 23 c5) ([69, 0, 0, 22, 0, 1, 0, 0, 64, 17, 102, 212, 10, 0, 0, 1, 10, 0, 0, 2, 120, 121] ++ [7])) := ho5; have HN5 := Lib.hid hn5; clear ho5 hg5 hn5 hb5))
  have hA5 : A5 = none → c5 = 0 := fun h => absurd (HN5.out.1 h).2 (by simp)
  have hx := hx5
  clear HN5 HO4 HZ4 hx4 hx5
  have HX_w5 := Lib.hid hx
  clear hx
  have hpe := pb_back sp5_ok sp5_right [7]
  have e1 : pb sp5 = [69, 0, 0, 22, 0, 1, 0, 0, 64, 17, 102, 212, 10, 0, 0, 1, 10, 0, 0, 2, 120, 121] := sb5_is
  rw [e1] at hpe
  have HPE := Lib.hid hpe
  clear hpe e1
  refine (ipparse_any _ A5 23 c5 ([69, 0, 0, 22, 0, 1, 0, 0, 64, 17, 102, 212, 10, 0, 0, 1, 10, 0, 0, 2, 120, 121] ++ [7]) w5 HO5.out.rb hA5 (by decide)).mono ?_
  rintro e w6 ⟨hx, hcase⟩
  obtain ⟨A6, g6, rfl, hgg6, hb6⟩ : ∃ A' g, e = .returned (.tuple #[pkv sp5 (.slice A' 2 2), .nilIface]) ∧ w5.heap.size ≤ g ∧ RB w6 (fun j => j = g) (.slice A' 2 2) [120, 121] := by
    rcases hcase with ⟨r, k, v, h, _⟩ | ⟨_, A', g, o, h1, h3, h2, _⟩
    · rw [HPE.out.1] at h; cases h
    · rw [HPE.out.2] at h1 h2
      exact ⟨A', g, h1, h3, h2⟩
  clear hcase
  have HX_w6 := Lib.hid hx
  clear hx
  have HB6 := Lib.hid hb6
  clear hb6 HPE HO5 hA5
  have hz35 := HX_w5.out.size
  have ne_g6_g3 : g6 ≠ g3 := by omega
  have hv : pkv sp5 (.slice A6 2 2) = .agg #[.int .u8 0, .int .u16 1, .bool false, .bool false, .int .i64 0, .int .u8 64, .int .u8 17, .int .u32 167772161, .int .u32 167772162, .slice A6 2 2] := rfl
  rw [hv]
  clear hv
  go_upto_region 6 with fail
  have hx : Ex (fun _ => False) w6 (w6.alloc (.cells #[.int .u8 0, .int .u16 1, .bool false, .bool false, .int .i64 0, .int .u8 64, .int .u8 17, .int .u32 167772161, .int .u32 167772162, .slice A6 2 2] 51)) := (Ex.refl _ w6).alloc _
  have hb : (w6.alloc (.cells #[.int .u8 0, .int .u16 1, .bool false, .bool false, .int .i64 0, .int .u8 64, .int .u8 17, .int .u32 167772161, .int .u32 167772162, .slice A6 2 2] 51)).heap[w6.heap.size]? = some (.cells #[.int .u8 0, .int .u16 1, .bool false, .bool false, .int .i64 0, .int .u8 64, .int .u8 17, .int .u32 167772161, .int .u32 167772162, .slice A6 2 2] 51) := heap_alloc_new w6 _
  obtain ⟨xb, hxb⟩ : ∃ xb, xb = w6.heap.size := ⟨_, rfl⟩
  have hb_xb : w6.heap.size ≤ xb := by omega
  rw [← hxb] at hb
  try simp only [← hxb]
  generalize w6.alloc (.cells #[.int .u8 0, .int .u16 1, .bool false, .bool false, .int .i64 0, .int .u8 64, .int .u8 17, .int .u32 167772161, .int .u32 167772162, .slice A6 2 2] 51) = w7 at hx hb ⊢
  clear hxb
  have HX_w7 := Lib.hid hx
  clear hx
  have B_xb := Lib.hid hb
  clear hb
  go_wp2_with fail
  refine (ipparse_any _ (some ⟨g3, 0, none⟩) 21 c3 (([69, 0, 0, 22, 0, 1, 0, 0, 64, 17, 102, 212, 10, 0, 0, 1, 10, 0, 0, 2, 120, 121] : List UInt8).take 21) w7 ((OB.keep HO3.out ((HX_w5.out.trans HX_w6.out).trans HX_w7.out) (fun _ _ _ _ => id)).rb.take 21) (fun h => by cases h) (by decide)).mono ?_
  rintro e w8 ⟨hx, hcase⟩
  obtain ⟨v8, rfl, he⟩ : ∃ v, e = .returned (.tuple #[pkv zpk (.slice none 0 0), v]) ∧ EC w8 (fun j => w7.heap.size ≤ j) [lay5] v 2 := by
    rcases hcase with ⟨r, k, v, h, h1, h2⟩ | ⟨h, _⟩
    · have h := sb5_cut.symm.trans h
      simp only [Option.some.injEq, Prod.mk.injEq] at h
      obtain ⟨rfl, rfl⟩ := h
      exact ⟨v, h1, h2⟩
    · exact absurd (sb5_cut.symm.trans h) (by simp)
  clear hcase
  have HX_w8 := Lib.hid hx
  clear hx
  have HE8 := Lib.hid he
  clear he
  have hv : pkv zpk (.slice none 0 0) = .agg #[.int .u8 0, .int .u16 0, .bool false, .bool false, .int .i64 0, .int .u8 0, .int .u8 0, .int .u32 0, .int .u32 0, .slice none 0 0] := rfl
  rw [hv]
  clear hv
  go_upto_region 7 with fail
  have hx : Ex (fun _ => False) w8 (w8.alloc (.cells #[.int .u8 0, .int .u16 0, .bool false, .bool false, .int .i64 0, .int .u8 0, .int .u8 0, .int .u32 0, .int .u32 0, .slice none 0 0] 51)) := (Ex.refl _ w8).alloc _
  have hb : (w8.alloc (.cells #[.int .u8 0, .int .u16 0, .bool false, .bool false, .int .i64 0, .int .u8 0, .int .u8 0, .int .u32 0, .int .u32 0, .slice none 0 0] 51)).heap[w8.heap.size]? = some (.cells #[.int .u8 0, .int .u16 0, .bool false, .bool false, .int .i64 0, .int .u8 0, .int .u8 0, .int .u32 0, .int .u32 0, .slice none 0 0] 51) := heap_alloc_new w8 _
  obtain ⟨zb, hzb⟩ : ∃ zb, zb = w8.heap.size := ⟨_, rfl⟩
  have hb_zb : w8.heap.size ≤ zb := by omega
  rw [← hzb] at hb
  try simp only [← hzb]
  generalize w8.alloc (.cells #[.int .u8 0, .int .u16 0, .bool false, .bool false, .int .i64 0, .int .u8 0, .int .u8 0, .int .u32 0, .int .u32 0, .slice none 0 0] 51) = w9 at hx hb ⊢
  clear hzb
  have HX_w9 := Lib.hid hx
  clear hx
  have B_zb := Lib.hid hb
  clear hb
  replace HO3 := Lib.hid (OB.keep HO3.out ((((HX_w5.out.trans HX_w6.out).trans HX_w7.out).trans HX_w8.out).trans HX_w9.out) (fun _ _ _ _ => id))
  have c8 := HO3.out.cell 8 (by decide)
  have f8 := HO3.out.frozen 8
  have q8 := IntWalk.u8_in (65 : Int) (by omega)
  go_upto_region 8 with fail
  have ho : OB (w9.setCell ⟨g3, 8, none⟩ (.int .u8 65)) w2.heap.size (.slice (some ⟨g3, 0, none⟩) 22 c3) [69, 0, 0, 22, 0, 1, 0, 0, 65, 17, 102, 212, 10, 0, 0, 1, 10, 0, 0, 2, 120, 121] := HO3.out.set 8 65 (.int .u8 65) rfl
  have hx : Ex (fun j => j = g3) w9 (w9.setCell ⟨g3, 8, none⟩ (.int .u8 65)) := (Ex.refl (fun j => j = g3) w9).setCell (p := ⟨g3, 8, none⟩) (.inl rfl) _
  generalize w9.setCell ⟨g3, 8, none⟩ (.int .u8 65) = wA at ho hx ⊢
  clear c8 f8 q8 HO3
  have hpl := row_lt B_pb0.out
  have ne_pb0_g3 : pb0 ≠ g3 := by omega
  have hxl := hg3
  have hzz := (HX_w5.out.trans HX_w6.out).size
  have hzz2 := ((HX_w5.out.trans HX_w6.out).trans HX_w7.out).size
  have ne_xb_g3 : xb ≠ g3 := by omega
  have HX_wA := Lib.hid hx
  clear hx
  have HOA := Lib.hid ho
  clear ho
  go_wp2_with fail
  refine (ipparse_any _ (some ⟨g3, 0, none⟩) 22 c3 [69, 0, 0, 22, 0, 1, 0, 0, 65, 17, 102, 212, 10, 0, 0, 1, 10, 0, 0, 2, 120, 121] wA HOA.out.rb (fun h => by cases h) (by decide)).mono ?_
  rintro e wB ⟨hx, hcase⟩
  obtain ⟨vB, rfl, he⟩ : ∃ v, e = .returned (.tuple #[pkv zpk (.slice none 0 0), v]) ∧ EC wB (fun j => wA.heap.size ≤ j) [lay5] v 4 := by
    rcases hcase with ⟨r, k, v, h, h1, h2⟩ | ⟨h, _⟩
    · have h := sb5_bad.symm.trans h
      simp only [Option.some.injEq, Prod.mk.injEq] at h
      obtain ⟨rfl, rfl⟩ := h
      exact ⟨v, h1, h2⟩
    · exact absurd (sb5_bad.symm.trans h) (by simp)
  clear hcase
  have HX_wB := Lib.hid hx
  clear hx
  have HEB := Lib.hid he
  clear he
  have hv : pkv zpk (.slice none 0 0) = .agg #[.int .u8 0, .int .u16 0, .bool false, .bool false, .int .i64 0, .int .u8 0, .int .u8 0, .int .u32 0, .int .u32 0, .slice none 0 0] := rfl
  rw [hv]
  clear hv
  go_upto_region 9 with fail
  have hx : Ex (fun _ => False) wB (wB.alloc (.cells #[.int .u8 0, .int .u16 0, .bool false, .bool false, .int .i64 0, .int .u8 0, .int .u8 0, .int .u32 0, .int .u32 0, .slice none 0 0] 51)) := (Ex.refl _ wB).alloc _
  have hb : (wB.alloc (.cells #[.int .u8 0, .int .u16 0, .bool false, .bool false, .int .i64 0, .int .u8 0, .int .u8 0, .int .u32 0, .int .u32 0, .slice none 0 0] 51)).heap[wB.heap.size]? = some (.cells #[.int .u8 0, .int .u16 0, .bool false, .bool false, .int .i64 0, .int .u8 0, .int .u8 0, .int .u32 0, .int .u32 0, .slice none 0 0] 51) := heap_alloc_new wB _
  obtain ⟨yb, hyb⟩ : ∃ yb, yb = wB.heap.size := ⟨_, rfl⟩
  have hb_yb : wB.heap.size ≤ yb := by omega
  rw [← hyb] at hb
  try simp only [← hyb]
  generalize wB.alloc (.cells #[.int .u8 0, .int .u16 0, .bool false, .bool false, .int .i64 0, .int .u8 0, .int .u8 0, .int .u32 0, .int .u32 0, .slice none 0 0] 51) = wC at hx hb ⊢
  clear hyb
  have HX_wC := Lib.hid hx
  clear hx
  have B_yb := Lib.hid hb
  clear hb
  go_wp2_with fail
  refine (right_any ⟨0, 0, false, false, 4, 0, 0, 0, 0, []⟩ none 0 wC (by decide)).mono ?_
  rintro e wD ⟨hx, hcase⟩
  obtain ⟨vD, rfl, he⟩ : ∃ v, e = .returned v ∧ EC wD (fun j => wC.heap.size ≤ j) [lay5] v 1 := by
    rcases hcase with ⟨h, _⟩ | ⟨_, v, h1, h2⟩
    · rw [sq5_right] at h; cases h
    · rw [sq5_right] at h2; exact ⟨v, h1, h2⟩
  clear hcase
  have HX_wD := Lib.hid hx
  clear hx
  have HED := Lib.hid he
  clear he
  replace B_pb0 := Lib.hid (((((((((((HX_w3.out.trans HX_w5.out).trans HX_w6.out).trans HX_w7.out).trans HX_w8.out).trans HX_w9.out).andThen HX_wA.out (fun i hi e => by have := hb_g3; omega)).trans HX_wB.out).trans HX_wC.out).trans HX_wD.out).block pb0 (row_lt B_pb0.out) id).trans B_pb0.out)
  have cpb00 := row_cell (k := 0) (v := .int .u8 0) B_pb0.out rfl
  have cpb01 := row_cell (k := 1) (v := .int .u16 1) B_pb0.out rfl
  have cpb02 := row_cell (k := 2) (v := .bool false) B_pb0.out rfl
  have cpb03 := row_cell (k := 3) (v := .bool false) B_pb0.out rfl
  have cpb04 := row_cell (k := 4) (v := .int .i64 0) B_pb0.out rfl
  have cpb05 := row_cell (k := 5) (v := .int .u8 64) B_pb0.out rfl
  have cpb06 := row_cell (k := 6) (v := .int .u8 17) B_pb0.out rfl
  have cpb07 := row_cell (k := 7) (v := .int .u32 167772161) B_pb0.out rfl
  have cpb08 := row_cell (k := 8) (v := .int .u32 167772162) B_pb0.out rfl
  have cpb09 := row_cell (k := 9) (v := .slice (some ⟨b0, 0, none⟩) 2 2) B_pb0.out rfl
  replace B_xb := Lib.hid ((((HX_wB.out.trans HX_wC.out).trans HX_wD.out).block xb (row_lt ((HX_wA.out.block xb (row_lt (((HX_w8.out.trans HX_w9.out).block xb (row_lt B_xb.out) id).trans B_xb.out)) ne_xb_g3).trans (((HX_w8.out.trans HX_w9.out).block xb (row_lt B_xb.out) id).trans B_xb.out))) id).trans ((HX_wA.out.block xb (row_lt (((HX_w8.out.trans HX_w9.out).block xb (row_lt B_xb.out) id).trans B_xb.out)) ne_xb_g3).trans (((HX_w8.out.trans HX_w9.out).block xb (row_lt B_xb.out) id).trans B_xb.out)))
  have cxb0 := row_cell (k := 0) (v := .int .u8 0) B_xb.out rfl
  have cxb1 := row_cell (k := 1) (v := .int .u16 1) B_xb.out rfl
  have cxb2 := row_cell (k := 2) (v := .bool false) B_xb.out rfl
  have cxb3 := row_cell (k := 3) (v := .bool false) B_xb.out rfl
  have cxb4 := row_cell (k := 4) (v := .int .i64 0) B_xb.out rfl
  have cxb5 := row_cell (k := 5) (v := .int .u8 64) B_xb.out rfl
  have cxb6 := row_cell (k := 6) (v := .int .u8 17) B_xb.out rfl
  have cxb7 := row_cell (k := 7) (v := .int .u32 167772161) B_xb.out rfl
  have cxb8 := row_cell (k := 8) (v := .int .u32 167772162) B_xb.out rfl
  have cxb9 := row_cell (k := 9) (v := .slice A6 2 2) B_xb.out rfl
  go_wp2_with fail
  refine (same_any _ _ sp5 sp5 A6 (some ⟨b0, 0, none⟩) 2 2 wD sp5_ok sp5_ok (RB.keep (RB.keep (RB.keep HB6.out ((HX_w7.out.trans HX_w8.out).trans HX_w9.out) (fun _ _ _ => id)) HX_wA.out (fun k _ hk e => ne_g6_g3 (hk.symm.trans e))) ((HX_wB.out.trans HX_wC.out).trans HX_wD.out) (fun _ _ _ => id)) (RB.keep HB1.out ((((((((((HX_w2.out.trans HX_w3.out).trans HX_w5.out).trans HX_w6.out).trans HX_w7.out).trans HX_w8.out).trans HX_w9.out).andThen HX_wA.out (fun i hi e => by have := HX_w2.out.size; have := hb_g3; omega)).trans HX_wB.out).trans HX_wC.out).trans HX_wD.out) (fun _ _ _ => id))).mono ?_
  rintro e wE ⟨rfl, hx⟩
  rw [Pk.eqB_self]
  clear cpb00 cpb01 cpb02 cpb03 cpb04 cpb05 cpb06 cpb07 cpb08 cpb09 cxb0 cxb1 cxb2 cxb3 cxb4 cxb5 cxb6 cxb7 cxb8 cxb9
  have HX_wE := Lib.hid hx
  clear hx
  replace HOA := Lib.hid (OB.keep HOA.out (((HX_wB.out.trans HX_wC.out).trans HX_wD.out).trans HX_wE.out) (fun _ _ _ _ => id))
  have hcv : (convert 22 9 (.slice (some ⟨g3, 0, none⟩) 4 c3)).run Tryd.prog wE = .ok (.string (bs [69, 0, 0, 22])) wE := ((HOA.out.rb.any).take 4).str (Pr := Tryd.prog) 22 9 5 Tryd.underlying22 Tryd.underlying5 Tryd.underlying9
  have hb4 : bs [69, 0, 0, 22] = ⟨#[69, 0, 0, 22]⟩ := rfl
  rw [hb4] at hcv
  clear hb4
  go_wp2_with fail
  refine (told5_any _ _ 2 v8 wE (EC.keep (((HX_wB.out.trans HX_wC.out).trans HX_wD.out).trans HX_wE.out) (fun _ _ => id) (EC.keepB HX_wA.out (by omega) (EC.keep HX_w9.out (fun _ _ => id) HE8.out))) (by decide) (by decide)).mono ?_
  rintro e wF ⟨rfl, hx⟩
  have ht : bs (etx [lay5] 2) = ⟨#[105, 112, 118, 52, 58, 32, 101, 114, 114, 111, 114, 32, 50]⟩ := by decide
  rw [ht]
  clear ht hcv
  have HX_wF := Lib.hid hx
  clear hx
  go_wp2_with fail
  refine (code_any _ _ 4 vB wF (EC.keep (((HX_wC.out.trans HX_wD.out).trans HX_wE.out).trans HX_wF.out) (fun _ _ => id) HEB.out) (HG.out.keep (((((((((((((HX_w1.out.trans HX_w2.out).trans HX_w3.out).trans HX_w5.out).trans HX_w6.out).trans HX_w7.out).trans HX_w8.out).trans HX_w9.out).andThen HX_wA.out (fun i hi e => by have := (HX_w1.out.trans HX_w2.out).size; have := hb_g3; omega)).trans HX_wB.out).trans HX_wC.out).trans HX_wD.out).trans HX_wE.out).trans HX_wF.out) id)).mono ?_
  rintro e wG ⟨rfl, hx⟩
  have HX_wG := Lib.hid hx
  clear hx
  go_wp2_with fail
  refine (code_any _ _ 1 vD wG (EC.keep ((HX_wE.out.trans HX_wF.out).trans HX_wG.out) (fun _ _ => id) HED.out) (HG.out.keep ((((((((((((((HX_w1.out.trans HX_w2.out).trans HX_w3.out).trans HX_w5.out).trans HX_w6.out).trans HX_w7.out).trans HX_w8.out).trans HX_w9.out).andThen HX_wA.out (fun i hi e => by have := (HX_w1.out.trans HX_w2.out).size; have := hb_g3; omega)).trans HX_wB.out).trans HX_wC.out).trans HX_wD.out).trans HX_wE.out).trans HX_wF.out).trans HX_wG.out) id)).mono ?_
  rintro e wH ⟨rfl, hx⟩
  have HX_wH := Lib.hid hx
  clear hx
  go_wp2_with fail
  go_ret
  exact ⟨rfl, (((((((((((((((HX_w1.out.trans HX_w2.out).trans HX_w3.out).trans HX_w5.out).trans HX_w6.out).trans HX_w7.out).trans HX_w8.out).trans HX_w9.out).andThen HX_wA.out (fun i hi e => by have := (HX_w1.out.trans HX_w2.out).size; have := hb_g3; omega)).trans HX_wB.out).trans HX_wC.out).trans HX_wD.out).trans HX_wE.out).trans HX_wF.out).trans HX_wG.out).trans HX_wH.out)⟩
end Go.Proofs.YtfcfpkhcpijkfaaDoor
