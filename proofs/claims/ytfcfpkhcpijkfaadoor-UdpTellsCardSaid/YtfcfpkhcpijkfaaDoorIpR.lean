/-
  The contract of ipv4.Right. By an AI agent.
-/
import Derived.Test.YtfcfpkhcpijkfaaDoorWr05
namespace Go.Proofs.YtfcfpkhcpijkfaaDoor
open Go.RowKit

/-- a packet as a value -/
def pkv (p : Pk) (u : Value) : Value := .agg #[.int .u8 p.tos, .int .u16 p.id, .bool p.df, .bool p.mf, .int .i64 p.off, .int .u8 p.ttl, .int .u8 p.pr, .int .u32 p.src, .int .u32 p.dst, u]
set_option maxRecDepth 100000 in
theorem right_1 (tos id : Int) (df mf : Bool) (off ttl pr src dst : Int) (b : List UInt8) (A : Option Addr) (c : Nat) (w : World) (_hn : b.length ≤ 140737488355328) (h : off < 0) :
    Calls Tryd.prog 31 #[.agg #[.int .u8 tos, .int .u16 id, .bool df, .bool mf, .int .i64 off, .int .u8 ttl, .int .u8 pr, .int .u32 src, .int .u32 dst, .slice A b.length c]] w fun e w' => Ex (fun _ => False) w w' ∧ ∃ v, e = .returned v ∧ EC w' (fun j => w.heap.size ≤ j) [lay5] v 1 := by
  go_enter Tryd.func31, Tryd.ntmps31
  have hx0 : Ex (fun _ => False) w (w.alloc (.cells #[.int .u8 tos, .int .u16 id, .bool df, .bool mf, .int .i64 off, .int .u8 ttl, .int .u8 pr, .int .u32 src, .int .u32 dst, .slice A b.length c] 51)) := (Ex.refl _ w).alloc _
  have hs := hx0.size
  have HX0 := Lib.hid hx0
  clear hx0
  go_wp2_with fail
  refine (wrong5_no 1 _).mono ?_
  rintro e w' ⟨v, rfl, he, hx⟩
  have HE := Lib.hid he
  have HX := Lib.hid hx
  clear he hx
  go_wp2_with fail
  go_ret
  exact ⟨HX0.out.trans HX.out, v, rfl, EC.mono (fun j hj => by omega) HE.out⟩
set_option maxRecDepth 100000 in
theorem right_2 (tos id : Int) (df mf : Bool) (off ttl pr src dst : Int) (b : List UInt8) (A : Option Addr) (c : Nat) (w : World) (_hn : b.length ≤ 140737488355328) (h : 0 ≤ off) (h8 : off % 8 ≠ 0) :
    Calls Tryd.prog 31 #[.agg #[.int .u8 tos, .int .u16 id, .bool df, .bool mf, .int .i64 off, .int .u8 ttl, .int .u8 pr, .int .u32 src, .int .u32 dst, .slice A b.length c]] w fun e w' => Ex (fun _ => False) w w' ∧ ∃ v, e = .returned v ∧ EC w' (fun j => w.heap.size ≤ j) [lay5] v 1 := by
  have e1 : (off % 8 != 0) = true := by rw [bne_iff_ne]; exact h8
  clear h8
  go_enter Tryd.func31, Tryd.ntmps31
  have hx0 : Ex (fun _ => False) w (w.alloc (.cells #[.int .u8 tos, .int .u16 id, .bool df, .bool mf, .int .i64 off, .int .u8 ttl, .int .u8 pr, .int .u32 src, .int .u32 dst, .slice A b.length c] 51)) := (Ex.refl _ w).alloc _
  have hs := hx0.size
  have HX0 := Lib.hid hx0
  clear hx0
  go_wp2_with fail
  refine (wrong5_no 1 _).mono ?_
  rintro e w' ⟨v, rfl, he, hx⟩
  have HE := Lib.hid he
  have HX := Lib.hid hx
  clear he hx
  go_wp2_with fail
  go_ret
  exact ⟨HX0.out.trans HX.out, v, rfl, EC.mono (fun j hj => by omega) HE.out⟩
set_option maxRecDepth 100000 in
theorem right_3 (tos id : Int) (df : Bool) (off ttl pr src dst : Int) (b : List UInt8) (A : Option Addr) (c : Nat) (w : World) (_hn : b.length ≤ 140737488355328) (h : 0 ≤ off) (h8 : off % 8 = 0) (hb : b.length = 0) :
    Calls Tryd.prog 31 #[.agg #[.int .u8 tos, .int .u16 id, .bool df, .bool true, .int .i64 off, .int .u8 ttl, .int .u8 pr, .int .u32 src, .int .u32 dst, .slice A b.length c]] w fun e w' => Ex (fun _ => False) w w' ∧ ∃ v, e = .returned v ∧ EC w' (fun j => w.heap.size ≤ j) [lay5] v 1 := by
  have e1 : (off % 8 != 0) = false := by simp; omega
  have e2 : ((b.length : Int) == 0) = true := by simp; exact List.length_eq_zero_iff.1 hb
  clear h8 hb
  go_enter Tryd.func31, Tryd.ntmps31
  have hx0 : Ex (fun _ => False) w (w.alloc (.cells #[.int .u8 tos, .int .u16 id, .bool df, .bool true, .int .i64 off, .int .u8 ttl, .int .u8 pr, .int .u32 src, .int .u32 dst, .slice A b.length c] 51)) := (Ex.refl _ w).alloc _
  have hs := hx0.size
  have HX0 := Lib.hid hx0
  clear hx0
  go_wp2_with fail
  refine (wrong5_no 1 _).mono ?_
  rintro e w' ⟨v, rfl, he, hx⟩
  have HE := Lib.hid he
  have HX := Lib.hid hx
  clear he hx
  go_wp2_with fail
  go_ret
  exact ⟨HX0.out.trans HX.out, v, rfl, EC.mono (fun j hj => by omega) HE.out⟩
set_option maxRecDepth 100000 in
theorem right_4 (tos id : Int) (df : Bool) (off ttl pr src dst : Int) (b : List UInt8) (A : Option Addr) (c : Nat) (w : World) (hn : b.length ≤ 140737488355328) (h : 0 ≤ off) (h8 : off % 8 = 0) (hb : b.length % 8 ≠ 0) :
    Calls Tryd.prog 31 #[.agg #[.int .u8 tos, .int .u16 id, .bool df, .bool true, .int .i64 off, .int .u8 ttl, .int .u8 pr, .int .u32 src, .int .u32 dst, .slice A b.length c]] w fun e w' => Ex (fun _ => False) w w' ∧ ∃ v, e = .returned v ∧ EC w' (fun j => w.heap.size ≤ j) [lay5] v 1 := by
  have e1 : (off % 8 != 0) = false := by simp; omega
  have e2 : ((b.length : Int) == 0) = false := by rw [beq_eq_false_iff_ne]; omega
  have e3 : ((b.length : Int) % 8 != 0) = true := by rw [bne_iff_ne]; omega
  clear h8 hb
  go_enter Tryd.func31, Tryd.ntmps31
  have hx0 : Ex (fun _ => False) w (w.alloc (.cells #[.int .u8 tos, .int .u16 id, .bool df, .bool true, .int .i64 off, .int .u8 ttl, .int .u8 pr, .int .u32 src, .int .u32 dst, .slice A b.length c] 51)) := (Ex.refl _ w).alloc _
  have hs := hx0.size
  have HX0 := Lib.hid hx0
  clear hx0
  go_wp2_with fail
  refine (wrong5_no 1 _).mono ?_
  rintro e w' ⟨v, rfl, he, hx⟩
  have HE := Lib.hid he
  have HX := Lib.hid hx
  clear he hx
  go_wp2_with fail
  go_ret
  exact ⟨HX0.out.trans HX.out, v, rfl, EC.mono (fun j hj => by omega) HE.out⟩
set_option maxRecDepth 100000 in
theorem right_5f (tos id : Int) (df : Bool) (off ttl pr src dst : Int) (b : List UInt8) (A : Option Addr) (c : Nat) (w : World) (_hn : b.length ≤ 140737488355328) (h : 0 ≤ off) (h8 : off % 8 = 0) (hf : 65535 < off) :
    Calls Tryd.prog 31 #[.agg #[.int .u8 tos, .int .u16 id, .bool df, .bool false, .int .i64 off, .int .u8 ttl, .int .u8 pr, .int .u32 src, .int .u32 dst, .slice A b.length c]] w fun e w' => Ex (fun _ => False) w w' ∧ ∃ v, e = .returned v ∧ EC w' (fun j => w.heap.size ≤ j) [lay5] v 7 := by
  have e1 : (off % 8 != 0) = false := by simp; omega
  clear h8
  go_enter Tryd.func31, Tryd.ntmps31
  have hx0 : Ex (fun _ => False) w (w.alloc (.cells #[.int .u8 tos, .int .u16 id, .bool df, .bool false, .int .i64 off, .int .u8 ttl, .int .u8 pr, .int .u32 src, .int .u32 dst, .slice A b.length c] 51)) := (Ex.refl _ w).alloc _
  have hs := hx0.size
  have HX0 := Lib.hid hx0
  clear hx0
  go_wp2_with fail
  refine (wrong5_no 7 _).mono ?_
  rintro e w' ⟨v, rfl, he, hx⟩
  have HE := Lib.hid he
  have HX := Lib.hid hx
  clear he hx
  go_wp2_with fail
  go_ret
  exact ⟨HX0.out.trans HX.out, v, rfl, EC.mono (fun j hj => by omega) HE.out⟩
set_option maxRecDepth 100000 in
theorem right_6f (tos id : Int) (df : Bool) (off ttl pr src dst : Int) (b : List UInt8) (A : Option Addr) (c : Nat) (w : World) (hn : b.length ≤ 140737488355328) (h : 0 ≤ off) (h8 : off % 8 = 0) (hf : off ≤ 65535) (hg : 65535 < 20 + off + (b.length : Int)) :
    Calls Tryd.prog 31 #[.agg #[.int .u8 tos, .int .u16 id, .bool df, .bool false, .int .i64 off, .int .u8 ttl, .int .u8 pr, .int .u32 src, .int .u32 dst, .slice A b.length c]] w fun e w' => Ex (fun _ => False) w w' ∧ ∃ v, e = .returned v ∧ EC w' (fun j => w.heap.size ≤ j) [lay5] v 7 := by
  have e1 : (off % 8 != 0) = false := by simp; omega
  clear h8
  go_enter Tryd.func31, Tryd.ntmps31
  have hx0 : Ex (fun _ => False) w (w.alloc (.cells #[.int .u8 tos, .int .u16 id, .bool df, .bool false, .int .i64 off, .int .u8 ttl, .int .u8 pr, .int .u32 src, .int .u32 dst, .slice A b.length c] 51)) := (Ex.refl _ w).alloc _
  have hs := hx0.size
  have HX0 := Lib.hid hx0
  clear hx0
  go_wp2_with fail
  refine (wrong5_no 7 _).mono ?_
  rintro e w' ⟨v, rfl, he, hx⟩
  have HE := Lib.hid he
  have HX := Lib.hid hx
  clear he hx
  go_wp2_with fail
  go_ret
  exact ⟨HX0.out.trans HX.out, v, rfl, EC.mono (fun j hj => by omega) HE.out⟩
set_option maxRecDepth 100000 in
theorem right_7f (tos id : Int) (df : Bool) (off ttl pr src dst : Int) (b : List UInt8) (A : Option Addr) (c : Nat) (w : World) (hn : b.length ≤ 140737488355328) (h : 0 ≤ off) (h8 : off % 8 = 0) (hf : off ≤ 65535) (hg : 20 + off + (b.length : Int) ≤ 65535) :
    Calls Tryd.prog 31 #[.agg #[.int .u8 tos, .int .u16 id, .bool df, .bool false, .int .i64 off, .int .u8 ttl, .int .u8 pr, .int .u32 src, .int .u32 dst, .slice A b.length c]] w fun e w' => Ex (fun _ => False) w w' ∧ e = .returned .nilIface := by
  have e1 : (off % 8 != 0) = false := by simp; omega
  clear h8
  go_enter Tryd.func31, Tryd.ntmps31
  go_wp2_with fail
  go_ret
  exact ⟨(Ex.refl _ w).alloc _, rfl⟩
set_option maxRecDepth 100000 in
theorem right_5t (tos id : Int) (df : Bool) (off ttl pr src dst : Int) (b : List UInt8) (A : Option Addr) (c : Nat) (w : World) (hn : b.length ≤ 140737488355328) (h : 0 ≤ off) (h8 : off % 8 = 0) (hb : b.length ≠ 0 ∧ b.length % 8 = 0) (hf : 65535 < off) :
    Calls Tryd.prog 31 #[.agg #[.int .u8 tos, .int .u16 id, .bool df, .bool true, .int .i64 off, .int .u8 ttl, .int .u8 pr, .int .u32 src, .int .u32 dst, .slice A b.length c]] w fun e w' => Ex (fun _ => False) w w' ∧ ∃ v, e = .returned v ∧ EC w' (fun j => w.heap.size ≤ j) [lay5] v 7 := by
  have e1 : (off % 8 != 0) = false := by simp; omega
  have e2 : ((b.length : Int) == 0) = false := by rw [beq_eq_false_iff_ne]; omega
  have e3 : ((b.length : Int) % 8 != 0) = false := by rw [Bool.eq_false_iff]; rw [Ne, bne_iff_ne]; omega
  clear h8 hb
  go_enter Tryd.func31, Tryd.ntmps31
  have hx0 : Ex (fun _ => False) w (w.alloc (.cells #[.int .u8 tos, .int .u16 id, .bool df, .bool true, .int .i64 off, .int .u8 ttl, .int .u8 pr, .int .u32 src, .int .u32 dst, .slice A b.length c] 51)) := (Ex.refl _ w).alloc _
  have hs := hx0.size
  have HX0 := Lib.hid hx0
  clear hx0
  go_wp2_with fail
  refine (wrong5_no 7 _).mono ?_
  rintro e w' ⟨v, rfl, he, hx⟩
  have HE := Lib.hid he
  have HX := Lib.hid hx
  clear he hx
  go_wp2_with fail
  go_ret
  exact ⟨HX0.out.trans HX.out, v, rfl, EC.mono (fun j hj => by omega) HE.out⟩
set_option maxRecDepth 100000 in
theorem right_6t (tos id : Int) (df : Bool) (off ttl pr src dst : Int) (b : List UInt8) (A : Option Addr) (c : Nat) (w : World) (hn : b.length ≤ 140737488355328) (h : 0 ≤ off) (h8 : off % 8 = 0) (hb : b.length ≠ 0 ∧ b.length % 8 = 0) (hf : off ≤ 65535) (hg : 65535 < 20 + off + (b.length : Int)) :
    Calls Tryd.prog 31 #[.agg #[.int .u8 tos, .int .u16 id, .bool df, .bool true, .int .i64 off, .int .u8 ttl, .int .u8 pr, .int .u32 src, .int .u32 dst, .slice A b.length c]] w fun e w' => Ex (fun _ => False) w w' ∧ ∃ v, e = .returned v ∧ EC w' (fun j => w.heap.size ≤ j) [lay5] v 7 := by
  have e1 : (off % 8 != 0) = false := by simp; omega
  have e2 : ((b.length : Int) == 0) = false := by rw [beq_eq_false_iff_ne]; omega
  have e3 : ((b.length : Int) % 8 != 0) = false := by rw [Bool.eq_false_iff]; rw [Ne, bne_iff_ne]; omega
  clear h8 hb
  go_enter Tryd.func31, Tryd.ntmps31
  have hx0 : Ex (fun _ => False) w (w.alloc (.cells #[.int .u8 tos, .int .u16 id, .bool df, .bool true, .int .i64 off, .int .u8 ttl, .int .u8 pr, .int .u32 src, .int .u32 dst, .slice A b.length c] 51)) := (Ex.refl _ w).alloc _
  have hs := hx0.size
  have HX0 := Lib.hid hx0
  clear hx0
  go_wp2_with fail
  refine (wrong5_no 7 _).mono ?_
  rintro e w' ⟨v, rfl, he, hx⟩
  have HE := Lib.hid he
  have HX := Lib.hid hx
  clear he hx
  go_wp2_with fail
  go_ret
  exact ⟨HX0.out.trans HX.out, v, rfl, EC.mono (fun j hj => by omega) HE.out⟩
set_option maxRecDepth 100000 in
theorem right_7t (tos id : Int) (df : Bool) (off ttl pr src dst : Int) (b : List UInt8) (A : Option Addr) (c : Nat) (w : World) (hn : b.length ≤ 140737488355328) (h : 0 ≤ off) (h8 : off % 8 = 0) (hb : b.length ≠ 0 ∧ b.length % 8 = 0) (hf : off ≤ 65535) (hg : 20 + off + (b.length : Int) ≤ 65535) :
    Calls Tryd.prog 31 #[.agg #[.int .u8 tos, .int .u16 id, .bool df, .bool true, .int .i64 off, .int .u8 ttl, .int .u8 pr, .int .u32 src, .int .u32 dst, .slice A b.length c]] w fun e w' => Ex (fun _ => False) w w' ∧ e = .returned .nilIface := by
  have e1 : (off % 8 != 0) = false := by simp; omega
  have e2 : ((b.length : Int) == 0) = false := by rw [beq_eq_false_iff_ne]; omega
  have e3 : ((b.length : Int) % 8 != 0) = false := by rw [Bool.eq_false_iff]; rw [Ne, bne_iff_ne]; omega
  clear h8 hb
  go_enter Tryd.func31, Tryd.ntmps31
  go_wp2_with fail
  go_ret
  exact ⟨(Ex.refl _ w).alloc _, rfl⟩
theorem right_any (p : Pk) (A : Option Addr) (c : Nat) (w : World) (hn : p.b.length ≤ 140737488355328) :
    Calls Tryd.prog 31 #[pkv p (.slice A p.b.length c)] w fun e w' => Ex (fun _ => False) w w' ∧ ((p.right = 0 ∧ e = .returned .nilIface) ∨ (p.right ≠ 0 ∧ ∃ v, e = .returned v ∧ EC w' (fun j => w.heap.size ≤ j) [lay5] v p.right)) := by
  obtain ⟨tos, id, df, mf, off, ttl, pr, src, dst, b⟩ := p
  simp only at hn
  have bad : ∀ k, (⟨tos, id, df, mf, off, ttl, pr, src, dst, b⟩ : Pk).right = k → k ≠ 0 → ∀ (e : Ending) (w' : World), (Ex (fun _ => False) w w' ∧ ∃ v, e = .returned v ∧ EC w' (fun j => w.heap.size ≤ j) [lay5] v k) →
      Ex (fun _ => False) w w' ∧ (((⟨tos, id, df, mf, off, ttl, pr, src, dst, b⟩ : Pk).right = 0 ∧ e = .returned .nilIface) ∨ ((⟨tos, id, df, mf, off, ttl, pr, src, dst, b⟩ : Pk).right ≠ 0 ∧ ∃ v, e = .returned v ∧ EC w' (fun j => w.heap.size ≤ j) [lay5] v (⟨tos, id, df, mf, off, ttl, pr, src, dst, b⟩ : Pk).right)) := by
    rintro k rfl hk e w' ⟨hx, h⟩
    exact ⟨hx, .inr ⟨hk, h⟩⟩
  by_cases h0 : off < 0
  · exact (right_1 tos id df mf off ttl pr src dst b A c w hn h0).mono (bad 1 (by unfold Pk.right; rw [if_pos (.inl h0)]) (by decide))
  by_cases h8 : off % 8 = 0
  case neg => exact (right_2 tos id df mf off ttl pr src dst b A c w hn (by omega) h8).mono (bad 1 (by unfold Pk.right; rw [if_pos (.inr (.inl h8))]) (by decide))
  have h0' : 0 ≤ off := by omega
  cases mf with
  | true =>
    by_cases hb : b.length = 0
    · exact (right_3 tos id df off ttl pr src dst b A c w hn h0' h8 hb).mono (bad 1 (by unfold Pk.right; rw [if_pos (.inr (.inr ⟨rfl, .inl hb⟩))]) (by decide))
    by_cases hb8 : b.length % 8 = 0
    case neg => exact (right_4 tos id df off ttl pr src dst b A c w hn h0' h8 hb8).mono (bad 1 (by unfold Pk.right; rw [if_pos (.inr (.inr ⟨rfl, .inr hb8⟩))]) (by decide))
    have hneg : ¬ (off < 0 ∨ off % 8 ≠ 0 ∨ (true = true ∧ (b.length = 0 ∨ b.length % 8 ≠ 0))) := by omega
    by_cases hf : 65535 < off
    · exact (right_5t tos id df off ttl pr src dst b A c w hn h0' h8 ⟨hb, hb8⟩ hf).mono (bad 7 (by unfold Pk.right; rw [if_neg hneg, if_pos (.inl hf)]) (by decide))
    by_cases hg : 65535 < 20 + off + (b.length : Int)
    · exact (right_6t tos id df off ttl pr src dst b A c w hn h0' h8 ⟨hb, hb8⟩ (by omega) hg).mono (bad 7 (by unfold Pk.right; rw [if_neg hneg, if_pos (.inr hg)]) (by decide))
    refine (right_7t tos id df off ttl pr src dst b A c w hn h0' h8 ⟨hb, hb8⟩ (by omega) (by omega)).mono ?_
    rintro e w' ⟨hx, rfl⟩
    exact ⟨hx, .inl ⟨by unfold Pk.right; rw [if_neg hneg, if_neg (by simp only; omega)], rfl⟩⟩
  | false =>
    have hneg : ¬ (off < 0 ∨ off % 8 ≠ 0 ∨ (false = true ∧ (b.length = 0 ∨ b.length % 8 ≠ 0))) := by simp; omega
    by_cases hf : 65535 < off
    · exact (right_5f tos id df off ttl pr src dst b A c w hn h0' h8 hf).mono (bad 7 (by unfold Pk.right; rw [if_neg hneg, if_pos (.inl hf)]) (by decide))
    by_cases hg : 65535 < 20 + off + (b.length : Int)
    · exact (right_6f tos id df off ttl pr src dst b A c w hn h0' h8 (by omega) hg).mono (bad 7 (by unfold Pk.right; rw [if_neg hneg, if_pos (.inr hg)]) (by decide))
    refine (right_7f tos id df off ttl pr src dst b A c w hn h0' h8 (by omega) (by omega)).mono ?_
    rintro e w' ⟨hx, rfl⟩
    exact ⟨hx, .inl ⟨by unfold Pk.right; rw [if_neg hneg, if_neg (by simp only; omega)], rfl⟩⟩
end Go.Proofs.YtfcfpkhcpijkfaaDoor
