/-
  The contract of the reference's Right of a packet. By an AI agent.
-/
import Derived.Test.YtabjihchcmjdmaaDoorGb10
namespace Go.Proofs.YtabjihchcmjdmaaDoor
open Go.RowKit

theorem tx51 : bs (etx [lay5] 1) = ⟨#[105, 112, 118, 52, 58, 32, 101, 114, 114, 111, 114, 32, 49]⟩ := by decide
theorem tx57 : bs (etx [lay5] 7) = ⟨#[105, 112, 118, 52, 58, 32, 101, 114, 114, 111, 114, 32, 55]⟩ := by decide
/-- what is wrong, as a text -/
def rtx (r : List (List UInt8)) (k : Nat) : ByteArray := if k = 0 then ⟨#[]⟩ else bs (etx r k)
set_option maxRecDepth 100000 in
theorem rright_1 (tos id : Int) (df mf : Bool) (off ttl pr src dst : Int) (b : List UInt8) (w : World) (_hn : b.length ≤ 140737488355328) (h : off < 0) :
    Calls Tryd.prog 28 #[.agg #[.int .u32 tos, .int .u32 id, .bool df, .bool mf, .int .i64 off, .int .u32 ttl, .int .u32 pr, .int .u32 src, .int .u32 dst, .string (bs b)]] w fun e w' => e = .returned (.string ⟨#[105, 112, 118, 52, 58, 32, 101, 114, 114, 111, 114, 32, 49]⟩) ∧ Ex (fun _ => False) w w' := by
  have hz := bs_size b
  go_enter Tryd.func28, Tryd.ntmps28
  go_wp2_with fail
  go_ret
  exact ⟨rfl, (Ex.refl _ w).alloc _⟩
set_option maxRecDepth 100000 in
theorem rright_2 (tos id : Int) (df mf : Bool) (off ttl pr src dst : Int) (b : List UInt8) (w : World) (_hn : b.length ≤ 140737488355328) (h : 0 ≤ off) (h8 : off % 8 ≠ 0) :
    Calls Tryd.prog 28 #[.agg #[.int .u32 tos, .int .u32 id, .bool df, .bool mf, .int .i64 off, .int .u32 ttl, .int .u32 pr, .int .u32 src, .int .u32 dst, .string (bs b)]] w fun e w' => e = .returned (.string ⟨#[105, 112, 118, 52, 58, 32, 101, 114, 114, 111, 114, 32, 49]⟩) ∧ Ex (fun _ => False) w w' := by
  have hz := bs_size b
  have e1 : (off % 8 != 0) = true := by rw [bne_iff_ne]; exact h8
  clear h8
  go_enter Tryd.func28, Tryd.ntmps28
  go_wp2_with fail
  go_ret
  exact ⟨rfl, (Ex.refl _ w).alloc _⟩
set_option maxRecDepth 100000 in
theorem rright_3 (tos id : Int) (df : Bool) (off ttl pr src dst : Int) (b : List UInt8) (w : World) (_hn : b.length ≤ 140737488355328) (h : 0 ≤ off) (h8 : off % 8 = 0) (hb : b.length = 0) :
    Calls Tryd.prog 28 #[.agg #[.int .u32 tos, .int .u32 id, .bool df, .bool true, .int .i64 off, .int .u32 ttl, .int .u32 pr, .int .u32 src, .int .u32 dst, .string (bs b)]] w fun e w' => e = .returned (.string ⟨#[105, 112, 118, 52, 58, 32, 101, 114, 114, 111, 114, 32, 49]⟩) ∧ Ex (fun _ => False) w w' := by
  have hz := bs_size b
  have e1 : (off % 8 != 0) = false := by simp; omega
  obtain rfl := List.length_eq_zero_iff.1 hb
  have hb0 : bs [] = ⟨#[]⟩ := rfl
  clear h8 hb
  go_enter Tryd.func28, Tryd.ntmps28
  go_wp2_with fail
  go_ret
  exact ⟨rfl, (Ex.refl _ w).alloc _⟩
set_option maxRecDepth 100000 in
theorem rright_4 (tos id : Int) (df : Bool) (off ttl pr src dst : Int) (b : List UInt8) (w : World) (hn : b.length ≤ 140737488355328) (h : 0 ≤ off) (h8 : off % 8 = 0) (hb : b.length % 8 ≠ 0) :
    Calls Tryd.prog 28 #[.agg #[.int .u32 tos, .int .u32 id, .bool df, .bool true, .int .i64 off, .int .u32 ttl, .int .u32 pr, .int .u32 src, .int .u32 dst, .string (bs b)]] w fun e w' => e = .returned (.string ⟨#[105, 112, 118, 52, 58, 32, 101, 114, 114, 111, 114, 32, 49]⟩) ∧ Ex (fun _ => False) w w' := by
  have hz := bs_size b
  have e1 : (off % 8 != 0) = false := by simp; omega
  have HB0 : b ≠ [] := by intro h; subst h; exact hb rfl
  have hne1 : ((bs b).toList == (bs []).toList) = false := by rw [beq_eq_false_iff_ne]; intro h; rw [bs_toL _ _ h] at HB0; exact HB0 rfl
  have hne2 : (bs b).toList ≠ [] := by intro h; rw [ByteArray.toList_eq, bs_toList] at h; exact HB0 h
  have hne3 : (!(bs b).toList.isEmpty) = true := by rw [Bool.not_eq_true', List.isEmpty_eq_false_iff]; exact hne2
  have hne4 : (bs b).toList.isEmpty = false := by rw [List.isEmpty_eq_false_iff]; exact hne2
  clear HB0
  have e3 : ((b.length : Int) % 8 != 0) = true := by rw [bne_iff_ne]; omega
  clear h8 hb
  go_enter Tryd.func28, Tryd.ntmps28
  go_wp2_with fail
  go_ret
  exact ⟨rfl, (Ex.refl _ w).alloc _⟩
set_option maxRecDepth 100000 in
theorem rright_5f (tos id : Int) (df : Bool) (off ttl pr src dst : Int) (b : List UInt8) (w : World) (_hn : b.length ≤ 140737488355328) (h : 0 ≤ off) (h8 : off % 8 = 0) (hf : 65535 < off) :
    Calls Tryd.prog 28 #[.agg #[.int .u32 tos, .int .u32 id, .bool df, .bool false, .int .i64 off, .int .u32 ttl, .int .u32 pr, .int .u32 src, .int .u32 dst, .string (bs b)]] w fun e w' => e = .returned (.string ⟨#[105, 112, 118, 52, 58, 32, 101, 114, 114, 111, 114, 32, 55]⟩) ∧ Ex (fun _ => False) w w' := by
  have hz := bs_size b
  have e1 : (off % 8 != 0) = false := by simp; omega
  clear h8
  go_enter Tryd.func28, Tryd.ntmps28
  go_wp2_with fail
  go_ret
  exact ⟨rfl, (Ex.refl _ w).alloc _⟩
set_option maxRecDepth 100000 in
theorem rright_6f (tos id : Int) (df : Bool) (off ttl pr src dst : Int) (b : List UInt8) (w : World) (hn : b.length ≤ 140737488355328) (h : 0 ≤ off) (h8 : off % 8 = 0) (hf : off ≤ 65535) (hg : 65535 < 20 + off + (b.length : Int)) :
    Calls Tryd.prog 28 #[.agg #[.int .u32 tos, .int .u32 id, .bool df, .bool false, .int .i64 off, .int .u32 ttl, .int .u32 pr, .int .u32 src, .int .u32 dst, .string (bs b)]] w fun e w' => e = .returned (.string ⟨#[105, 112, 118, 52, 58, 32, 101, 114, 114, 111, 114, 32, 55]⟩) ∧ Ex (fun _ => False) w w' := by
  have hz := bs_size b
  have e1 : (off % 8 != 0) = false := by simp; omega
  clear h8
  go_enter Tryd.func28, Tryd.ntmps28
  go_wp2_with fail
  go_ret
  exact ⟨rfl, (Ex.refl _ w).alloc _⟩
set_option maxRecDepth 100000 in
theorem rright_7f (tos id : Int) (df : Bool) (off ttl pr src dst : Int) (b : List UInt8) (w : World) (hn : b.length ≤ 140737488355328) (h : 0 ≤ off) (h8 : off % 8 = 0) (hf : off ≤ 65535) (hg : 20 + off + (b.length : Int) ≤ 65535) :
    Calls Tryd.prog 28 #[.agg #[.int .u32 tos, .int .u32 id, .bool df, .bool false, .int .i64 off, .int .u32 ttl, .int .u32 pr, .int .u32 src, .int .u32 dst, .string (bs b)]] w fun e w' => e = .returned (.string ⟨#[]⟩) ∧ Ex (fun _ => False) w w' := by
  have hz := bs_size b
  have e1 : (off % 8 != 0) = false := by simp; omega
  clear h8
  go_enter Tryd.func28, Tryd.ntmps28
  go_wp2_with fail
  go_ret
  exact ⟨rfl, (Ex.refl _ w).alloc _⟩
set_option maxRecDepth 100000 in
theorem rright_5t (tos id : Int) (df : Bool) (off ttl pr src dst : Int) (b : List UInt8) (w : World) (hn : b.length ≤ 140737488355328) (h : 0 ≤ off) (h8 : off % 8 = 0) (hb : b.length ≠ 0 ∧ b.length % 8 = 0) (hf : 65535 < off) :
    Calls Tryd.prog 28 #[.agg #[.int .u32 tos, .int .u32 id, .bool df, .bool true, .int .i64 off, .int .u32 ttl, .int .u32 pr, .int .u32 src, .int .u32 dst, .string (bs b)]] w fun e w' => e = .returned (.string ⟨#[105, 112, 118, 52, 58, 32, 101, 114, 114, 111, 114, 32, 55]⟩) ∧ Ex (fun _ => False) w w' := by
  have hz := bs_size b
  have e1 : (off % 8 != 0) = false := by simp; omega
  have HB0 : b ≠ [] := by intro h; subst h; exact hb.1 rfl
  have hne1 : ((bs b).toList == (bs []).toList) = false := by rw [beq_eq_false_iff_ne]; intro h; rw [bs_toL _ _ h] at HB0; exact HB0 rfl
  have hne2 : (bs b).toList ≠ [] := by intro h; rw [ByteArray.toList_eq, bs_toList] at h; exact HB0 h
  have hne3 : (!(bs b).toList.isEmpty) = true := by rw [Bool.not_eq_true', List.isEmpty_eq_false_iff]; exact hne2
  have hne4 : (bs b).toList.isEmpty = false := by rw [List.isEmpty_eq_false_iff]; exact hne2
  clear HB0
  have e3 : ((b.length : Int) % 8 != 0) = false := by rw [Bool.eq_false_iff]; rw [Ne, bne_iff_ne]; omega
  clear h8 hb
  go_enter Tryd.func28, Tryd.ntmps28
  go_wp2_with fail
  go_ret
  exact ⟨rfl, (Ex.refl _ w).alloc _⟩
set_option maxRecDepth 100000 in
theorem rright_6t (tos id : Int) (df : Bool) (off ttl pr src dst : Int) (b : List UInt8) (w : World) (hn : b.length ≤ 140737488355328) (h : 0 ≤ off) (h8 : off % 8 = 0) (hb : b.length ≠ 0 ∧ b.length % 8 = 0) (hf : off ≤ 65535) (hg : 65535 < 20 + off + (b.length : Int)) :
    Calls Tryd.prog 28 #[.agg #[.int .u32 tos, .int .u32 id, .bool df, .bool true, .int .i64 off, .int .u32 ttl, .int .u32 pr, .int .u32 src, .int .u32 dst, .string (bs b)]] w fun e w' => e = .returned (.string ⟨#[105, 112, 118, 52, 58, 32, 101, 114, 114, 111, 114, 32, 55]⟩) ∧ Ex (fun _ => False) w w' := by
  have hz := bs_size b
  have e1 : (off % 8 != 0) = false := by simp; omega
  have HB0 : b ≠ [] := by intro h; subst h; exact hb.1 rfl
  have hne1 : ((bs b).toList == (bs []).toList) = false := by rw [beq_eq_false_iff_ne]; intro h; rw [bs_toL _ _ h] at HB0; exact HB0 rfl
  have hne2 : (bs b).toList ≠ [] := by intro h; rw [ByteArray.toList_eq, bs_toList] at h; exact HB0 h
  have hne3 : (!(bs b).toList.isEmpty) = true := by rw [Bool.not_eq_true', List.isEmpty_eq_false_iff]; exact hne2
  have hne4 : (bs b).toList.isEmpty = false := by rw [List.isEmpty_eq_false_iff]; exact hne2
  clear HB0
  have e3 : ((b.length : Int) % 8 != 0) = false := by rw [Bool.eq_false_iff]; rw [Ne, bne_iff_ne]; omega
  clear h8 hb
  go_enter Tryd.func28, Tryd.ntmps28
  go_wp2_with fail
  go_ret
  exact ⟨rfl, (Ex.refl _ w).alloc _⟩
set_option maxRecDepth 100000 in
theorem rright_7t (tos id : Int) (df : Bool) (off ttl pr src dst : Int) (b : List UInt8) (w : World) (hn : b.length ≤ 140737488355328) (h : 0 ≤ off) (h8 : off % 8 = 0) (hb : b.length ≠ 0 ∧ b.length % 8 = 0) (hf : off ≤ 65535) (hg : 20 + off + (b.length : Int) ≤ 65535) :
    Calls Tryd.prog 28 #[.agg #[.int .u32 tos, .int .u32 id, .bool df, .bool true, .int .i64 off, .int .u32 ttl, .int .u32 pr, .int .u32 src, .int .u32 dst, .string (bs b)]] w fun e w' => e = .returned (.string ⟨#[]⟩) ∧ Ex (fun _ => False) w w' := by
  have hz := bs_size b
  have e1 : (off % 8 != 0) = false := by simp; omega
  have HB0 : b ≠ [] := by intro h; subst h; exact hb.1 rfl
  have hne1 : ((bs b).toList == (bs []).toList) = false := by rw [beq_eq_false_iff_ne]; intro h; rw [bs_toL _ _ h] at HB0; exact HB0 rfl
  have hne2 : (bs b).toList ≠ [] := by intro h; rw [ByteArray.toList_eq, bs_toList] at h; exact HB0 h
  have hne3 : (!(bs b).toList.isEmpty) = true := by rw [Bool.not_eq_true', List.isEmpty_eq_false_iff]; exact hne2
  have hne4 : (bs b).toList.isEmpty = false := by rw [List.isEmpty_eq_false_iff]; exact hne2
  clear HB0
  have e3 : ((b.length : Int) % 8 != 0) = false := by rw [Bool.eq_false_iff]; rw [Ne, bne_iff_ne]; omega
  clear h8 hb
  go_enter Tryd.func28, Tryd.ntmps28
  go_wp2_with fail
  go_ret
  exact ⟨rfl, (Ex.refl _ w).alloc _⟩
theorem rright_any (p : Pk) (w : World) (hn : p.b.length ≤ 140737488355328) :
    Calls Tryd.prog 28 #[rpv p] w fun e w' => e = .returned (.string (rtx [lay5] p.right)) ∧ Ex (fun _ => False) w w' := by
  obtain ⟨tos, id, df, mf, off, ttl, pr, src, dst, b⟩ := p
  simp only at hn
  have r1 : ∀ k, k = 1 → rtx [lay5] k = ⟨#[105, 112, 118, 52, 58, 32, 101, 114, 114, 111, 114, 32, 49]⟩ := by rintro k rfl; exact tx51
  have r7 : ∀ k, k = 7 → rtx [lay5] k = ⟨#[105, 112, 118, 52, 58, 32, 101, 114, 114, 111, 114, 32, 55]⟩ := by rintro k rfl; exact tx57
  have r0 : ∀ k, k = 0 → rtx [lay5] k = ⟨#[]⟩ := by rintro k rfl; rfl
  by_cases h0 : off < 0
  · rw [r1 _ (by unfold Pk.right; rw [if_pos (.inl h0)])]
    exact rright_1 tos id df mf off ttl pr src dst b w hn h0
  by_cases h8 : off % 8 = 0
  case neg =>
    rw [r1 _ (by unfold Pk.right; rw [if_pos (.inr (.inl h8))])]
    exact rright_2 tos id df mf off ttl pr src dst b w hn (by omega) h8
  have h0' : 0 ≤ off := by omega
  cases mf with
  | true =>
    by_cases hb : b.length = 0
    · rw [r1 _ (by unfold Pk.right; rw [if_pos (.inr (.inr ⟨rfl, .inl hb⟩))])]
      exact rright_3 tos id df off ttl pr src dst b w hn h0' h8 hb
    by_cases hb8 : b.length % 8 = 0
    case neg =>
      rw [r1 _ (by unfold Pk.right; rw [if_pos (.inr (.inr ⟨rfl, .inr hb8⟩))])]
      exact rright_4 tos id df off ttl pr src dst b w hn h0' h8 hb8
    have hneg : ¬ (off < 0 ∨ off % 8 ≠ 0 ∨ (true = true ∧ (b.length = 0 ∨ b.length % 8 ≠ 0))) := by omega
    by_cases hf : 65535 < off
    · rw [r7 _ (by unfold Pk.right; rw [if_neg hneg, if_pos (.inl hf)])]
      exact rright_5t tos id df off ttl pr src dst b w hn h0' h8 ⟨hb, hb8⟩ hf
    by_cases hg : 65535 < 20 + off + (b.length : Int)
    · rw [r7 _ (by unfold Pk.right; rw [if_neg hneg, if_pos (.inr hg)])]
      exact rright_6t tos id df off ttl pr src dst b w hn h0' h8 ⟨hb, hb8⟩ (by omega) hg
    rw [r0 _ (by unfold Pk.right; rw [if_neg hneg, if_neg (by simp only; omega)])]
    exact rright_7t tos id df off ttl pr src dst b w hn h0' h8 ⟨hb, hb8⟩ (by omega) (by omega)
  | false =>
    have hneg : ¬ (off < 0 ∨ off % 8 ≠ 0 ∨ (false = true ∧ (b.length = 0 ∨ b.length % 8 ≠ 0))) := by simp; omega
    by_cases hf : 65535 < off
    · rw [r7 _ (by unfold Pk.right; rw [if_neg hneg, if_pos (.inl hf)])]
      exact rright_5f tos id df off ttl pr src dst b w hn h0' h8 hf
    by_cases hg : 65535 < 20 + off + (b.length : Int)
    · rw [r7 _ (by unfold Pk.right; rw [if_neg hneg, if_pos (.inr hg)])]
      exact rright_6f tos id df off ttl pr src dst b w hn h0' h8 (by omega) hg
    rw [r0 _ (by unfold Pk.right; rw [if_neg hneg, if_neg (by simp only; omega)])]
    exact rright_7f tos id df off ttl pr src dst b w hn h0' h8 (by omega) (by omega)
end Go.Proofs.YtabjihchcmjdmaaDoor
