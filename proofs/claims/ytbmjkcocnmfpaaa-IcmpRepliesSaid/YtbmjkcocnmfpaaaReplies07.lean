/-
  The walk of IcmpReplies. By an AI agent.
-/
import Derived.Test.YtbmjkcocnmfpaaaUnlike07
import Derived.Deep.DeepCutAuto
import Derived.Deep.CutBlock
namespace Go.Proofs.Ytbmjkcocnmfpaaa
open Go.RowKit

theorem RB.drop {w : World} {P : Nat → Prop} {g o n c : Nat} {l : List UInt8} (h : RB w P (.slice (some ⟨g, o, none⟩) n c) l) (k : Nat) (hk : k ≤ l.length) : RB w P (.slice (some ⟨g, o + k, none⟩) (l.drop k).length (c - k)) (l.drop k) := by
  obtain ⟨h1, A', c', e, h3, h4⟩ := h
  injection e with e1 e2 e3
  subst e1 e2 e3
  refine ⟨by simp; omega, _, _, rfl, by simp; omega, fun i hi => ?_⟩
  obtain ⟨b, off, e, hp, hc⟩ := h4 (k + i) (by simp at hi; omega)
  injection e with e
  injection e with e1 e2
  subst e1 e2
  refine ⟨g, o + k, rfl, hp, ?_⟩
  rw [Nat.add_assoc, List.getElem_drop]
  exact hc
theorem some_next {l : List UInt8} {j : Nat} (h : j < l.length) : (∃ x ∈ l.take (j + 1), x ≠ 0) ↔ (∃ x ∈ l.take j, x ≠ 0) ∨ l[j] ≠ 0 := by
  rw [take_next l j h]
  constructor
  · rintro ⟨x, hx, h0⟩
    rcases List.mem_append.1 hx with h1 | h1
    · exact .inl ⟨x, h1, h0⟩
    · obtain rfl := List.mem_singleton.1 h1; exact .inr h0
  · rintro (⟨x, hx, h0⟩ | h0)
    · exact ⟨x, List.mem_append.2 (.inl hx), h0⟩
    · exact ⟨_, List.mem_append.2 (.inr (List.mem_singleton.2 rfl)), h0⟩
def rsome (b : Bool) (l : List UInt8) (j : Nat) : Prop := b = true ∨ ∃ x ∈ l.take j, x ≠ 0
theorem rsome_next (b : Bool) {l : List UInt8} {j : Nat} (h : j < l.length) : rsome b l (j + 1) ↔ rsome b l j ∨ l[j] ≠ 0 := by
  unfold rsome
  rw [some_next h, or_assoc]
theorem rsome_zero (b : Bool) (l : List UInt8) : b = true ↔ rsome b l 0 := by simp [rsome]
theorem Ms.hd_drop (m : Ms) (s : Int) : (m.hd s).drop 4 = m.rt := rfl
set_option maxRecDepth 100000 in
set_option maxHeartbeats 16000000 in
theorem replies07_any (m : Ms) (A : Option Addr) (c : Nat) (w : World) (ok : m.ok) (hm : RB w (fun _ => True) (.slice A m.b.length c) m.b) :
    Calls Try.prog 5 #[msv m (.slice A m.b.length c)] w fun e w' => e = .returned (.bool true) ∧ Ex (fun _ => False) w w' := by
  obtain ⟨xty, xco, xrest, xb⟩ := m
  obtain ⟨_, ⟨o10, o11⟩, hrest⟩ := ok
  simp only at hm o10 o11 hrest
  obtain ⟨cn, rfl⟩ := Int.eq_ofNat_of_zero_le o10
  have hcn : cn ≤ 255 := by omega
  have hmc : xb.length ≤ c := by obtain ⟨_, _, _, e, h, _⟩ := hm; injection e with _ _ e3; rw [e3]; exact h
  obtain ⟨xl, hk, hk1, hk2, hxl⟩ := ms_cut xb
  have hki : (xl.length : Int) ≤ (xb.length : Int) := by omega
  have hkc : xl.length ≤ c := by omega
  have hm1 := hm.take 2000
  rw [← hxl] at hm1
  have HM := Lib.hid hm1
  have ok8 : (⟨8, (cn : Int), xrest, xl⟩ : Ms).ok := ⟨⟨by show (0 : Int) ≤ 8; omega, by show (8 : Int) ≤ 255; omega⟩, ⟨by show (0 : Int) ≤ (cn : Int); omega, by show (cn : Int) ≤ 255; omega⟩, hrest⟩
  have ok0 : (⟨0, (cn : Int), xrest, xl⟩ : Ms).ok := ⟨⟨by show (0 : Int) ≤ 0; omega, by show (0 : Int) ≤ 255; omega⟩, ⟨by show (0 : Int) ≤ (cn : Int); omega, by show (cn : Int) ≤ 255; omega⟩, hrest⟩
  have hupA := fun h => replies_law (m := ⟨8, (cn : Int), xrest, xl⟩) ok8 h
  have hb8 : ∀ s : Int, (by8 (8 : Int)).toNat = 8 := fun _ => by decide
  obtain ⟨s8, hs8⟩ : ∃ s, s = (⟨8, (cn : Int), xrest, xl⟩ : Ms).sum := ⟨_, rfl⟩
  obtain ⟨s0, hs0⟩ : ∃ s, s = (⟨0, (cn : Int), xrest, xl⟩ : Ms).sum := ⟨_, rfl⟩
  have hs8l : s8 ≤ 65535 := by rw [hs8]; exact Ms.sum_le _
  have hs0l : s0 ≤ 65535 := by rw [hs0]; exact Ms.sum_le _
  have hup : ((cn : Int) ≠ 0 ∨ xrest ≠ 0 ∨ ¬ ∀ x ∈ xl, x = 0) → up s8 (2048 + cn) cn = s0 := fun h => by
    have := hupA h
    rw [hs8, hs0]
    exact this
  have h8 : mb ⟨8, (cn : Int), xrest, xl⟩ = (⟨8, (cn : Int), xrest, xl⟩ : Ms).hd (s8 : Int) := by rw [hs8]; rfl
  have h0 : mb ⟨0, (cn : Int), xrest, xl⟩ = (⟨0, (cn : Int), xrest, xl⟩ : Ms).hd (s0 : Int) := by rw [hs0]; rfl
  have HUP := Lib.hid hup
  have H8 := Lib.hid h8
  have H0 := Lib.hid h0
  have OK8 := Lib.hid ok8
  have OK0 := Lib.hid ok0
  have HRS := Lib.hid hrest
  clear hupA hm hm1 ok8 ok0 hup h8 h0 hs8 hs0 hxl hmc hb8 o10 o11 hrest
  show Calls Try.prog 5 #[.agg #[.int .u8 xty, .int .u8 (cn : Int), .int .u32 xrest, .slice A xb.length c]] w _
  go_enter Try.func5, Try.ntmps5
  go_upto_region 1 with fail
  have hx : Ex (fun _ => False) w (w.alloc (.cells #[.int .u8 xty, .int .u8 (cn : Int), .int .u32 xrest, .slice A xb.length c] 25)) := (Ex.refl _ w).alloc _
  have hb : (w.alloc (.cells #[.int .u8 xty, .int .u8 (cn : Int), .int .u32 xrest, .slice A xb.length c] 25)).heap[w.heap.size]? = some (.cells #[.int .u8 xty, .int .u8 (cn : Int), .int .u32 xrest, .slice A xb.length c] 25) := heap_alloc_new w _
  obtain ⟨xb_, hxb_⟩ : ∃ xb_, xb_ = w.heap.size := ⟨_, rfl⟩
  have hb_xb_ : w.heap.size ≤ xb_ := by omega
  rw [← hxb_] at hb
  try simp only [← hxb_]
  generalize w.alloc (.cells #[.int .u8 xty, .int .u8 (cn : Int), .int .u32 xrest, .slice A xb.length c] 25) = w1 at hx hb ⊢
  clear hxb_
  have HX_w1 := Lib.hid hx
  clear hx
  have B_xb_ := Lib.hid hb
  clear hb
  go_wp2_with fail
  refine (shown7_any w1).mono ?_
  rintro e w2 ⟨rfl, hx⟩
  have HX_w2 := Lib.hid hx
  clear hx
  have cxb_3 := row_cell (k := 3) (v := .slice A xb.length c) ((HX_w2.out.block xb_ (row_lt B_xb_.out) id).trans B_xb_.out) rfl
  have fxb_3 := row_frozen ((HX_w2.out.block xb_ (row_lt B_xb_.out) id).trans B_xb_.out) 3
  go_upto_region 3 with fail
  replace B_xb_ := Lib.hid ((HX_w2.out.block xb_ (row_lt B_xb_.out) id).trans B_xb_.out)
  have hb : (w2.setCell ⟨xb_, 3, none⟩ (.slice A xl.length c)).heap[xb_]? = some (.cells #[.int .u8 xty, .int .u8 (cn : Int), .int .u32 xrest, .slice A xl.length c] 25) := (row_set B_xb_.out 3 (.slice A xl.length c))
  have hx : Ex (fun j => j = xb_) w2 (w2.setCell ⟨xb_, 3, none⟩ (.slice A xl.length c)) := ((Ex.refl (fun j => j = xb_) w2).setCell (p := ⟨xb_, 3, none⟩) (.inl rfl) (.slice A xl.length c))
  clear cxb_3 fxb_3 hk
  generalize (w2.setCell ⟨xb_, 3, none⟩ (.slice A xl.length c)) = w3 at hx hb ⊢
  clear B_xb_
  have HX_w3 := Lib.hid hx
  clear hx
  have B_xb_ := Lib.hid hb
  clear hb
  have cxb_0 := row_cell (k := 0) (v := .int .u8 xty) B_xb_.out rfl
  have fxb_0 := row_frozen B_xb_.out 0
  go_upto_region 4 with fail
  have hb : (w3.setCell ⟨xb_, 0, none⟩ (.int .u8 8)).heap[xb_]? = some (.cells #[.int .u8 8, .int .u8 (cn : Int), .int .u32 xrest, .slice A xl.length c] 25) := (row_set B_xb_.out 0 (.int .u8 8))
  have hx : Ex (fun j => j = xb_) w3 (w3.setCell ⟨xb_, 0, none⟩ (.int .u8 8)) := ((Ex.refl (fun j => j = xb_) w3).setCell (p := ⟨xb_, 0, none⟩) (.inl rfl) (.int .u8 8))
  clear cxb_0 fxb_0
  generalize (w3.setCell ⟨xb_, 0, none⟩ (.int .u8 8)) = w4 at hx hb ⊢
  clear B_xb_
  have HX_w4 := Lib.hid hx
  clear hx
  have B_xb_ := Lib.hid hb
  clear hb
  have cxb_0 := row_cell (k := 0) (v := .int .u8 8) B_xb_.out rfl
  have cxb_1 := row_cell (k := 1) (v := .int .u8 (cn : Int)) B_xb_.out rfl
  have cxb_2 := row_cell (k := 2) (v := .int .u32 xrest) B_xb_.out rfl
  have cxb_3 := row_cell (k := 3) (v := .slice A xl.length c) B_xb_.out rfl
  go_wp2_with fail
  refine (mBytes_any _ ⟨8, (cn : Int), xrest, xl⟩ A c _ OK8.out (RB.keep HM.out (((HX_w1.out.trans HX_w2.out).andThen HX_w3.out (fun i hi e => by have := hb_xb_; omega)).andThen HX_w4.out (fun i hi e => by have := hb_xb_; omega)) (fun _ _ _ => id)) (by show xl.length ≤ _; omega)).mono ?_
  rintro e w5 ⟨A8, c8, rfl, ho, hx⟩
  rw [H8.out] at ho
  obtain ⟨g8, rfl, hb_g8, hg8⟩ := ho.plain
  have ho' : OB w5 w4.heap.size (.slice (some ⟨g8, 0, none⟩) (8 + xl.length) c8) ((⟨8, (cn : Int), xrest, xl⟩ : Ms).hd (s8 : Int)) := ho
  clear ho cxb_0 cxb_1 cxb_2 cxb_3
  have HX_w5 := Lib.hid hx
  clear hx
  have HO8 := Lib.hid ho'
  clear ho'

  have hlx8 := row_lt B_xb_.out
  have ne_xb__g8 : xb_ ≠ g8 := by omega
  have cxb_0 := row_cell (k := 0) (v := .int .u8 8) ((HX_w5.out.block xb_ (row_lt B_xb_.out) id).trans B_xb_.out) rfl
  have fxb_0 := row_frozen ((HX_w5.out.block xb_ (row_lt B_xb_.out) id).trans B_xb_.out) 0
  go_upto_region 6 with fail
  replace B_xb_ := Lib.hid ((HX_w5.out.block xb_ (row_lt B_xb_.out) id).trans B_xb_.out)
  have hb : (w5.setCell ⟨xb_, 0, none⟩ (.int .u8 0)).heap[xb_]? = some (.cells #[.int .u8 0, .int .u8 (cn : Int), .int .u32 xrest, .slice A xl.length c] 25) := (row_set B_xb_.out 0 (.int .u8 0))
  have hx : Ex (fun j => j = xb_) w5 (w5.setCell ⟨xb_, 0, none⟩ (.int .u8 0)) := ((Ex.refl (fun j => j = xb_) w5).setCell (p := ⟨xb_, 0, none⟩) (.inl rfl) (.int .u8 0))
  clear cxb_0 fxb_0
  generalize (w5.setCell ⟨xb_, 0, none⟩ (.int .u8 0)) = w6 at hx hb ⊢
  clear B_xb_
  have HX_w6 := Lib.hid hx
  clear hx
  have B_xb_ := Lib.hid hb
  clear hb
  have cxb_0 := row_cell (k := 0) (v := .int .u8 0) B_xb_.out rfl
  have cxb_1 := row_cell (k := 1) (v := .int .u8 (cn : Int)) B_xb_.out rfl
  have cxb_2 := row_cell (k := 2) (v := .int .u32 xrest) B_xb_.out rfl
  have cxb_3 := row_cell (k := 3) (v := .slice A xl.length c) B_xb_.out rfl
  go_wp2_with fail
  refine (mBytes_any _ ⟨0, (cn : Int), xrest, xl⟩ A c _ OK0.out (RB.keep HM.out (((((HX_w1.out.trans HX_w2.out).andThen HX_w3.out (fun i hi e => by have := hb_xb_; omega)).andThen HX_w4.out (fun i hi e => by have := hb_xb_; omega)).trans HX_w5.out).andThen HX_w6.out (fun i hi e => by have := hb_xb_; omega)) (fun _ _ _ => id)) (by show xl.length ≤ _; omega)).mono ?_
  rintro e w7 ⟨A0, c0, rfl, ho, hx⟩
  rw [H0.out] at ho
  obtain ⟨g0, rfl, hb_g0, hg0⟩ := ho.plain
  have ho' : OB w7 w6.heap.size (.slice (some ⟨g0, 0, none⟩) (8 + xl.length) c0) ((⟨0, (cn : Int), xrest, xl⟩ : Ms).hd (s0 : Int)) := ho
  clear ho cxb_0 cxb_1 cxb_2 cxb_3
  have HX_w7 := Lib.hid hx
  clear hx
  have HO0 := Lib.hid ho'
  clear ho'

  have hlx0 := row_lt B_xb_.out
  have ne_xb__g0 : xb_ ≠ g0 := by omega
  replace HO8 := Lib.hid (OB.keep (OB.keepB HO8.out HX_w6.out (by omega)) HX_w7.out (fun _ _ _ _ => id))
  replace B_xb_ := Lib.hid ((HX_w7.out.block xb_ (row_lt B_xb_.out) id).trans B_xb_.out)
  obtain ⟨N, hN⟩ : ∃ N, N = 8 + xl.length := ⟨_, rfl⟩
  rw [← hN] at HO8 HO0 ⊢
  have hl8 : ((⟨8, (cn : Int), xrest, xl⟩ : Ms).hd (s8 : Int)).length = N := by rw [Ms.hd_len, hN]
  have hl0 : ((⟨0, (cn : Int), xrest, xl⟩ : Ms).hd (s0 : Int)).length = N := by rw [Ms.hd_len, hN]
  have HL8 := Lib.hid hl8
  have HL0 := Lib.hid hl0
  have hN8 : 8 ≤ N := by omega
  have hNm : N ≤ 2008 := by omega
  have hi4 : (4 : Int) ≤ (N : Int) := by omega
  have hi3 : (3 : Int) < (N : Int) := by omega
  have hi2 : (2 : Int) < (N : Int) := by omega
  have hi1 : (1 : Int) < (N : Int) := by omega
  have hi0 : 0 < N := by omega
  have hN4 : ¬ (N : Int) < 4 := by omega
  have hc8 : N ≤ c8 := by obtain ⟨_, _, _, e, h, _⟩ := HO8.out.rb; injection e with _ _ e3; rw [e3]; rw [HL8.out] at h; exact h
  have hc0 : N ≤ c0 := by obtain ⟨_, _, _, e, h, _⟩ := HO0.out.rb; injection e with _ _ e3; rw [e3]; rw [HL0.out] at h; exact h
  have b8 := by8_toNat (s8 : Int)
  have b8' := by8_toNat ((s8 : Int) / 256)
  have b0 := by8_toNat (s0 : Int)
  have b0' := by8_toNat ((s0 : Int) / 256)
  obtain ⟨p2, hp2⟩ : ∃ k, k = (by8 ((s8 : Int) / 256)).toNat := ⟨_, rfl⟩
  obtain ⟨p3, hp3⟩ : ∃ k, k = (by8 (s8 : Int)).toNat := ⟨_, rfl⟩
  obtain ⟨q2, hq2⟩ : ∃ k, k = (by8 ((s0 : Int) / 256)).toNat := ⟨_, rfl⟩
  obtain ⟨q3, hq3⟩ : ∃ k, k = (by8 (s0 : Int)).toNat := ⟨_, rfl⟩
  rw [← hp2] at b8'
  rw [← hp3] at b8
  rw [← hq2] at b0'
  rw [← hq3] at b0
  have hone : (p2 : Int) * 256 + (p3 : Int) = (s8 : Int) := by omega
  have htwo : (q2 : Int) * 256 + (q3 : Int) = (s0 : Int) := by omega
  have hw1 : IntKind.u16.wrap ((p2 : Int) * 256) = (p2 : Int) * 256 := by rw [IntKind.wrap_u16]; omega
  have hw2 : IntKind.u16.wrap ((q2 : Int) * 256) = (q2 : Int) * 256 := by rw [IntKind.wrap_u16]; omega
  have hw3 : IntKind.u16.wrap (s8 : Int) = (s8 : Int) := by rw [IntKind.wrap_u16]; omega
  have hw4 : IntKind.u16.wrap (s0 : Int) = (s0 : Int) := by rw [IntKind.wrap_u16]; omega
  have hw5 : IntKind.u16.wrap (p2 : Int) = (p2 : Int) := by rw [IntKind.wrap_u16]; omega
  have hw6 : IntKind.u16.wrap (q2 : Int) = (q2 : Int) := by rw [IntKind.wrap_u16]; omega
  have hw7 : IntKind.u16.wrap (p3 : Int) = (p3 : Int) := by rw [IntKind.wrap_u16]; omega
  have hw8 : IntKind.u16.wrap (q3 : Int) = (q3 : Int) := by rw [IntKind.wrap_u16]; omega
  have hq8 : OB w7 _ (.slice (some ⟨g8, 0, none⟩) N c8) _ := HO8.out
  have hq0 : OB w7 _ (.slice (some ⟨g0, 0, none⟩) N c0) _ := HO0.out
  have ecn : ((by8 (cn : Int)).toNat : Int) = (cn : Int) := by rw [by8_toNat]; omega
  have a0 : w7.cell? ⟨g8, 0, none⟩ = some (.int .u8 8) := hq8.cell 0 (by rw [HL8.out]; omega)
  have a1 : w7.cell? ⟨g8, 1, none⟩ = some (.int .u8 (cn : Int)) := by rw [← ecn]; exact hq8.cell 1 (by rw [HL8.out]; omega)
  have a2 : w7.cell? ⟨g8, 2, none⟩ = some (.int .u8 (p2 : Int)) := by rw [hp2]; exact hq8.cell 2 (by rw [HL8.out]; omega)
  have a3 : w7.cell? ⟨g8, 3, none⟩ = some (.int .u8 (p3 : Int)) := by rw [hp3]; exact hq8.cell 3 (by rw [HL8.out]; omega)
  have d0 : w7.cell? ⟨g0, 0, none⟩ = some (.int .u8 0) := hq0.cell 0 (by rw [HL0.out]; omega)
  have d1 : w7.cell? ⟨g0, 1, none⟩ = some (.int .u8 (cn : Int)) := by rw [← ecn]; exact hq0.cell 1 (by rw [HL0.out]; omega)
  have d2 : w7.cell? ⟨g0, 2, none⟩ = some (.int .u8 (q2 : Int)) := by rw [hq2]; exact hq0.cell 2 (by rw [HL0.out]; omega)
  have d3 : w7.cell? ⟨g0, 3, none⟩ = some (.int .u8 (q3 : Int)) := by rw [hq3]; exact hq0.cell 3 (by rw [HL0.out]; omega)
  have r8 := hq8.rb.any.drop 4 (by rw [HL8.out]; omega)
  have r0 := hq0.rb.any.drop 4 (by rw [HL0.out]; omega)
  obtain ⟨T, hT⟩ : ∃ T, T = (⟨8, (cn : Int), xrest, xl⟩ : Ms).rt := ⟨_, rfl⟩
  have hd8 : ((⟨8, (cn : Int), xrest, xl⟩ : Ms).hd (s8 : Int)).drop 4 = T := by rw [hT]; rfl
  have hd0 : ((⟨0, (cn : Int), xrest, xl⟩ : Ms).hd (s0 : Int)).drop 4 = T := by rw [hT]; rfl
  have hTl : T.length = N - 4 := by rw [← hd8, List.length_drop, HL8.out]
  rw [hd8, hTl, Nat.zero_add] at r8
  rw [hd0, hTl, Nat.zero_add] at r0
  have R8 := Lib.hid r8
  have R0 := Lib.hid r0
  clear hN b8 b8' b0 b0' hq8 hq0 ecn hp2 hp3 hq2 hq3 hl8 hl0 r8 r0 hT hd8 hd0 hTl
  go_upto_region 9 with fail
  clear hN4
  have hS0 : Ex (fun _ => False) w7 w7.drew := (Ex.refl _ w7).drew
  refine wp_region_held_drew (S := fun W => Ex (fun _ => False) w7 W) (by kernel_rfl) hS0 (fun _ => ?_)
  have hx := hS0
  generalize w7.drew = w8 at hx hS0 ⊢
  refine wpAnyH_take (i := 0) (oi := { dst := some 34, op := Go.Op.move (Go.Operand.tmp 4), type := 23, pos := "more.go:29", after := #[], guard := none }) (v := ?v1) rfl (by kernel_rfl) (by kernel_rfl) (by kernel_rfl) (fun _ _ _ h => h) (Or.inl ⟨by rfl, ?hy1⟩) (by assumption) ?rest1
  case hy1 => (intro w hSw; (try dsimp only at hSw); have ea0 := hSw.cell a0 id; have ea1 := hSw.cell a1 id; have ea2 := hSw.cell a2 id; have ea3 := hSw.cell a3 id; have ed0 := hSw.cell d0 id; have ed1 := hSw.cell d1 id; have ed2 := hSw.cell d2 id; have ed3 := hSw.cell d3 id; go_simp <;> with_reducible rfl)
  try simp only [Act.put, List.setIfInBounds_toArray, List.set_cons_zero, List.set_cons_succ]
  refine wpAnyH_take (i := 1) (oi := { dst := some 35, op := Go.Op.indexAddr 23 (Go.Operand.tmp 34) (Go.Operand.const (Go.Value.int Go.IntKind.i64 2)), type := 0, pos := "more.go:29", after := #[{ on := 0, ground := Go.Ground.data }], guard := none }) (v := ?v2) rfl (by kernel_rfl) (by kernel_rfl) (by kernel_rfl) (fun _ _ _ h => h) (Or.inl ⟨by rfl, ?hy2⟩) (by assumption) ?rest2
  case hy2 => (intro w hSw; (try dsimp only at hSw); have ea0 := hSw.cell a0 id; have ea1 := hSw.cell a1 id; have ea2 := hSw.cell a2 id; have ea3 := hSw.cell a3 id; have ed0 := hSw.cell d0 id; have ed1 := hSw.cell d1 id; have ed2 := hSw.cell d2 id; have ed3 := hSw.cell d3 id; go_simp <;> with_reducible rfl)
  try simp only [Act.put, List.setIfInBounds_toArray, List.set_cons_zero, List.set_cons_succ]
  refine wpAnyH_take (i := 2) (oi := { dst := some 36, op := Go.Op.load 5 (Go.Operand.tmp 35), type := 5, pos := "more.go:29", after := #[{ on := 1, ground := Go.Ground.data }], guard := none }) (v := ?v3) rfl (by kernel_rfl) (by kernel_rfl) (by kernel_rfl) (fun _ _ _ h => h) (Or.inl ⟨by rfl, ?hy3⟩) (by assumption) ?rest3
  case hy3 => (intro w hSw; (try dsimp only at hSw); have ea0 := hSw.cell a0 id; have ea1 := hSw.cell a1 id; have ea2 := hSw.cell a2 id; have ea3 := hSw.cell a3 id; have ed0 := hSw.cell d0 id; have ed1 := hSw.cell d1 id; have ed2 := hSw.cell d2 id; have ed3 := hSw.cell d3 id; go_simp <;> with_reducible rfl)
  try simp only [Act.put, List.setIfInBounds_toArray, List.set_cons_zero, List.set_cons_succ]
  refine wpAnyH_take (i := 3) (oi := { dst := some 37, op := Go.Op.convert 5 32 (Go.Operand.tmp 36), type := 32, pos := "more.go:29", after := #[{ on := 2, ground := Go.Ground.data }], guard := none }) (v := ?v4) rfl (by kernel_rfl) (by kernel_rfl) (by kernel_rfl) (fun _ _ _ h => h) (Or.inl ⟨by rfl, ?hy4⟩) (by assumption) ?rest4
  case hy4 => (intro w hSw; (try dsimp only at hSw); have ea0 := hSw.cell a0 id; have ea1 := hSw.cell a1 id; have ea2 := hSw.cell a2 id; have ea3 := hSw.cell a3 id; have ed0 := hSw.cell d0 id; have ed1 := hSw.cell d1 id; have ed2 := hSw.cell d2 id; have ed3 := hSw.cell d3 id; go_simp <;> with_reducible rfl)
  try simp only [Act.put, List.setIfInBounds_toArray, List.set_cons_zero, List.set_cons_succ]
  refine wpAnyH_take (i := 4) (oi := { dst := some 38, op := Go.Op.binOp Go.BinOp.mul 32 (Go.Operand.tmp 37) (Go.Operand.const (Go.Value.int Go.IntKind.u16 256)) 32, type := 32, pos := "more.go:29", after := #[{ on := 3, ground := Go.Ground.data }], guard := none }) (v := ?v5) rfl (by kernel_rfl) (by kernel_rfl) (by kernel_rfl) (fun _ _ _ h => h) (Or.inl ⟨by rfl, ?hy5⟩) (by assumption) ?rest5
  case hy5 => (intro w hSw; (try dsimp only at hSw); have ea0 := hSw.cell a0 id; have ea1 := hSw.cell a1 id; have ea2 := hSw.cell a2 id; have ea3 := hSw.cell a3 id; have ed0 := hSw.cell d0 id; have ed1 := hSw.cell d1 id; have ed2 := hSw.cell d2 id; have ed3 := hSw.cell d3 id; go_simp <;> with_reducible rfl)
  try simp only [Act.put, List.setIfInBounds_toArray, List.set_cons_zero, List.set_cons_succ]
  refine wpAnyH_take (i := 5) (oi := { dst := some 39, op := Go.Op.move (Go.Operand.tmp 4), type := 23, pos := "more.go:29", after := #[], guard := none }) (v := ?v6) rfl (by kernel_rfl) (by kernel_rfl) (by kernel_rfl) (fun _ _ _ h => h) (Or.inl ⟨by rfl, ?hy6⟩) (by assumption) ?rest6
  case hy6 => (intro w hSw; (try dsimp only at hSw); have ea0 := hSw.cell a0 id; have ea1 := hSw.cell a1 id; have ea2 := hSw.cell a2 id; have ea3 := hSw.cell a3 id; have ed0 := hSw.cell d0 id; have ed1 := hSw.cell d1 id; have ed2 := hSw.cell d2 id; have ed3 := hSw.cell d3 id; go_simp <;> with_reducible rfl)
  try simp only [Act.put, List.setIfInBounds_toArray, List.set_cons_zero, List.set_cons_succ]
  refine wpAnyH_take (i := 6) (oi := { dst := some 40, op := Go.Op.indexAddr 23 (Go.Operand.tmp 39) (Go.Operand.const (Go.Value.int Go.IntKind.i64 3)), type := 0, pos := "more.go:29", after := #[{ on := 5, ground := Go.Ground.data }], guard := none }) (v := ?v7) rfl (by kernel_rfl) (by kernel_rfl) (by kernel_rfl) (fun _ _ _ h => h) (Or.inl ⟨by rfl, ?hy7⟩) (by assumption) ?rest7
  case hy7 => (intro w hSw; (try dsimp only at hSw); have ea0 := hSw.cell a0 id; have ea1 := hSw.cell a1 id; have ea2 := hSw.cell a2 id; have ea3 := hSw.cell a3 id; have ed0 := hSw.cell d0 id; have ed1 := hSw.cell d1 id; have ed2 := hSw.cell d2 id; have ed3 := hSw.cell d3 id; go_simp <;> with_reducible rfl)
  try simp only [Act.put, List.setIfInBounds_toArray, List.set_cons_zero, List.set_cons_succ]
  refine wpAnyH_take (i := 7) (oi := { dst := some 41, op := Go.Op.load 5 (Go.Operand.tmp 40), type := 5, pos := "more.go:29", after := #[{ on := 6, ground := Go.Ground.data }], guard := none }) (v := ?v8) rfl (by kernel_rfl) (by kernel_rfl) (by kernel_rfl) (fun _ _ _ h => h) (Or.inl ⟨by rfl, ?hy8⟩) (by assumption) ?rest8
  case hy8 => (intro w hSw; (try dsimp only at hSw); have ea0 := hSw.cell a0 id; have ea1 := hSw.cell a1 id; have ea2 := hSw.cell a2 id; have ea3 := hSw.cell a3 id; have ed0 := hSw.cell d0 id; have ed1 := hSw.cell d1 id; have ed2 := hSw.cell d2 id; have ed3 := hSw.cell d3 id; go_simp <;> with_reducible rfl)
  try simp only [Act.put, List.setIfInBounds_toArray, List.set_cons_zero, List.set_cons_succ]
  refine wpAnyH_take (i := 8) (oi := { dst := some 42, op := Go.Op.convert 5 32 (Go.Operand.tmp 41), type := 32, pos := "more.go:29", after := #[{ on := 7, ground := Go.Ground.data }], guard := none }) (v := ?v9) rfl (by kernel_rfl) (by kernel_rfl) (by kernel_rfl) (fun _ _ _ h => h) (Or.inl ⟨by rfl, ?hy9⟩) (by assumption) ?rest9
  case hy9 => (intro w hSw; (try dsimp only at hSw); have ea0 := hSw.cell a0 id; have ea1 := hSw.cell a1 id; have ea2 := hSw.cell a2 id; have ea3 := hSw.cell a3 id; have ed0 := hSw.cell d0 id; have ed1 := hSw.cell d1 id; have ed2 := hSw.cell d2 id; have ed3 := hSw.cell d3 id; go_simp <;> with_reducible rfl)
  try simp only [Act.put, List.setIfInBounds_toArray, List.set_cons_zero, List.set_cons_succ]
  refine wpAnyH_take (i := 9) (oi := { dst := some 43, op := Go.Op.binOp Go.BinOp.add 32 (Go.Operand.tmp 38) (Go.Operand.tmp 42) 32, type := 32, pos := "more.go:29", after := #[{ on := 4, ground := Go.Ground.data }, { on := 8, ground := Go.Ground.data }], guard := none }) (v := ?v10) rfl (by kernel_rfl) (by kernel_rfl) (by kernel_rfl) (fun _ _ _ h => h) (Or.inl ⟨by rfl, ?hy10⟩) (by assumption) ?rest10
  case hy10 => (intro w hSw; (try dsimp only at hSw); have ea0 := hSw.cell a0 id; have ea1 := hSw.cell a1 id; have ea2 := hSw.cell a2 id; have ea3 := hSw.cell a3 id; have ed0 := hSw.cell d0 id; have ed1 := hSw.cell d1 id; have ed2 := hSw.cell d2 id; have ed3 := hSw.cell d3 id; go_simp <;> with_reducible rfl)
  try simp only [Act.put, List.setIfInBounds_toArray, List.set_cons_zero, List.set_cons_succ]
  refine wpAnyH_take (i := 10) (oi := { dst := some 6, op := Go.Op.assign (Go.Operand.tmp 43), type := 32, pos := "more.go:29", after := #[{ on := 9, ground := Go.Ground.data }, { on := 0, ground := Go.Ground.phase }, { on := 1, ground := Go.Ground.phase }, { on := 2, ground := Go.Ground.phase }, { on := 3, ground := Go.Ground.phase }, { on := 4, ground := Go.Ground.phase }, { on := 5, ground := Go.Ground.phase }, { on := 6, ground := Go.Ground.phase }, { on := 7, ground := Go.Ground.phase }, { on := 8, ground := Go.Ground.phase }, { on := 9, ground := Go.Ground.phase }], guard := none }) (v := ?v11) rfl (by kernel_rfl) (by kernel_rfl) (by kernel_rfl) (fun _ _ _ h => h) (Or.inl ⟨by rfl, ?hy11⟩) (by assumption) ?rest11
  case hy11 => (intro w hSw; (try dsimp only at hSw); have ea0 := hSw.cell a0 id; have ea1 := hSw.cell a1 id; have ea2 := hSw.cell a2 id; have ea3 := hSw.cell a3 id; have ed0 := hSw.cell d0 id; have ed1 := hSw.cell d1 id; have ed2 := hSw.cell d2 id; have ed3 := hSw.cell d3 id; go_simp <;> with_reducible rfl)
  try simp only [Act.put, List.setIfInBounds_toArray, List.set_cons_zero, List.set_cons_succ]
  refine wpAnyH_done (by kernel_rfl) ?_ _
  clear hS0
  have HX_w8 := Lib.hid hx
  clear hx
  replace a0 := HX_w8.out.cell a0 id
  replace a1 := HX_w8.out.cell a1 id
  replace a2 := HX_w8.out.cell a2 id
  replace a3 := HX_w8.out.cell a3 id
  replace d0 := HX_w8.out.cell d0 id
  replace d1 := HX_w8.out.cell d1 id
  replace d2 := HX_w8.out.cell d2 id
  replace d3 := HX_w8.out.cell d3 id
  go_upto_region 10 with fail
  have hS0 : Ex (fun _ => False) w8 w8.drew := (Ex.refl _ w8).drew
  refine wp_region_held_drew (S := fun W => Ex (fun _ => False) w8 W) (by kernel_rfl) hS0 (fun _ => ?_)
  have hx := hS0
  generalize w8.drew = w9 at hx hS0 ⊢
  refine wpAnyH_take (i := 0) (oi := { dst := some 44, op := Go.Op.move (Go.Operand.tmp 5), type := 23, pos := "more.go:30", after := #[], guard := none }) (v := ?v12) rfl (by kernel_rfl) (by kernel_rfl) (by kernel_rfl) (fun _ _ _ h => h) (Or.inl ⟨by rfl, ?hy12⟩) (by assumption) ?rest12
  case hy12 => (intro w hSw; (try dsimp only at hSw); have ea0 := hSw.cell a0 id; have ea1 := hSw.cell a1 id; have ea2 := hSw.cell a2 id; have ea3 := hSw.cell a3 id; have ed0 := hSw.cell d0 id; have ed1 := hSw.cell d1 id; have ed2 := hSw.cell d2 id; have ed3 := hSw.cell d3 id; go_simp <;> with_reducible rfl)
  try simp only [Act.put, List.setIfInBounds_toArray, List.set_cons_zero, List.set_cons_succ]
  refine wpAnyH_take (i := 1) (oi := { dst := some 45, op := Go.Op.indexAddr 23 (Go.Operand.tmp 44) (Go.Operand.const (Go.Value.int Go.IntKind.i64 2)), type := 0, pos := "more.go:30", after := #[{ on := 0, ground := Go.Ground.data }], guard := none }) (v := ?v13) rfl (by kernel_rfl) (by kernel_rfl) (by kernel_rfl) (fun _ _ _ h => h) (Or.inl ⟨by rfl, ?hy13⟩) (by assumption) ?rest13
  case hy13 => (intro w hSw; (try dsimp only at hSw); have ea0 := hSw.cell a0 id; have ea1 := hSw.cell a1 id; have ea2 := hSw.cell a2 id; have ea3 := hSw.cell a3 id; have ed0 := hSw.cell d0 id; have ed1 := hSw.cell d1 id; have ed2 := hSw.cell d2 id; have ed3 := hSw.cell d3 id; go_simp <;> with_reducible rfl)
  try simp only [Act.put, List.setIfInBounds_toArray, List.set_cons_zero, List.set_cons_succ]
  refine wpAnyH_take (i := 2) (oi := { dst := some 46, op := Go.Op.load 5 (Go.Operand.tmp 45), type := 5, pos := "more.go:30", after := #[{ on := 1, ground := Go.Ground.data }], guard := none }) (v := ?v14) rfl (by kernel_rfl) (by kernel_rfl) (by kernel_rfl) (fun _ _ _ h => h) (Or.inl ⟨by rfl, ?hy14⟩) (by assumption) ?rest14
  case hy14 => (intro w hSw; (try dsimp only at hSw); have ea0 := hSw.cell a0 id; have ea1 := hSw.cell a1 id; have ea2 := hSw.cell a2 id; have ea3 := hSw.cell a3 id; have ed0 := hSw.cell d0 id; have ed1 := hSw.cell d1 id; have ed2 := hSw.cell d2 id; have ed3 := hSw.cell d3 id; go_simp <;> with_reducible rfl)
  try simp only [Act.put, List.setIfInBounds_toArray, List.set_cons_zero, List.set_cons_succ]
  refine wpAnyH_take (i := 3) (oi := { dst := some 47, op := Go.Op.convert 5 32 (Go.Operand.tmp 46), type := 32, pos := "more.go:30", after := #[{ on := 2, ground := Go.Ground.data }], guard := none }) (v := ?v15) rfl (by kernel_rfl) (by kernel_rfl) (by kernel_rfl) (fun _ _ _ h => h) (Or.inl ⟨by rfl, ?hy15⟩) (by assumption) ?rest15
  case hy15 => (intro w hSw; (try dsimp only at hSw); have ea0 := hSw.cell a0 id; have ea1 := hSw.cell a1 id; have ea2 := hSw.cell a2 id; have ea3 := hSw.cell a3 id; have ed0 := hSw.cell d0 id; have ed1 := hSw.cell d1 id; have ed2 := hSw.cell d2 id; have ed3 := hSw.cell d3 id; go_simp <;> with_reducible rfl)
  try simp only [Act.put, List.setIfInBounds_toArray, List.set_cons_zero, List.set_cons_succ]
  refine wpAnyH_take (i := 4) (oi := { dst := some 48, op := Go.Op.binOp Go.BinOp.mul 32 (Go.Operand.tmp 47) (Go.Operand.const (Go.Value.int Go.IntKind.u16 256)) 32, type := 32, pos := "more.go:30", after := #[{ on := 3, ground := Go.Ground.data }], guard := none }) (v := ?v16) rfl (by kernel_rfl) (by kernel_rfl) (by kernel_rfl) (fun _ _ _ h => h) (Or.inl ⟨by rfl, ?hy16⟩) (by assumption) ?rest16
  case hy16 => (intro w hSw; (try dsimp only at hSw); have ea0 := hSw.cell a0 id; have ea1 := hSw.cell a1 id; have ea2 := hSw.cell a2 id; have ea3 := hSw.cell a3 id; have ed0 := hSw.cell d0 id; have ed1 := hSw.cell d1 id; have ed2 := hSw.cell d2 id; have ed3 := hSw.cell d3 id; go_simp <;> with_reducible rfl)
  try simp only [Act.put, List.setIfInBounds_toArray, List.set_cons_zero, List.set_cons_succ]
  refine wpAnyH_take (i := 5) (oi := { dst := some 49, op := Go.Op.move (Go.Operand.tmp 5), type := 23, pos := "more.go:30", after := #[], guard := none }) (v := ?v17) rfl (by kernel_rfl) (by kernel_rfl) (by kernel_rfl) (fun _ _ _ h => h) (Or.inl ⟨by rfl, ?hy17⟩) (by assumption) ?rest17
  case hy17 => (intro w hSw; (try dsimp only at hSw); have ea0 := hSw.cell a0 id; have ea1 := hSw.cell a1 id; have ea2 := hSw.cell a2 id; have ea3 := hSw.cell a3 id; have ed0 := hSw.cell d0 id; have ed1 := hSw.cell d1 id; have ed2 := hSw.cell d2 id; have ed3 := hSw.cell d3 id; go_simp <;> with_reducible rfl)
  try simp only [Act.put, List.setIfInBounds_toArray, List.set_cons_zero, List.set_cons_succ]
  refine wpAnyH_take (i := 6) (oi := { dst := some 50, op := Go.Op.indexAddr 23 (Go.Operand.tmp 49) (Go.Operand.const (Go.Value.int Go.IntKind.i64 3)), type := 0, pos := "more.go:30", after := #[{ on := 5, ground := Go.Ground.data }], guard := none }) (v := ?v18) rfl (by kernel_rfl) (by kernel_rfl) (by kernel_rfl) (fun _ _ _ h => h) (Or.inl ⟨by rfl, ?hy18⟩) (by assumption) ?rest18
  case hy18 => (intro w hSw; (try dsimp only at hSw); have ea0 := hSw.cell a0 id; have ea1 := hSw.cell a1 id; have ea2 := hSw.cell a2 id; have ea3 := hSw.cell a3 id; have ed0 := hSw.cell d0 id; have ed1 := hSw.cell d1 id; have ed2 := hSw.cell d2 id; have ed3 := hSw.cell d3 id; go_simp <;> with_reducible rfl)
  try simp only [Act.put, List.setIfInBounds_toArray, List.set_cons_zero, List.set_cons_succ]
  refine wpAnyH_take (i := 7) (oi := { dst := some 51, op := Go.Op.load 5 (Go.Operand.tmp 50), type := 5, pos := "more.go:30", after := #[{ on := 6, ground := Go.Ground.data }], guard := none }) (v := ?v19) rfl (by kernel_rfl) (by kernel_rfl) (by kernel_rfl) (fun _ _ _ h => h) (Or.inl ⟨by rfl, ?hy19⟩) (by assumption) ?rest19
  case hy19 => (intro w hSw; (try dsimp only at hSw); have ea0 := hSw.cell a0 id; have ea1 := hSw.cell a1 id; have ea2 := hSw.cell a2 id; have ea3 := hSw.cell a3 id; have ed0 := hSw.cell d0 id; have ed1 := hSw.cell d1 id; have ed2 := hSw.cell d2 id; have ed3 := hSw.cell d3 id; go_simp <;> with_reducible rfl)
  try simp only [Act.put, List.setIfInBounds_toArray, List.set_cons_zero, List.set_cons_succ]
  refine wpAnyH_take (i := 8) (oi := { dst := some 52, op := Go.Op.convert 5 32 (Go.Operand.tmp 51), type := 32, pos := "more.go:30", after := #[{ on := 7, ground := Go.Ground.data }], guard := none }) (v := ?v20) rfl (by kernel_rfl) (by kernel_rfl) (by kernel_rfl) (fun _ _ _ h => h) (Or.inl ⟨by rfl, ?hy20⟩) (by assumption) ?rest20
  case hy20 => (intro w hSw; (try dsimp only at hSw); have ea0 := hSw.cell a0 id; have ea1 := hSw.cell a1 id; have ea2 := hSw.cell a2 id; have ea3 := hSw.cell a3 id; have ed0 := hSw.cell d0 id; have ed1 := hSw.cell d1 id; have ed2 := hSw.cell d2 id; have ed3 := hSw.cell d3 id; go_simp <;> with_reducible rfl)
  try simp only [Act.put, List.setIfInBounds_toArray, List.set_cons_zero, List.set_cons_succ]
  refine wpAnyH_take (i := 9) (oi := { dst := some 53, op := Go.Op.binOp Go.BinOp.add 32 (Go.Operand.tmp 48) (Go.Operand.tmp 52) 32, type := 32, pos := "more.go:30", after := #[{ on := 4, ground := Go.Ground.data }, { on := 8, ground := Go.Ground.data }], guard := none }) (v := ?v21) rfl (by kernel_rfl) (by kernel_rfl) (by kernel_rfl) (fun _ _ _ h => h) (Or.inl ⟨by rfl, ?hy21⟩) (by assumption) ?rest21
  case hy21 => (intro w hSw; (try dsimp only at hSw); have ea0 := hSw.cell a0 id; have ea1 := hSw.cell a1 id; have ea2 := hSw.cell a2 id; have ea3 := hSw.cell a3 id; have ed0 := hSw.cell d0 id; have ed1 := hSw.cell d1 id; have ed2 := hSw.cell d2 id; have ed3 := hSw.cell d3 id; go_simp <;> with_reducible rfl)
  try simp only [Act.put, List.setIfInBounds_toArray, List.set_cons_zero, List.set_cons_succ]
  refine wpAnyH_take (i := 10) (oi := { dst := some 7, op := Go.Op.assign (Go.Operand.tmp 53), type := 32, pos := "more.go:30", after := #[{ on := 9, ground := Go.Ground.data }, { on := 0, ground := Go.Ground.phase }, { on := 1, ground := Go.Ground.phase }, { on := 2, ground := Go.Ground.phase }, { on := 3, ground := Go.Ground.phase }, { on := 4, ground := Go.Ground.phase }, { on := 5, ground := Go.Ground.phase }, { on := 6, ground := Go.Ground.phase }, { on := 7, ground := Go.Ground.phase }, { on := 8, ground := Go.Ground.phase }, { on := 9, ground := Go.Ground.phase }], guard := none }) (v := ?v22) rfl (by kernel_rfl) (by kernel_rfl) (by kernel_rfl) (fun _ _ _ h => h) (Or.inl ⟨by rfl, ?hy22⟩) (by assumption) ?rest22
  case hy22 => (intro w hSw; (try dsimp only at hSw); have ea0 := hSw.cell a0 id; have ea1 := hSw.cell a1 id; have ea2 := hSw.cell a2 id; have ea3 := hSw.cell a3 id; have ed0 := hSw.cell d0 id; have ed1 := hSw.cell d1 id; have ed2 := hSw.cell d2 id; have ed3 := hSw.cell d3 id; go_simp <;> with_reducible rfl)
  try simp only [Act.put, List.setIfInBounds_toArray, List.set_cons_zero, List.set_cons_succ]
  refine wpAnyH_done (by kernel_rfl) ?_ _
  clear hS0
  have HX_w9 := Lib.hid hx
  clear hx
  replace a0 := HX_w9.out.cell a0 id
  replace a1 := HX_w9.out.cell a1 id
  replace a2 := HX_w9.out.cell a2 id
  replace a3 := HX_w9.out.cell a3 id
  replace d0 := HX_w9.out.cell d0 id
  replace d1 := HX_w9.out.cell d1 id
  replace d2 := HX_w9.out.cell d2 id
  replace d3 := HX_w9.out.cell d3 id
  replace B_xb_ := Lib.hid (((HX_w8.out.trans HX_w9.out).block xb_ (row_lt B_xb_.out) id).trans B_xb_.out)
  have cxb_1 := row_cell (k := 1) (v := .int .u8 (cn : Int)) B_xb_.out rfl
  have cxb_2 := row_cell (k := 2) (v := .int .u32 xrest) B_xb_.out rfl
  have hw9 : IntKind.u16.wrap (cn : Int) = (cn : Int) := by rw [IntKind.wrap_u16]; omega
  have hwA : IntKind.u16.wrap (2048 + (cn : Int)) = 2048 + (cn : Int) := by rw [IntKind.wrap_u16]; omega
  by_cases hc0n : cn = 0
  ·
    by_cases hr0 : xrest = 0
    ·
      have hz1 : ((cn : Int) != 0) = false := by rw [hc0n]; rfl
      have hz2 : (xrest != 0) = false := by rw [hr0]; rfl
      clear hc0n hr0
      go_wp2_with fail
      clear cxb_1 cxb_2
      have hx0 := Lib.hid (Ex.refl (fun _ => False) w9)
      go_loopw [9, 10] (fun s i wl => ∃ (j : Nat) (sv : Bool), j ≤ xl.length ∧ i = .int .i64 (j : Int) ∧ s = .bool sv ∧ Hid (sv = true ↔ rsome false xl j) ∧ Hid (Ex (fun _ => False) w9 wl)) (fun _ i _ => xl.length - (intOf i).toNat)
      case atStart => exact ⟨0, false, by omega, rfl, rfl, Lib.hid (rsome_zero _ _), hx0⟩
      case round =>
        clear hx0
        obtain ⟨j, sv, hj, rfl, rfl, hsv, hxl⟩ := hrel
        have cxb_3 := row_cell (k := 3) (v := .slice A xl.length c) ((hxl.out.block xb_ (row_lt B_xb_.out) id).trans B_xb_.out) rfl
        by_cases dj : j < xl.length
        ·
          have hdj : (j : Int) < (xl.length : Int) := by omega
          obtain ⟨_, A', c', e', hcap, hcell⟩ := ((RB.keep HM.out (((((((((HX_w1.out.trans HX_w2.out).andThen HX_w3.out (fun i hi e => by have := hb_xb_; omega)).andThen HX_w4.out (fun i hi e => by have := hb_xb_; omega)).trans HX_w5.out).andThen HX_w6.out (fun i hi e => by have := hb_xb_; omega)).trans HX_w7.out).trans HX_w8.out).trans HX_w9.out).trans hxl.out) (fun _ _ _ => id)))
          injection e' with e1 e2 e3
          subst e1 e3
          obtain ⟨b, off, rfl, _, hc⟩ := hcell j dj
          clear hcell e2
          obtain ⟨x, hxj⟩ : ∃ x, x = xl[j] := ⟨_, rfl⟩
          rw [← hxj] at hc
          have hnx := rsome_next false (l := xl) dj
          rw [← hxj] at hnx
          have HNX := Lib.hid hnx
          clear hnx hxj
          cases sv
          ·
            by_cases hx0 : x = 0
            ·
              have hz : ((x.toNat : Int) != 0) = false := by rw [hx0]; rfl
              have HX0 := Lib.hid hx0
              clear hx0
              have HNW : Hid ((false : Bool) = true ↔ rsome false xl (j + 1)) := Lib.hid (by rw [HNX.out, ← hsv.out]; simp [HX0.out])
              go_wp2_with fail
              go_roundw
              case rel => exact ⟨j + 1, false, by omega, by go_num, rfl, HNW, hxl⟩
              case measure => simp [intOf]; omega
            ·
              have hz : ((x.toNat : Int) != 0) = true := by
                rw [bne_iff_ne]; intro h; exact hx0 (UInt8.toNat_inj.1 (by show x.toNat = 0; omega))
              have HX0 := Lib.hid hx0
              clear hx0
              have HNW : Hid ((true : Bool) = true ↔ rsome false xl (j + 1)) := Lib.hid (by rw [HNX.out, ← hsv.out]; simp [HX0.out])
              go_wp2_with fail
              go_roundw
              case rel => exact ⟨j + 1, true, by omega, by go_num, rfl, HNW, hxl⟩
              case measure => simp [intOf]; omega
          ·
            have HNW : Hid ((true : Bool) = true ↔ rsome false xl (j + 1)) := Lib.hid (by rw [HNX.out, ← hsv.out]; simp)
            go_wp2_with fail
            go_roundw
            case rel => exact ⟨j + 1, true, by omega, by go_num, rfl, HNW, hxl⟩
            case measure => simp [intOf]; omega
        ·
          have htk : xl.take j = xl := List.take_of_length_le (by omega)
          unfold rsome at hsv
          rw [htk] at hsv
          go_upto_region 17 with fail
          clear dj htk
          clear cxb_3
          replace a0 := hxl.out.cell a0 id
          replace a1 := hxl.out.cell a1 id
          replace a2 := hxl.out.cell a2 id
          replace a3 := hxl.out.cell a3 id
          replace d0 := hxl.out.cell d0 id
          replace d1 := hxl.out.cell d1 id
          replace d2 := hxl.out.cell d2 id
          replace d3 := hxl.out.cell d3 id
          replace B_xb_ := Lib.hid ((hxl.out.block xb_ (row_lt B_xb_.out) id).trans B_xb_.out)
          have cxb_1 := row_cell (k := 1) (v := .int .u8 (cn : Int)) B_xb_.out rfl
          have hc4a : (4 : Int) ≤ (c8 : Int) := by omega
          have hNa : (N : Int) ≤ (c8 : Int) := by omega
          have hcne : ¬ c8 = 4 := by omega
          have hdne : ¬ c0 = 4 := by omega
          have hNb : (N : Int) ≤ (c0 : Int) := by omega
          have hsT : ((bs T).toList == (bs T).toList) = true := by simp
          have R8l := Lib.hid (R8.out.keep ((HX_w8.out.trans HX_w9.out).trans hxl.out) (fun _ _ _ => id))
          have R0l := Lib.hid (R0.out.keep ((HX_w8.out.trans HX_w9.out).trans hxl.out) (fun _ _ _ => id))
          cases sv
          ·
            clear hsv
            clear HUP
            have hS0 : Ex (fun _ => False) wr wr.drew := (Ex.refl _ wr).drew
            refine wp_region_held_drew (S := fun W => Ex (fun _ => False) wr W) (by kernel_rfl) hS0 (fun _ => ?_)
            have hx := hS0
            generalize wr.drew = we at hx hS0 ⊢
            refine wpAnyH_take (i := 0) (oi := { dst := some 82, op := Go.Op.move (Go.Operand.tmp 3), type := 4, pos := "more.go:36", after := #[], guard := none }) (v := ?v23) rfl (by kernel_rfl) (by kernel_rfl) (by kernel_rfl) (fun _ _ _ h => h) (Or.inl ⟨by rfl, ?hy23⟩) (by assumption) ?rest23
            case hy23 => (intro w hSw; (try dsimp only at hSw); have ea0 := hSw.cell a0 id; have ea1 := hSw.cell a1 id; have ea2 := hSw.cell a2 id; have ea3 := hSw.cell a3 id; have ed0 := hSw.cell d0 id; have ed1 := hSw.cell d1 id; have ed2 := hSw.cell d2 id; have ed3 := hSw.cell d3 id; have ecxb_1 := hSw.cell cxb_1 id; go_simp <;> with_reducible rfl)
            try simp only [Act.put, List.setIfInBounds_toArray, List.set_cons_zero, List.set_cons_succ]
            refine wpAnyH_take (i := 1) (oi := { dst := some 83, op := Go.Op.move (Go.Operand.tmp 82), type := 4, pos := "more.go:36", after := #[{ on := 0, ground := Go.Ground.data }], guard := none }) (v := ?v24) rfl (by kernel_rfl) (by kernel_rfl) (by kernel_rfl) (fun _ _ _ h => h) (Or.inl ⟨by rfl, ?hy24⟩) (by assumption) ?rest24
            case hy24 => (intro w hSw; (try dsimp only at hSw); have ea0 := hSw.cell a0 id; have ea1 := hSw.cell a1 id; have ea2 := hSw.cell a2 id; have ea3 := hSw.cell a3 id; have ed0 := hSw.cell d0 id; have ed1 := hSw.cell d1 id; have ed2 := hSw.cell d2 id; have ed3 := hSw.cell d3 id; have ecxb_1 := hSw.cell cxb_1 id; go_simp <;> with_reducible rfl)
            try simp only [Act.put, List.setIfInBounds_toArray, List.set_cons_zero, List.set_cons_succ]
            refine wpAnyH_take (i := 2) (oi := { dst := some 84, op := Go.Op.move (Go.Operand.tmp 4), type := 23, pos := "more.go:36", after := #[{ on := 1, ground := Go.Ground.guard }], guard := some (1, true) }) (v := ?v25) rfl (by kernel_rfl) (by kernel_rfl) (by kernel_rfl) (fun _ _ _ h => h) (Or.inl ⟨by rfl, ?hy25⟩) (by assumption) ?rest25
            case hy25 => (intro w hSw; (try dsimp only at hSw); have ea0 := hSw.cell a0 id; have ea1 := hSw.cell a1 id; have ea2 := hSw.cell a2 id; have ea3 := hSw.cell a3 id; have ed0 := hSw.cell d0 id; have ed1 := hSw.cell d1 id; have ed2 := hSw.cell d2 id; have ed3 := hSw.cell d3 id; have ecxb_1 := hSw.cell cxb_1 id; go_simp <;> with_reducible rfl)
            try simp only [Act.put, List.setIfInBounds_toArray, List.set_cons_zero, List.set_cons_succ]
            refine wpAnyH_take (i := 3) (oi := { dst := some 85, op := Go.Op.slice 23 (Go.Operand.tmp 84) (some (Go.Operand.const (Go.Value.int Go.IntKind.i64 4))) none none, type := 23, pos := "more.go:36", after := #[{ on := 2, ground := Go.Ground.data }, { on := 1, ground := Go.Ground.guard }], guard := some (1, true) }) (v := ?v26) rfl (by kernel_rfl) (by kernel_rfl) (by kernel_rfl) (fun _ _ _ h => h) (Or.inl ⟨by rfl, ?hy26⟩) (by assumption) ?rest26
            case hy26 => (intro w hSw; (try dsimp only at hSw); have ea0 := hSw.cell a0 id; have ea1 := hSw.cell a1 id; have ea2 := hSw.cell a2 id; have ea3 := hSw.cell a3 id; have ed0 := hSw.cell d0 id; have ed1 := hSw.cell d1 id; have ed2 := hSw.cell d2 id; have ed3 := hSw.cell d3 id; have ecxb_1 := hSw.cell cxb_1 id; go_simp <;> with_reducible rfl)
            try simp only [Act.put, List.setIfInBounds_toArray, List.set_cons_zero, List.set_cons_succ]
            refine wpAnyH_take (i := 4) (oi := { dst := some 86, op := Go.Op.convert 23 9 (Go.Operand.tmp 85), type := 9, pos := "more.go:36", after := #[{ on := 3, ground := Go.Ground.data }, { on := 1, ground := Go.Ground.guard }], guard := some (1, true) }) (v := ?v27) rfl (by kernel_rfl) (by kernel_rfl) (by kernel_rfl) (fun _ _ _ h => h) (Or.inl ⟨by rfl, ?hy27⟩) (by assumption) ?rest27
            case hy27 => (intro w hSw; (try dsimp only at hSw); have ea0 := hSw.cell a0 id; have ea1 := hSw.cell a1 id; have ea2 := hSw.cell a2 id; have ea3 := hSw.cell a3 id; have ed0 := hSw.cell d0 id; have ed1 := hSw.cell d1 id; have ed2 := hSw.cell d2 id; have ed3 := hSw.cell d3 id; have ecxb_1 := hSw.cell cxb_1 id; have eq := (RB.keep R8l.out hSw (fun _ _ _ => id)).str (Pr := Try.prog) 23 9 5 Try.underlying23 Try.underlying5 Try.underlying9; go_simp <;> with_reducible rfl)
            try simp only [Act.put, List.setIfInBounds_toArray, List.set_cons_zero, List.set_cons_succ]
            refine wpAnyH_take (i := 5) (oi := { dst := some 87, op := Go.Op.move (Go.Operand.tmp 5), type := 23, pos := "more.go:36", after := #[{ on := 1, ground := Go.Ground.guard }], guard := some (1, true) }) (v := ?v28) rfl (by kernel_rfl) (by kernel_rfl) (by kernel_rfl) (fun _ _ _ h => h) (Or.inl ⟨by rfl, ?hy28⟩) (by assumption) ?rest28
            case hy28 => (intro w hSw; (try dsimp only at hSw); have ea0 := hSw.cell a0 id; have ea1 := hSw.cell a1 id; have ea2 := hSw.cell a2 id; have ea3 := hSw.cell a3 id; have ed0 := hSw.cell d0 id; have ed1 := hSw.cell d1 id; have ed2 := hSw.cell d2 id; have ed3 := hSw.cell d3 id; have ecxb_1 := hSw.cell cxb_1 id; go_simp <;> with_reducible rfl)
            try simp only [Act.put, List.setIfInBounds_toArray, List.set_cons_zero, List.set_cons_succ]
            refine wpAnyH_take (i := 6) (oi := { dst := some 88, op := Go.Op.slice 23 (Go.Operand.tmp 87) (some (Go.Operand.const (Go.Value.int Go.IntKind.i64 4))) none none, type := 23, pos := "more.go:36", after := #[{ on := 5, ground := Go.Ground.data }, { on := 1, ground := Go.Ground.guard }], guard := some (1, true) }) (v := ?v29) rfl (by kernel_rfl) (by kernel_rfl) (by kernel_rfl) (fun _ _ _ h => h) (Or.inl ⟨by rfl, ?hy29⟩) (by assumption) ?rest29
            case hy29 => (intro w hSw; (try dsimp only at hSw); have ea0 := hSw.cell a0 id; have ea1 := hSw.cell a1 id; have ea2 := hSw.cell a2 id; have ea3 := hSw.cell a3 id; have ed0 := hSw.cell d0 id; have ed1 := hSw.cell d1 id; have ed2 := hSw.cell d2 id; have ed3 := hSw.cell d3 id; have ecxb_1 := hSw.cell cxb_1 id; go_simp <;> with_reducible rfl)
            try simp only [Act.put, List.setIfInBounds_toArray, List.set_cons_zero, List.set_cons_succ]
            refine wpAnyH_take (i := 7) (oi := { dst := some 89, op := Go.Op.convert 23 9 (Go.Operand.tmp 88), type := 9, pos := "more.go:36", after := #[{ on := 6, ground := Go.Ground.data }, { on := 1, ground := Go.Ground.guard }], guard := some (1, true) }) (v := ?v30) rfl (by kernel_rfl) (by kernel_rfl) (by kernel_rfl) (fun _ _ _ h => h) (Or.inl ⟨by rfl, ?hy30⟩) (by assumption) ?rest30
            case hy30 => (intro w hSw; (try dsimp only at hSw); have ea0 := hSw.cell a0 id; have ea1 := hSw.cell a1 id; have ea2 := hSw.cell a2 id; have ea3 := hSw.cell a3 id; have ed0 := hSw.cell d0 id; have ed1 := hSw.cell d1 id; have ed2 := hSw.cell d2 id; have ed3 := hSw.cell d3 id; have ecxb_1 := hSw.cell cxb_1 id; have eq := (RB.keep R0l.out hSw (fun _ _ _ => id)).str (Pr := Try.prog) 23 9 5 Try.underlying23 Try.underlying5 Try.underlying9; go_simp <;> with_reducible rfl)
            try simp only [Act.put, List.setIfInBounds_toArray, List.set_cons_zero, List.set_cons_succ]
            refine wpAnyH_take (i := 8) (oi := { dst := some 90, op := Go.Op.binOp Go.BinOp.eql 9 (Go.Operand.tmp 86) (Go.Operand.tmp 89) 9, type := 4, pos := "more.go:36", after := #[{ on := 4, ground := Go.Ground.data }, { on := 7, ground := Go.Ground.data }, { on := 1, ground := Go.Ground.guard }], guard := some (1, true) }) (v := ?v31) rfl (by kernel_rfl) (by kernel_rfl) (by kernel_rfl) (fun _ _ _ h => h) (Or.inl ⟨by rfl, ?hy31⟩) (by assumption) ?rest31
            case hy31 => (intro w hSw; (try dsimp only at hSw); have ea0 := hSw.cell a0 id; have ea1 := hSw.cell a1 id; have ea2 := hSw.cell a2 id; have ea3 := hSw.cell a3 id; have ed0 := hSw.cell d0 id; have ed1 := hSw.cell d1 id; have ed2 := hSw.cell d2 id; have ed3 := hSw.cell d3 id; have ecxb_1 := hSw.cell cxb_1 id; go_simp <;> with_reducible rfl)
            try simp only [Act.put, List.setIfInBounds_toArray, List.set_cons_zero, List.set_cons_succ]
            refine wpAnyH_take (i := 9) (oi := { dst := some 91, op := Go.Op.pick (Go.Operand.tmp 83) (Go.Operand.tmp 90) (Go.Operand.const (Go.Value.bool false)), type := 4, pos := "more.go:36", after := #[{ on := 1, ground := Go.Ground.data }, { on := 8, ground := Go.Ground.data }], guard := none }) (v := ?v32) rfl (by kernel_rfl) (by kernel_rfl) (by kernel_rfl) (fun _ _ _ h => h) (Or.inl ⟨by rfl, ?hy32⟩) (by assumption) ?rest32
            case hy32 => (intro w hSw; (try dsimp only at hSw); have ea0 := hSw.cell a0 id; have ea1 := hSw.cell a1 id; have ea2 := hSw.cell a2 id; have ea3 := hSw.cell a3 id; have ed0 := hSw.cell d0 id; have ed1 := hSw.cell d1 id; have ed2 := hSw.cell d2 id; have ed3 := hSw.cell d3 id; have ecxb_1 := hSw.cell cxb_1 id; go_simp <;> with_reducible rfl)
            try simp only [Act.put, List.setIfInBounds_toArray, List.set_cons_zero, List.set_cons_succ]
            refine wpAnyH_take (i := 10) (oi := { dst := some 92, op := Go.Op.move (Go.Operand.tmp 91), type := 4, pos := "more.go:36", after := #[{ on := 9, ground := Go.Ground.data }, { on := 1, ground := Go.Ground.chain }], guard := none }) (v := ?v33) rfl (by kernel_rfl) (by kernel_rfl) (by kernel_rfl) (fun _ _ _ h => h) (Or.inl ⟨by rfl, ?hy33⟩) (by assumption) ?rest33
            case hy33 => (intro w hSw; (try dsimp only at hSw); have ea0 := hSw.cell a0 id; have ea1 := hSw.cell a1 id; have ea2 := hSw.cell a2 id; have ea3 := hSw.cell a3 id; have ed0 := hSw.cell d0 id; have ed1 := hSw.cell d1 id; have ed2 := hSw.cell d2 id; have ed3 := hSw.cell d3 id; have ecxb_1 := hSw.cell cxb_1 id; go_simp <;> with_reducible rfl)
            try simp only [Act.put, List.setIfInBounds_toArray, List.set_cons_zero, List.set_cons_succ]
            refine wpAnyH_take (i := 11) (oi := { dst := some 93, op := Go.Op.move (Go.Operand.tmp 4), type := 23, pos := "more.go:36", after := #[{ on := 10, ground := Go.Ground.guard }], guard := some (10, true) }) (v := ?v34) rfl (by kernel_rfl) (by kernel_rfl) (by kernel_rfl) (fun _ _ _ h => h) (Or.inl ⟨by rfl, ?hy34⟩) (by assumption) ?rest34
            case hy34 => (intro w hSw; (try dsimp only at hSw); have ea0 := hSw.cell a0 id; have ea1 := hSw.cell a1 id; have ea2 := hSw.cell a2 id; have ea3 := hSw.cell a3 id; have ed0 := hSw.cell d0 id; have ed1 := hSw.cell d1 id; have ed2 := hSw.cell d2 id; have ed3 := hSw.cell d3 id; have ecxb_1 := hSw.cell cxb_1 id; go_simp <;> with_reducible rfl)
            try simp only [Act.put, List.setIfInBounds_toArray, List.set_cons_zero, List.set_cons_succ]
            refine wpAnyH_take (i := 12) (oi := { dst := some 94, op := Go.Op.indexAddr 23 (Go.Operand.tmp 93) (Go.Operand.const (Go.Value.int Go.IntKind.i64 0)), type := 0, pos := "more.go:36", after := #[{ on := 11, ground := Go.Ground.data }, { on := 10, ground := Go.Ground.guard }], guard := some (10, true) }) (v := ?v35) rfl (by kernel_rfl) (by kernel_rfl) (by kernel_rfl) (fun _ _ _ h => h) (Or.inl ⟨by rfl, ?hy35⟩) (by assumption) ?rest35
            case hy35 => (intro w hSw; (try dsimp only at hSw); have ea0 := hSw.cell a0 id; have ea1 := hSw.cell a1 id; have ea2 := hSw.cell a2 id; have ea3 := hSw.cell a3 id; have ed0 := hSw.cell d0 id; have ed1 := hSw.cell d1 id; have ed2 := hSw.cell d2 id; have ed3 := hSw.cell d3 id; have ecxb_1 := hSw.cell cxb_1 id; go_simp <;> with_reducible rfl)
            try simp only [Act.put, List.setIfInBounds_toArray, List.set_cons_zero, List.set_cons_succ]
            refine wpAnyH_take (i := 13) (oi := { dst := some 95, op := Go.Op.load 5 (Go.Operand.tmp 94), type := 5, pos := "more.go:36", after := #[{ on := 12, ground := Go.Ground.data }, { on := 10, ground := Go.Ground.guard }], guard := some (10, true) }) (v := ?v36) rfl (by kernel_rfl) (by kernel_rfl) (by kernel_rfl) (fun _ _ _ h => h) (Or.inl ⟨by rfl, ?hy36⟩) (by assumption) ?rest36
            case hy36 => (intro w hSw; (try dsimp only at hSw); have ea0 := hSw.cell a0 id; have ea1 := hSw.cell a1 id; have ea2 := hSw.cell a2 id; have ea3 := hSw.cell a3 id; have ed0 := hSw.cell d0 id; have ed1 := hSw.cell d1 id; have ed2 := hSw.cell d2 id; have ed3 := hSw.cell d3 id; have ecxb_1 := hSw.cell cxb_1 id; go_simp <;> with_reducible rfl)
            try simp only [Act.put, List.setIfInBounds_toArray, List.set_cons_zero, List.set_cons_succ]
            refine wpAnyH_take (i := 14) (oi := { dst := some 96, op := Go.Op.binOp Go.BinOp.eql 5 (Go.Operand.tmp 95) (Go.Operand.const (Go.Value.int Go.IntKind.u8 8)) 5, type := 4, pos := "more.go:36", after := #[{ on := 13, ground := Go.Ground.data }, { on := 10, ground := Go.Ground.guard }], guard := some (10, true) }) (v := ?v37) rfl (by kernel_rfl) (by kernel_rfl) (by kernel_rfl) (fun _ _ _ h => h) (Or.inl ⟨by rfl, ?hy37⟩) (by assumption) ?rest37
            case hy37 => (intro w hSw; (try dsimp only at hSw); have ea0 := hSw.cell a0 id; have ea1 := hSw.cell a1 id; have ea2 := hSw.cell a2 id; have ea3 := hSw.cell a3 id; have ed0 := hSw.cell d0 id; have ed1 := hSw.cell d1 id; have ed2 := hSw.cell d2 id; have ed3 := hSw.cell d3 id; have ecxb_1 := hSw.cell cxb_1 id; go_simp <;> with_reducible rfl)
            try simp only [Act.put, List.setIfInBounds_toArray, List.set_cons_zero, List.set_cons_succ]
            refine wpAnyH_take (i := 15) (oi := { dst := some 97, op := Go.Op.pick (Go.Operand.tmp 92) (Go.Operand.tmp 96) (Go.Operand.const (Go.Value.bool false)), type := 4, pos := "more.go:36", after := #[{ on := 10, ground := Go.Ground.data }, { on := 14, ground := Go.Ground.data }], guard := none }) (v := ?v38) rfl (by kernel_rfl) (by kernel_rfl) (by kernel_rfl) (fun _ _ _ h => h) (Or.inl ⟨by rfl, ?hy38⟩) (by assumption) ?rest38
            case hy38 => (intro w hSw; (try dsimp only at hSw); have ea0 := hSw.cell a0 id; have ea1 := hSw.cell a1 id; have ea2 := hSw.cell a2 id; have ea3 := hSw.cell a3 id; have ed0 := hSw.cell d0 id; have ed1 := hSw.cell d1 id; have ed2 := hSw.cell d2 id; have ed3 := hSw.cell d3 id; have ecxb_1 := hSw.cell cxb_1 id; go_simp <;> with_reducible rfl)
            try simp only [Act.put, List.setIfInBounds_toArray, List.set_cons_zero, List.set_cons_succ]
            refine wpAnyH_take (i := 16) (oi := { dst := some 98, op := Go.Op.move (Go.Operand.tmp 97), type := 4, pos := "more.go:36", after := #[{ on := 15, ground := Go.Ground.data }, { on := 10, ground := Go.Ground.chain }], guard := none }) (v := ?v39) rfl (by kernel_rfl) (by kernel_rfl) (by kernel_rfl) (fun _ _ _ h => h) (Or.inl ⟨by rfl, ?hy39⟩) (by assumption) ?rest39
            case hy39 => (intro w hSw; (try dsimp only at hSw); have ea0 := hSw.cell a0 id; have ea1 := hSw.cell a1 id; have ea2 := hSw.cell a2 id; have ea3 := hSw.cell a3 id; have ed0 := hSw.cell d0 id; have ed1 := hSw.cell d1 id; have ed2 := hSw.cell d2 id; have ed3 := hSw.cell d3 id; have ecxb_1 := hSw.cell cxb_1 id; go_simp <;> with_reducible rfl)
            try simp only [Act.put, List.setIfInBounds_toArray, List.set_cons_zero, List.set_cons_succ]
            refine wpAnyH_take (i := 17) (oi := { dst := some 99, op := Go.Op.move (Go.Operand.tmp 5), type := 23, pos := "more.go:36", after := #[{ on := 16, ground := Go.Ground.guard }], guard := some (16, true) }) (v := ?v40) rfl (by kernel_rfl) (by kernel_rfl) (by kernel_rfl) (fun _ _ _ h => h) (Or.inl ⟨by rfl, ?hy40⟩) (by assumption) ?rest40
            case hy40 => (intro w hSw; (try dsimp only at hSw); have ea0 := hSw.cell a0 id; have ea1 := hSw.cell a1 id; have ea2 := hSw.cell a2 id; have ea3 := hSw.cell a3 id; have ed0 := hSw.cell d0 id; have ed1 := hSw.cell d1 id; have ed2 := hSw.cell d2 id; have ed3 := hSw.cell d3 id; have ecxb_1 := hSw.cell cxb_1 id; go_simp <;> with_reducible rfl)
            try simp only [Act.put, List.setIfInBounds_toArray, List.set_cons_zero, List.set_cons_succ]
            refine wpAnyH_take (i := 18) (oi := { dst := some 100, op := Go.Op.indexAddr 23 (Go.Operand.tmp 99) (Go.Operand.const (Go.Value.int Go.IntKind.i64 0)), type := 0, pos := "more.go:36", after := #[{ on := 17, ground := Go.Ground.data }, { on := 16, ground := Go.Ground.guard }], guard := some (16, true) }) (v := ?v41) rfl (by kernel_rfl) (by kernel_rfl) (by kernel_rfl) (fun _ _ _ h => h) (Or.inl ⟨by rfl, ?hy41⟩) (by assumption) ?rest41
            case hy41 => (intro w hSw; (try dsimp only at hSw); have ea0 := hSw.cell a0 id; have ea1 := hSw.cell a1 id; have ea2 := hSw.cell a2 id; have ea3 := hSw.cell a3 id; have ed0 := hSw.cell d0 id; have ed1 := hSw.cell d1 id; have ed2 := hSw.cell d2 id; have ed3 := hSw.cell d3 id; have ecxb_1 := hSw.cell cxb_1 id; go_simp <;> with_reducible rfl)
            try simp only [Act.put, List.setIfInBounds_toArray, List.set_cons_zero, List.set_cons_succ]
            refine wpAnyH_take (i := 19) (oi := { dst := some 101, op := Go.Op.load 5 (Go.Operand.tmp 100), type := 5, pos := "more.go:36", after := #[{ on := 18, ground := Go.Ground.data }, { on := 16, ground := Go.Ground.guard }], guard := some (16, true) }) (v := ?v42) rfl (by kernel_rfl) (by kernel_rfl) (by kernel_rfl) (fun _ _ _ h => h) (Or.inl ⟨by rfl, ?hy42⟩) (by assumption) ?rest42
            case hy42 => (intro w hSw; (try dsimp only at hSw); have ea0 := hSw.cell a0 id; have ea1 := hSw.cell a1 id; have ea2 := hSw.cell a2 id; have ea3 := hSw.cell a3 id; have ed0 := hSw.cell d0 id; have ed1 := hSw.cell d1 id; have ed2 := hSw.cell d2 id; have ed3 := hSw.cell d3 id; have ecxb_1 := hSw.cell cxb_1 id; go_simp <;> with_reducible rfl)
            try simp only [Act.put, List.setIfInBounds_toArray, List.set_cons_zero, List.set_cons_succ]
            refine wpAnyH_take (i := 20) (oi := { dst := some 102, op := Go.Op.binOp Go.BinOp.eql 5 (Go.Operand.tmp 101) (Go.Operand.const (Go.Value.int Go.IntKind.u8 0)) 5, type := 4, pos := "more.go:36", after := #[{ on := 19, ground := Go.Ground.data }, { on := 16, ground := Go.Ground.guard }], guard := some (16, true) }) (v := ?v43) rfl (by kernel_rfl) (by kernel_rfl) (by kernel_rfl) (fun _ _ _ h => h) (Or.inl ⟨by rfl, ?hy43⟩) (by assumption) ?rest43
            case hy43 => (intro w hSw; (try dsimp only at hSw); have ea0 := hSw.cell a0 id; have ea1 := hSw.cell a1 id; have ea2 := hSw.cell a2 id; have ea3 := hSw.cell a3 id; have ed0 := hSw.cell d0 id; have ed1 := hSw.cell d1 id; have ed2 := hSw.cell d2 id; have ed3 := hSw.cell d3 id; have ecxb_1 := hSw.cell cxb_1 id; go_simp <;> with_reducible rfl)
            try simp only [Act.put, List.setIfInBounds_toArray, List.set_cons_zero, List.set_cons_succ]
            refine wpAnyH_take (i := 21) (oi := { dst := some 103, op := Go.Op.pick (Go.Operand.tmp 98) (Go.Operand.tmp 102) (Go.Operand.const (Go.Value.bool false)), type := 4, pos := "more.go:36", after := #[{ on := 16, ground := Go.Ground.data }, { on := 20, ground := Go.Ground.data }], guard := none }) (v := ?v44) rfl (by kernel_rfl) (by kernel_rfl) (by kernel_rfl) (fun _ _ _ h => h) (Or.inl ⟨by rfl, ?hy44⟩) (by assumption) ?rest44
            case hy44 => (intro w hSw; (try dsimp only at hSw); have ea0 := hSw.cell a0 id; have ea1 := hSw.cell a1 id; have ea2 := hSw.cell a2 id; have ea3 := hSw.cell a3 id; have ed0 := hSw.cell d0 id; have ed1 := hSw.cell d1 id; have ed2 := hSw.cell d2 id; have ed3 := hSw.cell d3 id; have ecxb_1 := hSw.cell cxb_1 id; go_simp <;> with_reducible rfl)
            try simp only [Act.put, List.setIfInBounds_toArray, List.set_cons_zero, List.set_cons_succ]
            refine wpAnyH_take (i := 22) (oi := { dst := some 104, op := Go.Op.move (Go.Operand.tmp 103), type := 4, pos := "more.go:36", after := #[{ on := 21, ground := Go.Ground.data }, { on := 16, ground := Go.Ground.chain }], guard := none }) (v := ?v45) rfl (by kernel_rfl) (by kernel_rfl) (by kernel_rfl) (fun _ _ _ h => h) (Or.inl ⟨by rfl, ?hy45⟩) (by assumption) ?rest45
            case hy45 => (intro w hSw; (try dsimp only at hSw); have ea0 := hSw.cell a0 id; have ea1 := hSw.cell a1 id; have ea2 := hSw.cell a2 id; have ea3 := hSw.cell a3 id; have ed0 := hSw.cell d0 id; have ed1 := hSw.cell d1 id; have ed2 := hSw.cell d2 id; have ed3 := hSw.cell d3 id; have ecxb_1 := hSw.cell cxb_1 id; go_simp <;> with_reducible rfl)
            try simp only [Act.put, List.setIfInBounds_toArray, List.set_cons_zero, List.set_cons_succ]
            refine wpAnyH_take (i := 23) (oi := { dst := some 105, op := Go.Op.move (Go.Operand.tmp 4), type := 23, pos := "more.go:36", after := #[{ on := 22, ground := Go.Ground.guard }], guard := some (22, true) }) (v := ?v46) rfl (by kernel_rfl) (by kernel_rfl) (by kernel_rfl) (fun _ _ _ h => h) (Or.inl ⟨by rfl, ?hy46⟩) (by assumption) ?rest46
            case hy46 => (intro w hSw; (try dsimp only at hSw); have ea0 := hSw.cell a0 id; have ea1 := hSw.cell a1 id; have ea2 := hSw.cell a2 id; have ea3 := hSw.cell a3 id; have ed0 := hSw.cell d0 id; have ed1 := hSw.cell d1 id; have ed2 := hSw.cell d2 id; have ed3 := hSw.cell d3 id; have ecxb_1 := hSw.cell cxb_1 id; go_simp <;> with_reducible rfl)
            try simp only [Act.put, List.setIfInBounds_toArray, List.set_cons_zero, List.set_cons_succ]
            refine wpAnyH_take (i := 24) (oi := { dst := some 106, op := Go.Op.indexAddr 23 (Go.Operand.tmp 105) (Go.Operand.const (Go.Value.int Go.IntKind.i64 1)), type := 0, pos := "more.go:36", after := #[{ on := 23, ground := Go.Ground.data }, { on := 22, ground := Go.Ground.guard }], guard := some (22, true) }) (v := ?v47) rfl (by kernel_rfl) (by kernel_rfl) (by kernel_rfl) (fun _ _ _ h => h) (Or.inl ⟨by rfl, ?hy47⟩) (by assumption) ?rest47
            case hy47 => (intro w hSw; (try dsimp only at hSw); have ea0 := hSw.cell a0 id; have ea1 := hSw.cell a1 id; have ea2 := hSw.cell a2 id; have ea3 := hSw.cell a3 id; have ed0 := hSw.cell d0 id; have ed1 := hSw.cell d1 id; have ed2 := hSw.cell d2 id; have ed3 := hSw.cell d3 id; have ecxb_1 := hSw.cell cxb_1 id; go_simp <;> with_reducible rfl)
            try simp only [Act.put, List.setIfInBounds_toArray, List.set_cons_zero, List.set_cons_succ]
            refine wpAnyH_take (i := 25) (oi := { dst := some 107, op := Go.Op.load 5 (Go.Operand.tmp 106), type := 5, pos := "more.go:36", after := #[{ on := 24, ground := Go.Ground.data }, { on := 22, ground := Go.Ground.guard }], guard := some (22, true) }) (v := ?v48) rfl (by kernel_rfl) (by kernel_rfl) (by kernel_rfl) (fun _ _ _ h => h) (Or.inl ⟨by rfl, ?hy48⟩) (by assumption) ?rest48
            case hy48 => (intro w hSw; (try dsimp only at hSw); have ea0 := hSw.cell a0 id; have ea1 := hSw.cell a1 id; have ea2 := hSw.cell a2 id; have ea3 := hSw.cell a3 id; have ed0 := hSw.cell d0 id; have ed1 := hSw.cell d1 id; have ed2 := hSw.cell d2 id; have ed3 := hSw.cell d3 id; have ecxb_1 := hSw.cell cxb_1 id; go_simp <;> with_reducible rfl)
            try simp only [Act.put, List.setIfInBounds_toArray, List.set_cons_zero, List.set_cons_succ]
            refine wpAnyH_take (i := 26) (oi := { dst := some 108, op := Go.Op.move (Go.Operand.tmp 5), type := 23, pos := "more.go:36", after := #[{ on := 22, ground := Go.Ground.guard }], guard := some (22, true) }) (v := ?v49) rfl (by kernel_rfl) (by kernel_rfl) (by kernel_rfl) (fun _ _ _ h => h) (Or.inl ⟨by rfl, ?hy49⟩) (by assumption) ?rest49
            case hy49 => (intro w hSw; (try dsimp only at hSw); have ea0 := hSw.cell a0 id; have ea1 := hSw.cell a1 id; have ea2 := hSw.cell a2 id; have ea3 := hSw.cell a3 id; have ed0 := hSw.cell d0 id; have ed1 := hSw.cell d1 id; have ed2 := hSw.cell d2 id; have ed3 := hSw.cell d3 id; have ecxb_1 := hSw.cell cxb_1 id; go_simp <;> with_reducible rfl)
            try simp only [Act.put, List.setIfInBounds_toArray, List.set_cons_zero, List.set_cons_succ]
            refine wpAnyH_take (i := 27) (oi := { dst := some 109, op := Go.Op.indexAddr 23 (Go.Operand.tmp 108) (Go.Operand.const (Go.Value.int Go.IntKind.i64 1)), type := 0, pos := "more.go:36", after := #[{ on := 26, ground := Go.Ground.data }, { on := 22, ground := Go.Ground.guard }], guard := some (22, true) }) (v := ?v50) rfl (by kernel_rfl) (by kernel_rfl) (by kernel_rfl) (fun _ _ _ h => h) (Or.inl ⟨by rfl, ?hy50⟩) (by assumption) ?rest50
            case hy50 => (intro w hSw; (try dsimp only at hSw); have ea0 := hSw.cell a0 id; have ea1 := hSw.cell a1 id; have ea2 := hSw.cell a2 id; have ea3 := hSw.cell a3 id; have ed0 := hSw.cell d0 id; have ed1 := hSw.cell d1 id; have ed2 := hSw.cell d2 id; have ed3 := hSw.cell d3 id; have ecxb_1 := hSw.cell cxb_1 id; go_simp <;> with_reducible rfl)
            try simp only [Act.put, List.setIfInBounds_toArray, List.set_cons_zero, List.set_cons_succ]
            refine wpAnyH_take (i := 28) (oi := { dst := some 110, op := Go.Op.load 5 (Go.Operand.tmp 109), type := 5, pos := "more.go:36", after := #[{ on := 27, ground := Go.Ground.data }, { on := 22, ground := Go.Ground.guard }], guard := some (22, true) }) (v := ?v51) rfl (by kernel_rfl) (by kernel_rfl) (by kernel_rfl) (fun _ _ _ h => h) (Or.inl ⟨by rfl, ?hy51⟩) (by assumption) ?rest51
            case hy51 => (intro w hSw; (try dsimp only at hSw); have ea0 := hSw.cell a0 id; have ea1 := hSw.cell a1 id; have ea2 := hSw.cell a2 id; have ea3 := hSw.cell a3 id; have ed0 := hSw.cell d0 id; have ed1 := hSw.cell d1 id; have ed2 := hSw.cell d2 id; have ed3 := hSw.cell d3 id; have ecxb_1 := hSw.cell cxb_1 id; go_simp <;> with_reducible rfl)
            try simp only [Act.put, List.setIfInBounds_toArray, List.set_cons_zero, List.set_cons_succ]
            refine wpAnyH_take (i := 29) (oi := { dst := some 111, op := Go.Op.binOp Go.BinOp.eql 5 (Go.Operand.tmp 107) (Go.Operand.tmp 110) 5, type := 4, pos := "more.go:36", after := #[{ on := 25, ground := Go.Ground.data }, { on := 28, ground := Go.Ground.data }, { on := 22, ground := Go.Ground.guard }], guard := some (22, true) }) (v := ?v52) rfl (by kernel_rfl) (by kernel_rfl) (by kernel_rfl) (fun _ _ _ h => h) (Or.inl ⟨by rfl, ?hy52⟩) (by assumption) ?rest52
            case hy52 => (intro w hSw; (try dsimp only at hSw); have ea0 := hSw.cell a0 id; have ea1 := hSw.cell a1 id; have ea2 := hSw.cell a2 id; have ea3 := hSw.cell a3 id; have ed0 := hSw.cell d0 id; have ed1 := hSw.cell d1 id; have ed2 := hSw.cell d2 id; have ed3 := hSw.cell d3 id; have ecxb_1 := hSw.cell cxb_1 id; go_simp <;> with_reducible rfl)
            try simp only [Act.put, List.setIfInBounds_toArray, List.set_cons_zero, List.set_cons_succ]
            refine wpAnyH_take (i := 30) (oi := { dst := some 112, op := Go.Op.pick (Go.Operand.tmp 104) (Go.Operand.tmp 111) (Go.Operand.const (Go.Value.bool false)), type := 4, pos := "more.go:36", after := #[{ on := 22, ground := Go.Ground.data }, { on := 29, ground := Go.Ground.data }], guard := none }) (v := ?v53) rfl (by kernel_rfl) (by kernel_rfl) (by kernel_rfl) (fun _ _ _ h => h) (Or.inl ⟨by rfl, ?hy53⟩) (by assumption) ?rest53
            case hy53 => (intro w hSw; (try dsimp only at hSw); have ea0 := hSw.cell a0 id; have ea1 := hSw.cell a1 id; have ea2 := hSw.cell a2 id; have ea3 := hSw.cell a3 id; have ed0 := hSw.cell d0 id; have ed1 := hSw.cell d1 id; have ed2 := hSw.cell d2 id; have ed3 := hSw.cell d3 id; have ecxb_1 := hSw.cell cxb_1 id; go_simp <;> with_reducible rfl)
            try simp only [Act.put, List.setIfInBounds_toArray, List.set_cons_zero, List.set_cons_succ]
            refine wpAnyH_take (i := 31) (oi := { dst := some 113, op := Go.Op.move (Go.Operand.tmp 112), type := 4, pos := "more.go:36", after := #[{ on := 30, ground := Go.Ground.data }, { on := 22, ground := Go.Ground.chain }], guard := none }) (v := ?v54) rfl (by kernel_rfl) (by kernel_rfl) (by kernel_rfl) (fun _ _ _ h => h) (Or.inl ⟨by rfl, ?hy54⟩) (by assumption) ?rest54
            case hy54 => (intro w hSw; (try dsimp only at hSw); have ea0 := hSw.cell a0 id; have ea1 := hSw.cell a1 id; have ea2 := hSw.cell a2 id; have ea3 := hSw.cell a3 id; have ed0 := hSw.cell d0 id; have ed1 := hSw.cell d1 id; have ed2 := hSw.cell d2 id; have ed3 := hSw.cell d3 id; have ecxb_1 := hSw.cell cxb_1 id; go_simp <;> with_reducible rfl)
            try simp only [Act.put, List.setIfInBounds_toArray, List.set_cons_zero, List.set_cons_succ]
            refine wpAnyH_take (i := 32) (oi := { dst := some 114, op := Go.Op.move (Go.Operand.tmp 9), type := 4, pos := "more.go:36", after := #[{ on := 31, ground := Go.Ground.guard }], guard := some (31, true) }) (v := ?v55) rfl (by kernel_rfl) (by kernel_rfl) (by kernel_rfl) (fun _ _ _ h => h) (Or.inl ⟨by rfl, ?hy55⟩) (by assumption) ?rest55
            case hy55 => (intro w hSw; (try dsimp only at hSw); have ea0 := hSw.cell a0 id; have ea1 := hSw.cell a1 id; have ea2 := hSw.cell a2 id; have ea3 := hSw.cell a3 id; have ed0 := hSw.cell d0 id; have ed1 := hSw.cell d1 id; have ed2 := hSw.cell d2 id; have ed3 := hSw.cell d3 id; have ecxb_1 := hSw.cell cxb_1 id; go_simp <;> with_reducible rfl)
            try simp only [Act.put, List.setIfInBounds_toArray, List.set_cons_zero, List.set_cons_succ]
            refine wpAnyH_take (i := 33) (oi := { dst := some 115, op := Go.Op.unOp Go.UnOp.not 4 (Go.Operand.tmp 114), type := 4, pos := "more.go:36", after := #[{ on := 32, ground := Go.Ground.data }, { on := 31, ground := Go.Ground.guard }], guard := some (31, true) }) (v := ?v56) rfl (by kernel_rfl) (by kernel_rfl) (by kernel_rfl) (fun _ _ _ h => h) (Or.inl ⟨by rfl, ?hy56⟩) (by assumption) ?rest56
            case hy56 => (intro w hSw; (try dsimp only at hSw); have ea0 := hSw.cell a0 id; have ea1 := hSw.cell a1 id; have ea2 := hSw.cell a2 id; have ea3 := hSw.cell a3 id; have ed0 := hSw.cell d0 id; have ed1 := hSw.cell d1 id; have ed2 := hSw.cell d2 id; have ed3 := hSw.cell d3 id; have ecxb_1 := hSw.cell cxb_1 id; go_simp <;> with_reducible rfl)
            try simp only [Act.put, List.setIfInBounds_toArray, List.set_cons_zero, List.set_cons_succ]
            refine wpAnyH_take (i := 34) (oi := { dst := some 116, op := Go.Op.move (Go.Operand.tmp 115), type := 4, pos := "more.go:36", after := #[{ on := 33, ground := Go.Ground.data }, { on := 31, ground := Go.Ground.chain }, { on := 31, ground := Go.Ground.guard }], guard := some (31, true) }) (v := ?v57) rfl (by kernel_rfl) (by kernel_rfl) (by kernel_rfl) (fun _ _ _ h => h) (Or.inl ⟨by rfl, ?hy57⟩) (by assumption) ?rest57
            case hy57 => (intro w hSw; (try dsimp only at hSw); have ea0 := hSw.cell a0 id; have ea1 := hSw.cell a1 id; have ea2 := hSw.cell a2 id; have ea3 := hSw.cell a3 id; have ed0 := hSw.cell d0 id; have ed1 := hSw.cell d1 id; have ed2 := hSw.cell d2 id; have ed3 := hSw.cell d3 id; have ecxb_1 := hSw.cell cxb_1 id; go_simp <;> with_reducible rfl)
            try simp only [Act.put, List.setIfInBounds_toArray, List.set_cons_zero, List.set_cons_succ]
            refine wpAnyH_take (i := 35) (oi := { dst := some 117, op := Go.Op.move (Go.Operand.tmp 6), type := 32, pos := "more.go:36", after := #[{ on := 34, ground := Go.Ground.guard }], guard := some (34, false) }) (v := undef) rfl (by kernel_rfl) (by kernel_rfl) (by kernel_rfl) (fun _ _ _ h => h) (Or.inr ⟨by rfl, rfl⟩) (by assumption) ?rest58
            try simp only [Act.put, List.setIfInBounds_toArray, List.set_cons_zero, List.set_cons_succ]
            refine wpAnyH_take (i := 36) (oi := { dst := some 118, op := Go.Op.move (Go.Operand.tmp 8), type := 32, pos := "more.go:36", after := #[{ on := 34, ground := Go.Ground.guard }], guard := some (34, false) }) (v := undef) rfl (by kernel_rfl) (by kernel_rfl) (by kernel_rfl) (fun _ _ _ h => h) (Or.inr ⟨by rfl, rfl⟩) (by assumption) ?rest59
            try simp only [Act.put, List.setIfInBounds_toArray, List.set_cons_zero, List.set_cons_succ]
            refine wpAnyH_take (i := 37) (oi := { dst := some 119, op := Go.Op.fieldAddr 25 (Go.Operand.tmp 1) 1, type := 0, pos := "more.go:36", after := #[{ on := 34, ground := Go.Ground.guard }], guard := some (34, false) }) (v := undef) rfl (by kernel_rfl) (by kernel_rfl) (by kernel_rfl) (fun _ _ _ h => h) (Or.inr ⟨by rfl, rfl⟩) (by assumption) ?rest60
            try simp only [Act.put, List.setIfInBounds_toArray, List.set_cons_zero, List.set_cons_succ]
            refine wpAnyH_take (i := 38) (oi := { dst := some 120, op := Go.Op.load 5 (Go.Operand.tmp 119), type := 5, pos := "more.go:36", after := #[{ on := 37, ground := Go.Ground.data }, { on := 34, ground := Go.Ground.guard }], guard := some (34, false) }) (v := undef) rfl (by kernel_rfl) (by kernel_rfl) (by kernel_rfl) (fun _ _ _ h => h) (Or.inr ⟨by rfl, rfl⟩) (by assumption) ?rest61
            try simp only [Act.put, List.setIfInBounds_toArray, List.set_cons_zero, List.set_cons_succ]
            refine wpAnyH_take (i := 39) (oi := { dst := some 121, op := Go.Op.convert 5 32 (Go.Operand.tmp 120), type := 32, pos := "more.go:36", after := #[{ on := 38, ground := Go.Ground.data }, { on := 34, ground := Go.Ground.guard }], guard := some (34, false) }) (v := undef) rfl (by kernel_rfl) (by kernel_rfl) (by kernel_rfl) (fun _ _ _ h => h) (Or.inr ⟨by rfl, rfl⟩) (by assumption) ?rest62
            try simp only [Act.put, List.setIfInBounds_toArray, List.set_cons_zero, List.set_cons_succ]
            refine wpAnyH_take (i := 40) (oi := { dst := some 122, op := Go.Op.call { callee := Go.Callee.value (Go.Operand.func 12), args := #[Go.Operand.tmp 117, Go.Operand.tmp 118, Go.Operand.tmp 121], argTypes := #[32, 32, 32] }, type := 32, pos := "more.go:36", after := #[{ on := 35, ground := Go.Ground.data }, { on := 36, ground := Go.Ground.data }, { on := 39, ground := Go.Ground.data }, { on := 34, ground := Go.Ground.chain }, { on := 34, ground := Go.Ground.guard }], guard := some (34, false) }) (v := undef) rfl (by kernel_rfl) (by kernel_rfl) (by kernel_rfl) (fun _ _ _ h => h) (Or.inr ⟨by rfl, rfl⟩) (by assumption) ?rest63
            try simp only [Act.put, List.setIfInBounds_toArray, List.set_cons_zero, List.set_cons_succ]
            refine wpAnyH_take (i := 41) (oi := { dst := some 123, op := Go.Op.move (Go.Operand.tmp 7), type := 32, pos := "more.go:36", after := #[{ on := 34, ground := Go.Ground.guard }], guard := some (34, false) }) (v := undef) rfl (by kernel_rfl) (by kernel_rfl) (by kernel_rfl) (fun _ _ _ h => h) (Or.inr ⟨by rfl, rfl⟩) (by assumption) ?rest64
            try simp only [Act.put, List.setIfInBounds_toArray, List.set_cons_zero, List.set_cons_succ]
            refine wpAnyH_take (i := 42) (oi := { dst := some 124, op := Go.Op.binOp Go.BinOp.eql 32 (Go.Operand.tmp 122) (Go.Operand.tmp 123) 32, type := 4, pos := "more.go:36", after := #[{ on := 40, ground := Go.Ground.data }, { on := 41, ground := Go.Ground.data }, { on := 34, ground := Go.Ground.guard }], guard := some (34, false) }) (v := undef) rfl (by kernel_rfl) (by kernel_rfl) (by kernel_rfl) (fun _ _ _ h => h) (Or.inr ⟨by rfl, rfl⟩) (by assumption) ?rest65
            try simp only [Act.put, List.setIfInBounds_toArray, List.set_cons_zero, List.set_cons_succ]
            refine wpAnyH_take (i := 43) (oi := { dst := some 125, op := Go.Op.pick (Go.Operand.tmp 116) (Go.Operand.const (Go.Value.bool true)) (Go.Operand.tmp 124), type := 4, pos := "more.go:36", after := #[{ on := 34, ground := Go.Ground.data }, { on := 42, ground := Go.Ground.data }, { on := 31, ground := Go.Ground.guard }], guard := some (31, true) }) (v := ?v66) rfl (by kernel_rfl) (by kernel_rfl) (by kernel_rfl) (fun _ _ _ h => h) (Or.inl ⟨by rfl, ?hy66⟩) (by assumption) ?rest66
            case hy66 => (intro w hSw; (try dsimp only at hSw); have ea0 := hSw.cell a0 id; have ea1 := hSw.cell a1 id; have ea2 := hSw.cell a2 id; have ea3 := hSw.cell a3 id; have ed0 := hSw.cell d0 id; have ed1 := hSw.cell d1 id; have ed2 := hSw.cell d2 id; have ed3 := hSw.cell d3 id; have ecxb_1 := hSw.cell cxb_1 id; go_simp <;> with_reducible rfl)
            try simp only [Act.put, List.setIfInBounds_toArray, List.set_cons_zero, List.set_cons_succ]
            refine wpAnyH_take (i := 44) (oi := { dst := some 126, op := Go.Op.pick (Go.Operand.tmp 113) (Go.Operand.tmp 125) (Go.Operand.const (Go.Value.bool false)), type := 4, pos := "more.go:36", after := #[{ on := 31, ground := Go.Ground.data }, { on := 43, ground := Go.Ground.data }], guard := none }) (v := ?v67) rfl (by kernel_rfl) (by kernel_rfl) (by kernel_rfl) (fun _ _ _ h => h) (Or.inl ⟨by rfl, ?hy67⟩) (by assumption) ?rest67
            case hy67 => (intro w hSw; (try dsimp only at hSw); have ea0 := hSw.cell a0 id; have ea1 := hSw.cell a1 id; have ea2 := hSw.cell a2 id; have ea3 := hSw.cell a3 id; have ed0 := hSw.cell d0 id; have ed1 := hSw.cell d1 id; have ed2 := hSw.cell d2 id; have ed3 := hSw.cell d3 id; have ecxb_1 := hSw.cell cxb_1 id; go_simp <;> with_reducible rfl)
            try simp only [Act.put, List.setIfInBounds_toArray, List.set_cons_zero, List.set_cons_succ]
            refine wpAnyH_take (i := 45) (oi := { dst := some 2, op := Go.Op.assign (Go.Operand.tmp 126), type := 4, pos := "more.go:36", after := #[{ on := 44, ground := Go.Ground.data }, { on := 40, ground := Go.Ground.chain }, { on := 0, ground := Go.Ground.phase }, { on := 1, ground := Go.Ground.phase }, { on := 2, ground := Go.Ground.phase }, { on := 3, ground := Go.Ground.phase }, { on := 4, ground := Go.Ground.phase }, { on := 5, ground := Go.Ground.phase }, { on := 6, ground := Go.Ground.phase }, { on := 7, ground := Go.Ground.phase }, { on := 8, ground := Go.Ground.phase }, { on := 9, ground := Go.Ground.phase }, { on := 10, ground := Go.Ground.phase }, { on := 11, ground := Go.Ground.phase }, { on := 12, ground := Go.Ground.phase }, { on := 13, ground := Go.Ground.phase }, { on := 14, ground := Go.Ground.phase }, { on := 15, ground := Go.Ground.phase }, { on := 16, ground := Go.Ground.phase }, { on := 17, ground := Go.Ground.phase }, { on := 18, ground := Go.Ground.phase }, { on := 19, ground := Go.Ground.phase }, { on := 20, ground := Go.Ground.phase }, { on := 21, ground := Go.Ground.phase }, { on := 22, ground := Go.Ground.phase }, { on := 23, ground := Go.Ground.phase }, { on := 24, ground := Go.Ground.phase }, { on := 25, ground := Go.Ground.phase }, { on := 26, ground := Go.Ground.phase }, { on := 27, ground := Go.Ground.phase }, { on := 28, ground := Go.Ground.phase }, { on := 29, ground := Go.Ground.phase }, { on := 30, ground := Go.Ground.phase }, { on := 31, ground := Go.Ground.phase }, { on := 32, ground := Go.Ground.phase }, { on := 33, ground := Go.Ground.phase }, { on := 34, ground := Go.Ground.phase }, { on := 35, ground := Go.Ground.phase }, { on := 36, ground := Go.Ground.phase }, { on := 37, ground := Go.Ground.phase }, { on := 38, ground := Go.Ground.phase }, { on := 39, ground := Go.Ground.phase }, { on := 40, ground := Go.Ground.phase }, { on := 41, ground := Go.Ground.phase }, { on := 42, ground := Go.Ground.phase }, { on := 43, ground := Go.Ground.phase }, { on := 44, ground := Go.Ground.phase }], guard := none }) (v := ?v68) rfl (by kernel_rfl) (by kernel_rfl) (by kernel_rfl) (fun _ _ _ h => h) (Or.inl ⟨by rfl, ?hy68⟩) (by assumption) ?rest68
            case hy68 => (intro w hSw; (try dsimp only at hSw); have ea0 := hSw.cell a0 id; have ea1 := hSw.cell a1 id; have ea2 := hSw.cell a2 id; have ea3 := hSw.cell a3 id; have ed0 := hSw.cell d0 id; have ed1 := hSw.cell d1 id; have ed2 := hSw.cell d2 id; have ed3 := hSw.cell d3 id; have ecxb_1 := hSw.cell cxb_1 id; go_simp <;> with_reducible rfl)
            try simp only [Act.put, List.setIfInBounds_toArray, List.set_cons_zero, List.set_cons_succ]
            refine wpAnyH_done (by kernel_rfl) ?_ _
            have HX_we := Lib.hid hx
            clear hx
            go_wp2_with fail
            go_ret
            exact ⟨rfl, ((((((((((HX_w1.out.trans HX_w2.out).andThen HX_w3.out (fun i hi e => by have := hb_xb_; omega)).andThen HX_w4.out (fun i hi e => by have := hb_xb_; omega)).trans HX_w5.out).andThen HX_w6.out (fun i hi e => by have := hb_xb_; omega)).trans HX_w7.out).trans HX_w8.out).trans HX_w9.out).trans hxl.out).trans HX_we.out)⟩
          ·
            have hup : up s8 (2048 + cn) cn = s0 := HUP.out (by
              rcases hsv.out.1 rfl with h | ⟨x, hx, h⟩
              · cases h
              · exact .inr (.inr (fun h' => h (h' x hx))))
            have HU := Lib.hid hup
            clear hsv hup
            have hS0 : Ex (fun _ => False) wr wr.drew := (Ex.refl _ wr).drew
            refine wp_region_held_drew (S := fun W => Ex (fun _ => False) wr W) (by kernel_rfl) hS0 (fun _ => ?_)
            refine wpAnyH_take (i := 0) (oi := { dst := some 82, op := Go.Op.move (Go.Operand.tmp 3), type := 4, pos := "more.go:36", after := #[], guard := none }) (v := ?v69) rfl (by kernel_rfl) (by kernel_rfl) (by kernel_rfl) (fun _ _ _ h => h) (Or.inl ⟨by rfl, ?hy69⟩) (by assumption) ?rest69
            case hy69 => (intro w hSw; (try dsimp only at hSw); have ea0 := hSw.cell a0 id; have ea1 := hSw.cell a1 id; have ea2 := hSw.cell a2 id; have ea3 := hSw.cell a3 id; have ed0 := hSw.cell d0 id; have ed1 := hSw.cell d1 id; have ed2 := hSw.cell d2 id; have ed3 := hSw.cell d3 id; have ecxb_1 := hSw.cell cxb_1 id; go_simp <;> with_reducible rfl)
            try simp only [Act.put, List.setIfInBounds_toArray, List.set_cons_zero, List.set_cons_succ]
            refine wpAnyH_take (i := 1) (oi := { dst := some 83, op := Go.Op.move (Go.Operand.tmp 82), type := 4, pos := "more.go:36", after := #[{ on := 0, ground := Go.Ground.data }], guard := none }) (v := ?v70) rfl (by kernel_rfl) (by kernel_rfl) (by kernel_rfl) (fun _ _ _ h => h) (Or.inl ⟨by rfl, ?hy70⟩) (by assumption) ?rest70
            case hy70 => (intro w hSw; (try dsimp only at hSw); have ea0 := hSw.cell a0 id; have ea1 := hSw.cell a1 id; have ea2 := hSw.cell a2 id; have ea3 := hSw.cell a3 id; have ed0 := hSw.cell d0 id; have ed1 := hSw.cell d1 id; have ed2 := hSw.cell d2 id; have ed3 := hSw.cell d3 id; have ecxb_1 := hSw.cell cxb_1 id; go_simp <;> with_reducible rfl)
            try simp only [Act.put, List.setIfInBounds_toArray, List.set_cons_zero, List.set_cons_succ]
            refine wpAnyH_take (i := 2) (oi := { dst := some 84, op := Go.Op.move (Go.Operand.tmp 4), type := 23, pos := "more.go:36", after := #[{ on := 1, ground := Go.Ground.guard }], guard := some (1, true) }) (v := ?v71) rfl (by kernel_rfl) (by kernel_rfl) (by kernel_rfl) (fun _ _ _ h => h) (Or.inl ⟨by rfl, ?hy71⟩) (by assumption) ?rest71
            case hy71 => (intro w hSw; (try dsimp only at hSw); have ea0 := hSw.cell a0 id; have ea1 := hSw.cell a1 id; have ea2 := hSw.cell a2 id; have ea3 := hSw.cell a3 id; have ed0 := hSw.cell d0 id; have ed1 := hSw.cell d1 id; have ed2 := hSw.cell d2 id; have ed3 := hSw.cell d3 id; have ecxb_1 := hSw.cell cxb_1 id; go_simp <;> with_reducible rfl)
            try simp only [Act.put, List.setIfInBounds_toArray, List.set_cons_zero, List.set_cons_succ]
            refine wpAnyH_take (i := 3) (oi := { dst := some 85, op := Go.Op.slice 23 (Go.Operand.tmp 84) (some (Go.Operand.const (Go.Value.int Go.IntKind.i64 4))) none none, type := 23, pos := "more.go:36", after := #[{ on := 2, ground := Go.Ground.data }, { on := 1, ground := Go.Ground.guard }], guard := some (1, true) }) (v := ?v72) rfl (by kernel_rfl) (by kernel_rfl) (by kernel_rfl) (fun _ _ _ h => h) (Or.inl ⟨by rfl, ?hy72⟩) (by assumption) ?rest72
            case hy72 => (intro w hSw; (try dsimp only at hSw); have ea0 := hSw.cell a0 id; have ea1 := hSw.cell a1 id; have ea2 := hSw.cell a2 id; have ea3 := hSw.cell a3 id; have ed0 := hSw.cell d0 id; have ed1 := hSw.cell d1 id; have ed2 := hSw.cell d2 id; have ed3 := hSw.cell d3 id; have ecxb_1 := hSw.cell cxb_1 id; go_simp <;> with_reducible rfl)
            try simp only [Act.put, List.setIfInBounds_toArray, List.set_cons_zero, List.set_cons_succ]
            refine wpAnyH_take (i := 4) (oi := { dst := some 86, op := Go.Op.convert 23 9 (Go.Operand.tmp 85), type := 9, pos := "more.go:36", after := #[{ on := 3, ground := Go.Ground.data }, { on := 1, ground := Go.Ground.guard }], guard := some (1, true) }) (v := ?v73) rfl (by kernel_rfl) (by kernel_rfl) (by kernel_rfl) (fun _ _ _ h => h) (Or.inl ⟨by rfl, ?hy73⟩) (by assumption) ?rest73
            case hy73 => (intro w hSw; (try dsimp only at hSw); have ea0 := hSw.cell a0 id; have ea1 := hSw.cell a1 id; have ea2 := hSw.cell a2 id; have ea3 := hSw.cell a3 id; have ed0 := hSw.cell d0 id; have ed1 := hSw.cell d1 id; have ed2 := hSw.cell d2 id; have ed3 := hSw.cell d3 id; have ecxb_1 := hSw.cell cxb_1 id; have eq := (RB.keep R8l.out hSw (fun _ _ _ => id)).str (Pr := Try.prog) 23 9 5 Try.underlying23 Try.underlying5 Try.underlying9; go_simp <;> with_reducible rfl)
            try simp only [Act.put, List.setIfInBounds_toArray, List.set_cons_zero, List.set_cons_succ]
            refine wpAnyH_take (i := 5) (oi := { dst := some 87, op := Go.Op.move (Go.Operand.tmp 5), type := 23, pos := "more.go:36", after := #[{ on := 1, ground := Go.Ground.guard }], guard := some (1, true) }) (v := ?v74) rfl (by kernel_rfl) (by kernel_rfl) (by kernel_rfl) (fun _ _ _ h => h) (Or.inl ⟨by rfl, ?hy74⟩) (by assumption) ?rest74
            case hy74 => (intro w hSw; (try dsimp only at hSw); have ea0 := hSw.cell a0 id; have ea1 := hSw.cell a1 id; have ea2 := hSw.cell a2 id; have ea3 := hSw.cell a3 id; have ed0 := hSw.cell d0 id; have ed1 := hSw.cell d1 id; have ed2 := hSw.cell d2 id; have ed3 := hSw.cell d3 id; have ecxb_1 := hSw.cell cxb_1 id; go_simp <;> with_reducible rfl)
            try simp only [Act.put, List.setIfInBounds_toArray, List.set_cons_zero, List.set_cons_succ]
            refine wpAnyH_take (i := 6) (oi := { dst := some 88, op := Go.Op.slice 23 (Go.Operand.tmp 87) (some (Go.Operand.const (Go.Value.int Go.IntKind.i64 4))) none none, type := 23, pos := "more.go:36", after := #[{ on := 5, ground := Go.Ground.data }, { on := 1, ground := Go.Ground.guard }], guard := some (1, true) }) (v := ?v75) rfl (by kernel_rfl) (by kernel_rfl) (by kernel_rfl) (fun _ _ _ h => h) (Or.inl ⟨by rfl, ?hy75⟩) (by assumption) ?rest75
            case hy75 => (intro w hSw; (try dsimp only at hSw); have ea0 := hSw.cell a0 id; have ea1 := hSw.cell a1 id; have ea2 := hSw.cell a2 id; have ea3 := hSw.cell a3 id; have ed0 := hSw.cell d0 id; have ed1 := hSw.cell d1 id; have ed2 := hSw.cell d2 id; have ed3 := hSw.cell d3 id; have ecxb_1 := hSw.cell cxb_1 id; go_simp <;> with_reducible rfl)
            try simp only [Act.put, List.setIfInBounds_toArray, List.set_cons_zero, List.set_cons_succ]
            refine wpAnyH_take (i := 7) (oi := { dst := some 89, op := Go.Op.convert 23 9 (Go.Operand.tmp 88), type := 9, pos := "more.go:36", after := #[{ on := 6, ground := Go.Ground.data }, { on := 1, ground := Go.Ground.guard }], guard := some (1, true) }) (v := ?v76) rfl (by kernel_rfl) (by kernel_rfl) (by kernel_rfl) (fun _ _ _ h => h) (Or.inl ⟨by rfl, ?hy76⟩) (by assumption) ?rest76
            case hy76 => (intro w hSw; (try dsimp only at hSw); have ea0 := hSw.cell a0 id; have ea1 := hSw.cell a1 id; have ea2 := hSw.cell a2 id; have ea3 := hSw.cell a3 id; have ed0 := hSw.cell d0 id; have ed1 := hSw.cell d1 id; have ed2 := hSw.cell d2 id; have ed3 := hSw.cell d3 id; have ecxb_1 := hSw.cell cxb_1 id; have eq := (RB.keep R0l.out hSw (fun _ _ _ => id)).str (Pr := Try.prog) 23 9 5 Try.underlying23 Try.underlying5 Try.underlying9; go_simp <;> with_reducible rfl)
            try simp only [Act.put, List.setIfInBounds_toArray, List.set_cons_zero, List.set_cons_succ]
            refine wpAnyH_take (i := 8) (oi := { dst := some 90, op := Go.Op.binOp Go.BinOp.eql 9 (Go.Operand.tmp 86) (Go.Operand.tmp 89) 9, type := 4, pos := "more.go:36", after := #[{ on := 4, ground := Go.Ground.data }, { on := 7, ground := Go.Ground.data }, { on := 1, ground := Go.Ground.guard }], guard := some (1, true) }) (v := ?v77) rfl (by kernel_rfl) (by kernel_rfl) (by kernel_rfl) (fun _ _ _ h => h) (Or.inl ⟨by rfl, ?hy77⟩) (by assumption) ?rest77
            case hy77 => (intro w hSw; (try dsimp only at hSw); have ea0 := hSw.cell a0 id; have ea1 := hSw.cell a1 id; have ea2 := hSw.cell a2 id; have ea3 := hSw.cell a3 id; have ed0 := hSw.cell d0 id; have ed1 := hSw.cell d1 id; have ed2 := hSw.cell d2 id; have ed3 := hSw.cell d3 id; have ecxb_1 := hSw.cell cxb_1 id; go_simp <;> with_reducible rfl)
            try simp only [Act.put, List.setIfInBounds_toArray, List.set_cons_zero, List.set_cons_succ]
            refine wpAnyH_take (i := 9) (oi := { dst := some 91, op := Go.Op.pick (Go.Operand.tmp 83) (Go.Operand.tmp 90) (Go.Operand.const (Go.Value.bool false)), type := 4, pos := "more.go:36", after := #[{ on := 1, ground := Go.Ground.data }, { on := 8, ground := Go.Ground.data }], guard := none }) (v := ?v78) rfl (by kernel_rfl) (by kernel_rfl) (by kernel_rfl) (fun _ _ _ h => h) (Or.inl ⟨by rfl, ?hy78⟩) (by assumption) ?rest78
            case hy78 => (intro w hSw; (try dsimp only at hSw); have ea0 := hSw.cell a0 id; have ea1 := hSw.cell a1 id; have ea2 := hSw.cell a2 id; have ea3 := hSw.cell a3 id; have ed0 := hSw.cell d0 id; have ed1 := hSw.cell d1 id; have ed2 := hSw.cell d2 id; have ed3 := hSw.cell d3 id; have ecxb_1 := hSw.cell cxb_1 id; go_simp <;> with_reducible rfl)
            try simp only [Act.put, List.setIfInBounds_toArray, List.set_cons_zero, List.set_cons_succ]
            refine wpAnyH_take (i := 10) (oi := { dst := some 92, op := Go.Op.move (Go.Operand.tmp 91), type := 4, pos := "more.go:36", after := #[{ on := 9, ground := Go.Ground.data }, { on := 1, ground := Go.Ground.chain }], guard := none }) (v := ?v79) rfl (by kernel_rfl) (by kernel_rfl) (by kernel_rfl) (fun _ _ _ h => h) (Or.inl ⟨by rfl, ?hy79⟩) (by assumption) ?rest79
            case hy79 => (intro w hSw; (try dsimp only at hSw); have ea0 := hSw.cell a0 id; have ea1 := hSw.cell a1 id; have ea2 := hSw.cell a2 id; have ea3 := hSw.cell a3 id; have ed0 := hSw.cell d0 id; have ed1 := hSw.cell d1 id; have ed2 := hSw.cell d2 id; have ed3 := hSw.cell d3 id; have ecxb_1 := hSw.cell cxb_1 id; go_simp <;> with_reducible rfl)
            try simp only [Act.put, List.setIfInBounds_toArray, List.set_cons_zero, List.set_cons_succ]
            refine wpAnyH_take (i := 11) (oi := { dst := some 93, op := Go.Op.move (Go.Operand.tmp 4), type := 23, pos := "more.go:36", after := #[{ on := 10, ground := Go.Ground.guard }], guard := some (10, true) }) (v := ?v80) rfl (by kernel_rfl) (by kernel_rfl) (by kernel_rfl) (fun _ _ _ h => h) (Or.inl ⟨by rfl, ?hy80⟩) (by assumption) ?rest80
            case hy80 => (intro w hSw; (try dsimp only at hSw); have ea0 := hSw.cell a0 id; have ea1 := hSw.cell a1 id; have ea2 := hSw.cell a2 id; have ea3 := hSw.cell a3 id; have ed0 := hSw.cell d0 id; have ed1 := hSw.cell d1 id; have ed2 := hSw.cell d2 id; have ed3 := hSw.cell d3 id; have ecxb_1 := hSw.cell cxb_1 id; go_simp <;> with_reducible rfl)
            try simp only [Act.put, List.setIfInBounds_toArray, List.set_cons_zero, List.set_cons_succ]
            refine wpAnyH_take (i := 12) (oi := { dst := some 94, op := Go.Op.indexAddr 23 (Go.Operand.tmp 93) (Go.Operand.const (Go.Value.int Go.IntKind.i64 0)), type := 0, pos := "more.go:36", after := #[{ on := 11, ground := Go.Ground.data }, { on := 10, ground := Go.Ground.guard }], guard := some (10, true) }) (v := ?v81) rfl (by kernel_rfl) (by kernel_rfl) (by kernel_rfl) (fun _ _ _ h => h) (Or.inl ⟨by rfl, ?hy81⟩) (by assumption) ?rest81
            case hy81 => (intro w hSw; (try dsimp only at hSw); have ea0 := hSw.cell a0 id; have ea1 := hSw.cell a1 id; have ea2 := hSw.cell a2 id; have ea3 := hSw.cell a3 id; have ed0 := hSw.cell d0 id; have ed1 := hSw.cell d1 id; have ed2 := hSw.cell d2 id; have ed3 := hSw.cell d3 id; have ecxb_1 := hSw.cell cxb_1 id; go_simp <;> with_reducible rfl)
            try simp only [Act.put, List.setIfInBounds_toArray, List.set_cons_zero, List.set_cons_succ]
            refine wpAnyH_take (i := 13) (oi := { dst := some 95, op := Go.Op.load 5 (Go.Operand.tmp 94), type := 5, pos := "more.go:36", after := #[{ on := 12, ground := Go.Ground.data }, { on := 10, ground := Go.Ground.guard }], guard := some (10, true) }) (v := ?v82) rfl (by kernel_rfl) (by kernel_rfl) (by kernel_rfl) (fun _ _ _ h => h) (Or.inl ⟨by rfl, ?hy82⟩) (by assumption) ?rest82
            case hy82 => (intro w hSw; (try dsimp only at hSw); have ea0 := hSw.cell a0 id; have ea1 := hSw.cell a1 id; have ea2 := hSw.cell a2 id; have ea3 := hSw.cell a3 id; have ed0 := hSw.cell d0 id; have ed1 := hSw.cell d1 id; have ed2 := hSw.cell d2 id; have ed3 := hSw.cell d3 id; have ecxb_1 := hSw.cell cxb_1 id; go_simp <;> with_reducible rfl)
            try simp only [Act.put, List.setIfInBounds_toArray, List.set_cons_zero, List.set_cons_succ]
            refine wpAnyH_take (i := 14) (oi := { dst := some 96, op := Go.Op.binOp Go.BinOp.eql 5 (Go.Operand.tmp 95) (Go.Operand.const (Go.Value.int Go.IntKind.u8 8)) 5, type := 4, pos := "more.go:36", after := #[{ on := 13, ground := Go.Ground.data }, { on := 10, ground := Go.Ground.guard }], guard := some (10, true) }) (v := ?v83) rfl (by kernel_rfl) (by kernel_rfl) (by kernel_rfl) (fun _ _ _ h => h) (Or.inl ⟨by rfl, ?hy83⟩) (by assumption) ?rest83
            case hy83 => (intro w hSw; (try dsimp only at hSw); have ea0 := hSw.cell a0 id; have ea1 := hSw.cell a1 id; have ea2 := hSw.cell a2 id; have ea3 := hSw.cell a3 id; have ed0 := hSw.cell d0 id; have ed1 := hSw.cell d1 id; have ed2 := hSw.cell d2 id; have ed3 := hSw.cell d3 id; have ecxb_1 := hSw.cell cxb_1 id; go_simp <;> with_reducible rfl)
            try simp only [Act.put, List.setIfInBounds_toArray, List.set_cons_zero, List.set_cons_succ]
            refine wpAnyH_take (i := 15) (oi := { dst := some 97, op := Go.Op.pick (Go.Operand.tmp 92) (Go.Operand.tmp 96) (Go.Operand.const (Go.Value.bool false)), type := 4, pos := "more.go:36", after := #[{ on := 10, ground := Go.Ground.data }, { on := 14, ground := Go.Ground.data }], guard := none }) (v := ?v84) rfl (by kernel_rfl) (by kernel_rfl) (by kernel_rfl) (fun _ _ _ h => h) (Or.inl ⟨by rfl, ?hy84⟩) (by assumption) ?rest84
            case hy84 => (intro w hSw; (try dsimp only at hSw); have ea0 := hSw.cell a0 id; have ea1 := hSw.cell a1 id; have ea2 := hSw.cell a2 id; have ea3 := hSw.cell a3 id; have ed0 := hSw.cell d0 id; have ed1 := hSw.cell d1 id; have ed2 := hSw.cell d2 id; have ed3 := hSw.cell d3 id; have ecxb_1 := hSw.cell cxb_1 id; go_simp <;> with_reducible rfl)
            try simp only [Act.put, List.setIfInBounds_toArray, List.set_cons_zero, List.set_cons_succ]
            refine wpAnyH_take (i := 16) (oi := { dst := some 98, op := Go.Op.move (Go.Operand.tmp 97), type := 4, pos := "more.go:36", after := #[{ on := 15, ground := Go.Ground.data }, { on := 10, ground := Go.Ground.chain }], guard := none }) (v := ?v85) rfl (by kernel_rfl) (by kernel_rfl) (by kernel_rfl) (fun _ _ _ h => h) (Or.inl ⟨by rfl, ?hy85⟩) (by assumption) ?rest85
            case hy85 => (intro w hSw; (try dsimp only at hSw); have ea0 := hSw.cell a0 id; have ea1 := hSw.cell a1 id; have ea2 := hSw.cell a2 id; have ea3 := hSw.cell a3 id; have ed0 := hSw.cell d0 id; have ed1 := hSw.cell d1 id; have ed2 := hSw.cell d2 id; have ed3 := hSw.cell d3 id; have ecxb_1 := hSw.cell cxb_1 id; go_simp <;> with_reducible rfl)
            try simp only [Act.put, List.setIfInBounds_toArray, List.set_cons_zero, List.set_cons_succ]
            refine wpAnyH_take (i := 17) (oi := { dst := some 99, op := Go.Op.move (Go.Operand.tmp 5), type := 23, pos := "more.go:36", after := #[{ on := 16, ground := Go.Ground.guard }], guard := some (16, true) }) (v := ?v86) rfl (by kernel_rfl) (by kernel_rfl) (by kernel_rfl) (fun _ _ _ h => h) (Or.inl ⟨by rfl, ?hy86⟩) (by assumption) ?rest86
            case hy86 => (intro w hSw; (try dsimp only at hSw); have ea0 := hSw.cell a0 id; have ea1 := hSw.cell a1 id; have ea2 := hSw.cell a2 id; have ea3 := hSw.cell a3 id; have ed0 := hSw.cell d0 id; have ed1 := hSw.cell d1 id; have ed2 := hSw.cell d2 id; have ed3 := hSw.cell d3 id; have ecxb_1 := hSw.cell cxb_1 id; go_simp <;> with_reducible rfl)
            try simp only [Act.put, List.setIfInBounds_toArray, List.set_cons_zero, List.set_cons_succ]
            refine wpAnyH_take (i := 18) (oi := { dst := some 100, op := Go.Op.indexAddr 23 (Go.Operand.tmp 99) (Go.Operand.const (Go.Value.int Go.IntKind.i64 0)), type := 0, pos := "more.go:36", after := #[{ on := 17, ground := Go.Ground.data }, { on := 16, ground := Go.Ground.guard }], guard := some (16, true) }) (v := ?v87) rfl (by kernel_rfl) (by kernel_rfl) (by kernel_rfl) (fun _ _ _ h => h) (Or.inl ⟨by rfl, ?hy87⟩) (by assumption) ?rest87
            case hy87 => (intro w hSw; (try dsimp only at hSw); have ea0 := hSw.cell a0 id; have ea1 := hSw.cell a1 id; have ea2 := hSw.cell a2 id; have ea3 := hSw.cell a3 id; have ed0 := hSw.cell d0 id; have ed1 := hSw.cell d1 id; have ed2 := hSw.cell d2 id; have ed3 := hSw.cell d3 id; have ecxb_1 := hSw.cell cxb_1 id; go_simp <;> with_reducible rfl)
            try simp only [Act.put, List.setIfInBounds_toArray, List.set_cons_zero, List.set_cons_succ]
            refine wpAnyH_take (i := 19) (oi := { dst := some 101, op := Go.Op.load 5 (Go.Operand.tmp 100), type := 5, pos := "more.go:36", after := #[{ on := 18, ground := Go.Ground.data }, { on := 16, ground := Go.Ground.guard }], guard := some (16, true) }) (v := ?v88) rfl (by kernel_rfl) (by kernel_rfl) (by kernel_rfl) (fun _ _ _ h => h) (Or.inl ⟨by rfl, ?hy88⟩) (by assumption) ?rest88
            case hy88 => (intro w hSw; (try dsimp only at hSw); have ea0 := hSw.cell a0 id; have ea1 := hSw.cell a1 id; have ea2 := hSw.cell a2 id; have ea3 := hSw.cell a3 id; have ed0 := hSw.cell d0 id; have ed1 := hSw.cell d1 id; have ed2 := hSw.cell d2 id; have ed3 := hSw.cell d3 id; have ecxb_1 := hSw.cell cxb_1 id; go_simp <;> with_reducible rfl)
            try simp only [Act.put, List.setIfInBounds_toArray, List.set_cons_zero, List.set_cons_succ]
            refine wpAnyH_take (i := 20) (oi := { dst := some 102, op := Go.Op.binOp Go.BinOp.eql 5 (Go.Operand.tmp 101) (Go.Operand.const (Go.Value.int Go.IntKind.u8 0)) 5, type := 4, pos := "more.go:36", after := #[{ on := 19, ground := Go.Ground.data }, { on := 16, ground := Go.Ground.guard }], guard := some (16, true) }) (v := ?v89) rfl (by kernel_rfl) (by kernel_rfl) (by kernel_rfl) (fun _ _ _ h => h) (Or.inl ⟨by rfl, ?hy89⟩) (by assumption) ?rest89
            case hy89 => (intro w hSw; (try dsimp only at hSw); have ea0 := hSw.cell a0 id; have ea1 := hSw.cell a1 id; have ea2 := hSw.cell a2 id; have ea3 := hSw.cell a3 id; have ed0 := hSw.cell d0 id; have ed1 := hSw.cell d1 id; have ed2 := hSw.cell d2 id; have ed3 := hSw.cell d3 id; have ecxb_1 := hSw.cell cxb_1 id; go_simp <;> with_reducible rfl)
            try simp only [Act.put, List.setIfInBounds_toArray, List.set_cons_zero, List.set_cons_succ]
            refine wpAnyH_take (i := 21) (oi := { dst := some 103, op := Go.Op.pick (Go.Operand.tmp 98) (Go.Operand.tmp 102) (Go.Operand.const (Go.Value.bool false)), type := 4, pos := "more.go:36", after := #[{ on := 16, ground := Go.Ground.data }, { on := 20, ground := Go.Ground.data }], guard := none }) (v := ?v90) rfl (by kernel_rfl) (by kernel_rfl) (by kernel_rfl) (fun _ _ _ h => h) (Or.inl ⟨by rfl, ?hy90⟩) (by assumption) ?rest90
            case hy90 => (intro w hSw; (try dsimp only at hSw); have ea0 := hSw.cell a0 id; have ea1 := hSw.cell a1 id; have ea2 := hSw.cell a2 id; have ea3 := hSw.cell a3 id; have ed0 := hSw.cell d0 id; have ed1 := hSw.cell d1 id; have ed2 := hSw.cell d2 id; have ed3 := hSw.cell d3 id; have ecxb_1 := hSw.cell cxb_1 id; go_simp <;> with_reducible rfl)
            try simp only [Act.put, List.setIfInBounds_toArray, List.set_cons_zero, List.set_cons_succ]
            refine wpAnyH_take (i := 22) (oi := { dst := some 104, op := Go.Op.move (Go.Operand.tmp 103), type := 4, pos := "more.go:36", after := #[{ on := 21, ground := Go.Ground.data }, { on := 16, ground := Go.Ground.chain }], guard := none }) (v := ?v91) rfl (by kernel_rfl) (by kernel_rfl) (by kernel_rfl) (fun _ _ _ h => h) (Or.inl ⟨by rfl, ?hy91⟩) (by assumption) ?rest91
            case hy91 => (intro w hSw; (try dsimp only at hSw); have ea0 := hSw.cell a0 id; have ea1 := hSw.cell a1 id; have ea2 := hSw.cell a2 id; have ea3 := hSw.cell a3 id; have ed0 := hSw.cell d0 id; have ed1 := hSw.cell d1 id; have ed2 := hSw.cell d2 id; have ed3 := hSw.cell d3 id; have ecxb_1 := hSw.cell cxb_1 id; go_simp <;> with_reducible rfl)
            try simp only [Act.put, List.setIfInBounds_toArray, List.set_cons_zero, List.set_cons_succ]
            refine wpAnyH_take (i := 23) (oi := { dst := some 105, op := Go.Op.move (Go.Operand.tmp 4), type := 23, pos := "more.go:36", after := #[{ on := 22, ground := Go.Ground.guard }], guard := some (22, true) }) (v := ?v92) rfl (by kernel_rfl) (by kernel_rfl) (by kernel_rfl) (fun _ _ _ h => h) (Or.inl ⟨by rfl, ?hy92⟩) (by assumption) ?rest92
            case hy92 => (intro w hSw; (try dsimp only at hSw); have ea0 := hSw.cell a0 id; have ea1 := hSw.cell a1 id; have ea2 := hSw.cell a2 id; have ea3 := hSw.cell a3 id; have ed0 := hSw.cell d0 id; have ed1 := hSw.cell d1 id; have ed2 := hSw.cell d2 id; have ed3 := hSw.cell d3 id; have ecxb_1 := hSw.cell cxb_1 id; go_simp <;> with_reducible rfl)
            try simp only [Act.put, List.setIfInBounds_toArray, List.set_cons_zero, List.set_cons_succ]
            refine wpAnyH_take (i := 24) (oi := { dst := some 106, op := Go.Op.indexAddr 23 (Go.Operand.tmp 105) (Go.Operand.const (Go.Value.int Go.IntKind.i64 1)), type := 0, pos := "more.go:36", after := #[{ on := 23, ground := Go.Ground.data }, { on := 22, ground := Go.Ground.guard }], guard := some (22, true) }) (v := ?v93) rfl (by kernel_rfl) (by kernel_rfl) (by kernel_rfl) (fun _ _ _ h => h) (Or.inl ⟨by rfl, ?hy93⟩) (by assumption) ?rest93
            case hy93 => (intro w hSw; (try dsimp only at hSw); have ea0 := hSw.cell a0 id; have ea1 := hSw.cell a1 id; have ea2 := hSw.cell a2 id; have ea3 := hSw.cell a3 id; have ed0 := hSw.cell d0 id; have ed1 := hSw.cell d1 id; have ed2 := hSw.cell d2 id; have ed3 := hSw.cell d3 id; have ecxb_1 := hSw.cell cxb_1 id; go_simp <;> with_reducible rfl)
            try simp only [Act.put, List.setIfInBounds_toArray, List.set_cons_zero, List.set_cons_succ]
            refine wpAnyH_take (i := 25) (oi := { dst := some 107, op := Go.Op.load 5 (Go.Operand.tmp 106), type := 5, pos := "more.go:36", after := #[{ on := 24, ground := Go.Ground.data }, { on := 22, ground := Go.Ground.guard }], guard := some (22, true) }) (v := ?v94) rfl (by kernel_rfl) (by kernel_rfl) (by kernel_rfl) (fun _ _ _ h => h) (Or.inl ⟨by rfl, ?hy94⟩) (by assumption) ?rest94
            case hy94 => (intro w hSw; (try dsimp only at hSw); have ea0 := hSw.cell a0 id; have ea1 := hSw.cell a1 id; have ea2 := hSw.cell a2 id; have ea3 := hSw.cell a3 id; have ed0 := hSw.cell d0 id; have ed1 := hSw.cell d1 id; have ed2 := hSw.cell d2 id; have ed3 := hSw.cell d3 id; have ecxb_1 := hSw.cell cxb_1 id; go_simp <;> with_reducible rfl)
            try simp only [Act.put, List.setIfInBounds_toArray, List.set_cons_zero, List.set_cons_succ]
            refine wpAnyH_take (i := 26) (oi := { dst := some 108, op := Go.Op.move (Go.Operand.tmp 5), type := 23, pos := "more.go:36", after := #[{ on := 22, ground := Go.Ground.guard }], guard := some (22, true) }) (v := ?v95) rfl (by kernel_rfl) (by kernel_rfl) (by kernel_rfl) (fun _ _ _ h => h) (Or.inl ⟨by rfl, ?hy95⟩) (by assumption) ?rest95
            case hy95 => (intro w hSw; (try dsimp only at hSw); have ea0 := hSw.cell a0 id; have ea1 := hSw.cell a1 id; have ea2 := hSw.cell a2 id; have ea3 := hSw.cell a3 id; have ed0 := hSw.cell d0 id; have ed1 := hSw.cell d1 id; have ed2 := hSw.cell d2 id; have ed3 := hSw.cell d3 id; have ecxb_1 := hSw.cell cxb_1 id; go_simp <;> with_reducible rfl)
            try simp only [Act.put, List.setIfInBounds_toArray, List.set_cons_zero, List.set_cons_succ]
            refine wpAnyH_take (i := 27) (oi := { dst := some 109, op := Go.Op.indexAddr 23 (Go.Operand.tmp 108) (Go.Operand.const (Go.Value.int Go.IntKind.i64 1)), type := 0, pos := "more.go:36", after := #[{ on := 26, ground := Go.Ground.data }, { on := 22, ground := Go.Ground.guard }], guard := some (22, true) }) (v := ?v96) rfl (by kernel_rfl) (by kernel_rfl) (by kernel_rfl) (fun _ _ _ h => h) (Or.inl ⟨by rfl, ?hy96⟩) (by assumption) ?rest96
            case hy96 => (intro w hSw; (try dsimp only at hSw); have ea0 := hSw.cell a0 id; have ea1 := hSw.cell a1 id; have ea2 := hSw.cell a2 id; have ea3 := hSw.cell a3 id; have ed0 := hSw.cell d0 id; have ed1 := hSw.cell d1 id; have ed2 := hSw.cell d2 id; have ed3 := hSw.cell d3 id; have ecxb_1 := hSw.cell cxb_1 id; go_simp <;> with_reducible rfl)
            try simp only [Act.put, List.setIfInBounds_toArray, List.set_cons_zero, List.set_cons_succ]
            refine wpAnyH_take (i := 28) (oi := { dst := some 110, op := Go.Op.load 5 (Go.Operand.tmp 109), type := 5, pos := "more.go:36", after := #[{ on := 27, ground := Go.Ground.data }, { on := 22, ground := Go.Ground.guard }], guard := some (22, true) }) (v := ?v97) rfl (by kernel_rfl) (by kernel_rfl) (by kernel_rfl) (fun _ _ _ h => h) (Or.inl ⟨by rfl, ?hy97⟩) (by assumption) ?rest97
            case hy97 => (intro w hSw; (try dsimp only at hSw); have ea0 := hSw.cell a0 id; have ea1 := hSw.cell a1 id; have ea2 := hSw.cell a2 id; have ea3 := hSw.cell a3 id; have ed0 := hSw.cell d0 id; have ed1 := hSw.cell d1 id; have ed2 := hSw.cell d2 id; have ed3 := hSw.cell d3 id; have ecxb_1 := hSw.cell cxb_1 id; go_simp <;> with_reducible rfl)
            try simp only [Act.put, List.setIfInBounds_toArray, List.set_cons_zero, List.set_cons_succ]
            refine wpAnyH_take (i := 29) (oi := { dst := some 111, op := Go.Op.binOp Go.BinOp.eql 5 (Go.Operand.tmp 107) (Go.Operand.tmp 110) 5, type := 4, pos := "more.go:36", after := #[{ on := 25, ground := Go.Ground.data }, { on := 28, ground := Go.Ground.data }, { on := 22, ground := Go.Ground.guard }], guard := some (22, true) }) (v := ?v98) rfl (by kernel_rfl) (by kernel_rfl) (by kernel_rfl) (fun _ _ _ h => h) (Or.inl ⟨by rfl, ?hy98⟩) (by assumption) ?rest98
            case hy98 => (intro w hSw; (try dsimp only at hSw); have ea0 := hSw.cell a0 id; have ea1 := hSw.cell a1 id; have ea2 := hSw.cell a2 id; have ea3 := hSw.cell a3 id; have ed0 := hSw.cell d0 id; have ed1 := hSw.cell d1 id; have ed2 := hSw.cell d2 id; have ed3 := hSw.cell d3 id; have ecxb_1 := hSw.cell cxb_1 id; go_simp <;> with_reducible rfl)
            try simp only [Act.put, List.setIfInBounds_toArray, List.set_cons_zero, List.set_cons_succ]
            refine wpAnyH_take (i := 30) (oi := { dst := some 112, op := Go.Op.pick (Go.Operand.tmp 104) (Go.Operand.tmp 111) (Go.Operand.const (Go.Value.bool false)), type := 4, pos := "more.go:36", after := #[{ on := 22, ground := Go.Ground.data }, { on := 29, ground := Go.Ground.data }], guard := none }) (v := ?v99) rfl (by kernel_rfl) (by kernel_rfl) (by kernel_rfl) (fun _ _ _ h => h) (Or.inl ⟨by rfl, ?hy99⟩) (by assumption) ?rest99
            case hy99 => (intro w hSw; (try dsimp only at hSw); have ea0 := hSw.cell a0 id; have ea1 := hSw.cell a1 id; have ea2 := hSw.cell a2 id; have ea3 := hSw.cell a3 id; have ed0 := hSw.cell d0 id; have ed1 := hSw.cell d1 id; have ed2 := hSw.cell d2 id; have ed3 := hSw.cell d3 id; have ecxb_1 := hSw.cell cxb_1 id; go_simp <;> with_reducible rfl)
            try simp only [Act.put, List.setIfInBounds_toArray, List.set_cons_zero, List.set_cons_succ]
            refine wpAnyH_take (i := 31) (oi := { dst := some 113, op := Go.Op.move (Go.Operand.tmp 112), type := 4, pos := "more.go:36", after := #[{ on := 30, ground := Go.Ground.data }, { on := 22, ground := Go.Ground.chain }], guard := none }) (v := ?v100) rfl (by kernel_rfl) (by kernel_rfl) (by kernel_rfl) (fun _ _ _ h => h) (Or.inl ⟨by rfl, ?hy100⟩) (by assumption) ?rest100
            case hy100 => (intro w hSw; (try dsimp only at hSw); have ea0 := hSw.cell a0 id; have ea1 := hSw.cell a1 id; have ea2 := hSw.cell a2 id; have ea3 := hSw.cell a3 id; have ed0 := hSw.cell d0 id; have ed1 := hSw.cell d1 id; have ed2 := hSw.cell d2 id; have ed3 := hSw.cell d3 id; have ecxb_1 := hSw.cell cxb_1 id; go_simp <;> with_reducible rfl)
            try simp only [Act.put, List.setIfInBounds_toArray, List.set_cons_zero, List.set_cons_succ]
            refine wpAnyH_take (i := 32) (oi := { dst := some 114, op := Go.Op.move (Go.Operand.tmp 9), type := 4, pos := "more.go:36", after := #[{ on := 31, ground := Go.Ground.guard }], guard := some (31, true) }) (v := ?v101) rfl (by kernel_rfl) (by kernel_rfl) (by kernel_rfl) (fun _ _ _ h => h) (Or.inl ⟨by rfl, ?hy101⟩) (by assumption) ?rest101
            case hy101 => (intro w hSw; (try dsimp only at hSw); have ea0 := hSw.cell a0 id; have ea1 := hSw.cell a1 id; have ea2 := hSw.cell a2 id; have ea3 := hSw.cell a3 id; have ed0 := hSw.cell d0 id; have ed1 := hSw.cell d1 id; have ed2 := hSw.cell d2 id; have ed3 := hSw.cell d3 id; have ecxb_1 := hSw.cell cxb_1 id; go_simp <;> with_reducible rfl)
            try simp only [Act.put, List.setIfInBounds_toArray, List.set_cons_zero, List.set_cons_succ]
            refine wpAnyH_take (i := 33) (oi := { dst := some 115, op := Go.Op.unOp Go.UnOp.not 4 (Go.Operand.tmp 114), type := 4, pos := "more.go:36", after := #[{ on := 32, ground := Go.Ground.data }, { on := 31, ground := Go.Ground.guard }], guard := some (31, true) }) (v := ?v102) rfl (by kernel_rfl) (by kernel_rfl) (by kernel_rfl) (fun _ _ _ h => h) (Or.inl ⟨by rfl, ?hy102⟩) (by assumption) ?rest102
            case hy102 => (intro w hSw; (try dsimp only at hSw); have ea0 := hSw.cell a0 id; have ea1 := hSw.cell a1 id; have ea2 := hSw.cell a2 id; have ea3 := hSw.cell a3 id; have ed0 := hSw.cell d0 id; have ed1 := hSw.cell d1 id; have ed2 := hSw.cell d2 id; have ed3 := hSw.cell d3 id; have ecxb_1 := hSw.cell cxb_1 id; go_simp <;> with_reducible rfl)
            try simp only [Act.put, List.setIfInBounds_toArray, List.set_cons_zero, List.set_cons_succ]
            refine wpAnyH_take (i := 34) (oi := { dst := some 116, op := Go.Op.move (Go.Operand.tmp 115), type := 4, pos := "more.go:36", after := #[{ on := 33, ground := Go.Ground.data }, { on := 31, ground := Go.Ground.chain }, { on := 31, ground := Go.Ground.guard }], guard := some (31, true) }) (v := ?v103) rfl (by kernel_rfl) (by kernel_rfl) (by kernel_rfl) (fun _ _ _ h => h) (Or.inl ⟨by rfl, ?hy103⟩) (by assumption) ?rest103
            case hy103 => (intro w hSw; (try dsimp only at hSw); have ea0 := hSw.cell a0 id; have ea1 := hSw.cell a1 id; have ea2 := hSw.cell a2 id; have ea3 := hSw.cell a3 id; have ed0 := hSw.cell d0 id; have ed1 := hSw.cell d1 id; have ed2 := hSw.cell d2 id; have ed3 := hSw.cell d3 id; have ecxb_1 := hSw.cell cxb_1 id; go_simp <;> with_reducible rfl)
            try simp only [Act.put, List.setIfInBounds_toArray, List.set_cons_zero, List.set_cons_succ]
            refine wpAnyH_take (i := 35) (oi := { dst := some 117, op := Go.Op.move (Go.Operand.tmp 6), type := 32, pos := "more.go:36", after := #[{ on := 34, ground := Go.Ground.guard }], guard := some (34, false) }) (v := ?v104) rfl (by kernel_rfl) (by kernel_rfl) (by kernel_rfl) (fun _ _ _ h => h) (Or.inl ⟨by rfl, ?hy104⟩) (by assumption) ?rest104
            case hy104 => (intro w hSw; (try dsimp only at hSw); have ea0 := hSw.cell a0 id; have ea1 := hSw.cell a1 id; have ea2 := hSw.cell a2 id; have ea3 := hSw.cell a3 id; have ed0 := hSw.cell d0 id; have ed1 := hSw.cell d1 id; have ed2 := hSw.cell d2 id; have ed3 := hSw.cell d3 id; have ecxb_1 := hSw.cell cxb_1 id; go_simp <;> with_reducible rfl)
            try simp only [Act.put, List.setIfInBounds_toArray, List.set_cons_zero, List.set_cons_succ]
            refine wpAnyH_take (i := 36) (oi := { dst := some 118, op := Go.Op.move (Go.Operand.tmp 8), type := 32, pos := "more.go:36", after := #[{ on := 34, ground := Go.Ground.guard }], guard := some (34, false) }) (v := ?v105) rfl (by kernel_rfl) (by kernel_rfl) (by kernel_rfl) (fun _ _ _ h => h) (Or.inl ⟨by rfl, ?hy105⟩) (by assumption) ?rest105
            case hy105 => (intro w hSw; (try dsimp only at hSw); have ea0 := hSw.cell a0 id; have ea1 := hSw.cell a1 id; have ea2 := hSw.cell a2 id; have ea3 := hSw.cell a3 id; have ed0 := hSw.cell d0 id; have ed1 := hSw.cell d1 id; have ed2 := hSw.cell d2 id; have ed3 := hSw.cell d3 id; have ecxb_1 := hSw.cell cxb_1 id; go_simp <;> with_reducible rfl)
            try simp only [Act.put, List.setIfInBounds_toArray, List.set_cons_zero, List.set_cons_succ]
            refine wpAnyH_take (i := 37) (oi := { dst := some 119, op := Go.Op.fieldAddr 25 (Go.Operand.tmp 1) 1, type := 0, pos := "more.go:36", after := #[{ on := 34, ground := Go.Ground.guard }], guard := some (34, false) }) (v := ?v106) rfl (by kernel_rfl) (by kernel_rfl) (by kernel_rfl) (fun _ _ _ h => h) (Or.inl ⟨by rfl, ?hy106⟩) (by assumption) ?rest106
            case hy106 => (intro w hSw; (try dsimp only at hSw); have ea0 := hSw.cell a0 id; have ea1 := hSw.cell a1 id; have ea2 := hSw.cell a2 id; have ea3 := hSw.cell a3 id; have ed0 := hSw.cell d0 id; have ed1 := hSw.cell d1 id; have ed2 := hSw.cell d2 id; have ed3 := hSw.cell d3 id; have ecxb_1 := hSw.cell cxb_1 id; go_simp <;> with_reducible rfl)
            try simp only [Act.put, List.setIfInBounds_toArray, List.set_cons_zero, List.set_cons_succ]
            refine wpAnyH_take (i := 38) (oi := { dst := some 120, op := Go.Op.load 5 (Go.Operand.tmp 119), type := 5, pos := "more.go:36", after := #[{ on := 37, ground := Go.Ground.data }, { on := 34, ground := Go.Ground.guard }], guard := some (34, false) }) (v := ?v107) rfl (by kernel_rfl) (by kernel_rfl) (by kernel_rfl) (fun _ _ _ h => h) (Or.inl ⟨by rfl, ?hy107⟩) (by assumption) ?rest107
            case hy107 => (intro w hSw; (try dsimp only at hSw); have ea0 := hSw.cell a0 id; have ea1 := hSw.cell a1 id; have ea2 := hSw.cell a2 id; have ea3 := hSw.cell a3 id; have ed0 := hSw.cell d0 id; have ed1 := hSw.cell d1 id; have ed2 := hSw.cell d2 id; have ed3 := hSw.cell d3 id; have ecxb_1 := hSw.cell cxb_1 id; go_simp <;> with_reducible rfl)
            try simp only [Act.put, List.setIfInBounds_toArray, List.set_cons_zero, List.set_cons_succ]
            refine wpAnyH_take (i := 39) (oi := { dst := some 121, op := Go.Op.convert 5 32 (Go.Operand.tmp 120), type := 32, pos := "more.go:36", after := #[{ on := 38, ground := Go.Ground.data }, { on := 34, ground := Go.Ground.guard }], guard := some (34, false) }) (v := ?v108) rfl (by kernel_rfl) (by kernel_rfl) (by kernel_rfl) (fun _ _ _ h => h) (Or.inl ⟨by rfl, ?hy108⟩) (by assumption) ?rest108
            case hy108 => (intro w hSw; (try dsimp only at hSw); have ea0 := hSw.cell a0 id; have ea1 := hSw.cell a1 id; have ea2 := hSw.cell a2 id; have ea3 := hSw.cell a3 id; have ed0 := hSw.cell d0 id; have ed1 := hSw.cell d1 id; have ed2 := hSw.cell d2 id; have ed3 := hSw.cell d3 id; have ecxb_1 := hSw.cell cxb_1 id; go_simp <;> with_reducible rfl)
            try simp only [Act.put, List.setIfInBounds_toArray, List.set_cons_zero, List.set_cons_succ]
            refine wpAnyH_take (i := 41) (oi := { dst := some 123, op := Go.Op.move (Go.Operand.tmp 7), type := 32, pos := "more.go:36", after := #[{ on := 34, ground := Go.Ground.guard }], guard := some (34, false) }) (v := ?v109) rfl (by kernel_rfl) (by kernel_rfl) (by kernel_rfl) (fun _ _ _ h => h) (Or.inl ⟨by rfl, ?hy109⟩) (by assumption) ?rest109
            case hy109 => (intro w hSw; (try dsimp only at hSw); have ea0 := hSw.cell a0 id; have ea1 := hSw.cell a1 id; have ea2 := hSw.cell a2 id; have ea3 := hSw.cell a3 id; have ed0 := hSw.cell d0 id; have ed1 := hSw.cell d1 id; have ed2 := hSw.cell d2 id; have ed3 := hSw.cell d3 id; have ecxb_1 := hSw.cell cxb_1 id; go_simp <;> with_reducible rfl)
            try simp only [Act.put, List.setIfInBounds_toArray, List.set_cons_zero, List.set_cons_succ]
            refine wpAnyH_ready (rs := [40]) (by kernel_rfl) (by simp) ?_
            refine AllReadyH.cons (o := { dst := some 122, op := Go.Op.call { callee := Go.Callee.value (Go.Operand.func 12), args := #[Go.Operand.tmp 117, Go.Operand.tmp 118, Go.Operand.tmp 121], argTypes := #[32, 32, 32] }, type := 32, pos := "more.go:36", after := #[{ on := 35, ground := Go.Ground.data }, { on := 36, ground := Go.Ground.data }, { on := 39, ground := Go.Ground.data }, { on := 34, ground := Go.Ground.chain }, { on := 34, ground := Go.Ground.guard }], guard := some (34, false) }) rfl (fun K hK => ?_) AllReadyH.nil
            go_simp
            refine (update_int (s8 : Int) (2048 + (cn : Int)) (cn : Int) (by omega) (by omega) (by omega) _).mono ?_
            rintro e we ⟨rfl, hwe⟩
            have hS1 : Ex (fun _ => False) wr we := by rw [← hwe]; exact hS0
            rw [show ((2048 : Int) + (cn : Int)).toNat = 2048 + cn by omega, Int.toNat_natCast, Int.toNat_natCast, HU.out]
            refine hK.out _ _ hS1 (fun _ => ?_)
            refine wpAnyH_take (i := 42) (oi := { dst := some 124, op := Go.Op.binOp Go.BinOp.eql 32 (Go.Operand.tmp 122) (Go.Operand.tmp 123) 32, type := 4, pos := "more.go:36", after := #[{ on := 40, ground := Go.Ground.data }, { on := 41, ground := Go.Ground.data }, { on := 34, ground := Go.Ground.guard }], guard := some (34, false) }) (v := ?v110) rfl (by kernel_rfl) (by kernel_rfl) (by kernel_rfl) (fun _ _ _ h => h) (Or.inl ⟨by rfl, ?hy110⟩) (by assumption) ?rest110
            case hy110 => (intro w hSw; (try dsimp only at hSw); have ea0 := hSw.cell a0 id; have ea1 := hSw.cell a1 id; have ea2 := hSw.cell a2 id; have ea3 := hSw.cell a3 id; have ed0 := hSw.cell d0 id; have ed1 := hSw.cell d1 id; have ed2 := hSw.cell d2 id; have ed3 := hSw.cell d3 id; have ecxb_1 := hSw.cell cxb_1 id; go_simp <;> with_reducible rfl)
            try simp only [Act.put, List.setIfInBounds_toArray, List.set_cons_zero, List.set_cons_succ]
            refine wpAnyH_take (i := 43) (oi := { dst := some 125, op := Go.Op.pick (Go.Operand.tmp 116) (Go.Operand.const (Go.Value.bool true)) (Go.Operand.tmp 124), type := 4, pos := "more.go:36", after := #[{ on := 34, ground := Go.Ground.data }, { on := 42, ground := Go.Ground.data }, { on := 31, ground := Go.Ground.guard }], guard := some (31, true) }) (v := ?v111) rfl (by kernel_rfl) (by kernel_rfl) (by kernel_rfl) (fun _ _ _ h => h) (Or.inl ⟨by rfl, ?hy111⟩) (by assumption) ?rest111
            case hy111 => (intro w hSw; (try dsimp only at hSw); have ea0 := hSw.cell a0 id; have ea1 := hSw.cell a1 id; have ea2 := hSw.cell a2 id; have ea3 := hSw.cell a3 id; have ed0 := hSw.cell d0 id; have ed1 := hSw.cell d1 id; have ed2 := hSw.cell d2 id; have ed3 := hSw.cell d3 id; have ecxb_1 := hSw.cell cxb_1 id; go_simp <;> with_reducible rfl)
            try simp only [Act.put, List.setIfInBounds_toArray, List.set_cons_zero, List.set_cons_succ]
            refine wpAnyH_take (i := 44) (oi := { dst := some 126, op := Go.Op.pick (Go.Operand.tmp 113) (Go.Operand.tmp 125) (Go.Operand.const (Go.Value.bool false)), type := 4, pos := "more.go:36", after := #[{ on := 31, ground := Go.Ground.data }, { on := 43, ground := Go.Ground.data }], guard := none }) (v := ?v112) rfl (by kernel_rfl) (by kernel_rfl) (by kernel_rfl) (fun _ _ _ h => h) (Or.inl ⟨by rfl, ?hy112⟩) (by assumption) ?rest112
            case hy112 => (intro w hSw; (try dsimp only at hSw); have ea0 := hSw.cell a0 id; have ea1 := hSw.cell a1 id; have ea2 := hSw.cell a2 id; have ea3 := hSw.cell a3 id; have ed0 := hSw.cell d0 id; have ed1 := hSw.cell d1 id; have ed2 := hSw.cell d2 id; have ed3 := hSw.cell d3 id; have ecxb_1 := hSw.cell cxb_1 id; go_simp <;> with_reducible rfl)
            try simp only [Act.put, List.setIfInBounds_toArray, List.set_cons_zero, List.set_cons_succ]
            refine wpAnyH_take (i := 45) (oi := { dst := some 2, op := Go.Op.assign (Go.Operand.tmp 126), type := 4, pos := "more.go:36", after := #[{ on := 44, ground := Go.Ground.data }, { on := 40, ground := Go.Ground.chain }, { on := 0, ground := Go.Ground.phase }, { on := 1, ground := Go.Ground.phase }, { on := 2, ground := Go.Ground.phase }, { on := 3, ground := Go.Ground.phase }, { on := 4, ground := Go.Ground.phase }, { on := 5, ground := Go.Ground.phase }, { on := 6, ground := Go.Ground.phase }, { on := 7, ground := Go.Ground.phase }, { on := 8, ground := Go.Ground.phase }, { on := 9, ground := Go.Ground.phase }, { on := 10, ground := Go.Ground.phase }, { on := 11, ground := Go.Ground.phase }, { on := 12, ground := Go.Ground.phase }, { on := 13, ground := Go.Ground.phase }, { on := 14, ground := Go.Ground.phase }, { on := 15, ground := Go.Ground.phase }, { on := 16, ground := Go.Ground.phase }, { on := 17, ground := Go.Ground.phase }, { on := 18, ground := Go.Ground.phase }, { on := 19, ground := Go.Ground.phase }, { on := 20, ground := Go.Ground.phase }, { on := 21, ground := Go.Ground.phase }, { on := 22, ground := Go.Ground.phase }, { on := 23, ground := Go.Ground.phase }, { on := 24, ground := Go.Ground.phase }, { on := 25, ground := Go.Ground.phase }, { on := 26, ground := Go.Ground.phase }, { on := 27, ground := Go.Ground.phase }, { on := 28, ground := Go.Ground.phase }, { on := 29, ground := Go.Ground.phase }, { on := 30, ground := Go.Ground.phase }, { on := 31, ground := Go.Ground.phase }, { on := 32, ground := Go.Ground.phase }, { on := 33, ground := Go.Ground.phase }, { on := 34, ground := Go.Ground.phase }, { on := 35, ground := Go.Ground.phase }, { on := 36, ground := Go.Ground.phase }, { on := 37, ground := Go.Ground.phase }, { on := 38, ground := Go.Ground.phase }, { on := 39, ground := Go.Ground.phase }, { on := 40, ground := Go.Ground.phase }, { on := 41, ground := Go.Ground.phase }, { on := 42, ground := Go.Ground.phase }, { on := 43, ground := Go.Ground.phase }, { on := 44, ground := Go.Ground.phase }], guard := none }) (v := ?v113) rfl (by kernel_rfl) (by kernel_rfl) (by kernel_rfl) (fun _ _ _ h => h) (Or.inl ⟨by rfl, ?hy113⟩) (by assumption) ?rest113
            case hy113 => (intro w hSw; (try dsimp only at hSw); have ea0 := hSw.cell a0 id; have ea1 := hSw.cell a1 id; have ea2 := hSw.cell a2 id; have ea3 := hSw.cell a3 id; have ed0 := hSw.cell d0 id; have ed1 := hSw.cell d1 id; have ed2 := hSw.cell d2 id; have ed3 := hSw.cell d3 id; have ecxb_1 := hSw.cell cxb_1 id; go_simp <;> with_reducible rfl)
            try simp only [Act.put, List.setIfInBounds_toArray, List.set_cons_zero, List.set_cons_succ]
            refine wpAnyH_done (by kernel_rfl) ?_ _
            have hx := hS1
            clear hS0 hS1
            have HX_we := Lib.hid hx
            clear hx
            go_wp2_with fail
            go_ret
            exact ⟨rfl, ((((((((((HX_w1.out.trans HX_w2.out).andThen HX_w3.out (fun i hi e => by have := hb_xb_; omega)).andThen HX_w4.out (fun i hi e => by have := hb_xb_; omega)).trans HX_w5.out).andThen HX_w6.out (fun i hi e => by have := hb_xb_; omega)).trans HX_w7.out).trans HX_w8.out).trans HX_w9.out).trans hxl.out).trans HX_we.out)⟩
    ·
      have hz1 : ((cn : Int) != 0) = false := by rw [hc0n]; rfl
      have hz2 : (xrest != 0) = true := by rw [bne_iff_ne]; exact hr0
      have HSM : Hid ((cn : Int) ≠ 0 ∨ xrest ≠ 0 ∨ ¬ ∀ x ∈ xl, x = 0) := Lib.hid (.inr (.inl hr0))
      clear hc0n hr0
      go_wp2_with fail
      clear cxb_1 cxb_2
      have hx0 := Lib.hid (Ex.refl (fun _ => False) w9)
      go_loopw [9, 10] (fun s i wl => ∃ (j : Nat) (sv : Bool), j ≤ xl.length ∧ i = .int .i64 (j : Int) ∧ s = .bool sv ∧ Hid (sv = true ↔ rsome true xl j) ∧ Hid (Ex (fun _ => False) w9 wl)) (fun _ i _ => xl.length - (intOf i).toNat)
      case atStart => exact ⟨0, true, by omega, rfl, rfl, Lib.hid (rsome_zero _ _), hx0⟩
      case round =>
        clear hx0
        obtain ⟨j, sv, hj, rfl, rfl, hsv, hxl⟩ := hrel
        have cxb_3 := row_cell (k := 3) (v := .slice A xl.length c) ((hxl.out.block xb_ (row_lt B_xb_.out) id).trans B_xb_.out) rfl
        by_cases dj : j < xl.length
        ·
          have hdj : (j : Int) < (xl.length : Int) := by omega
          obtain ⟨_, A', c', e', hcap, hcell⟩ := ((RB.keep HM.out (((((((((HX_w1.out.trans HX_w2.out).andThen HX_w3.out (fun i hi e => by have := hb_xb_; omega)).andThen HX_w4.out (fun i hi e => by have := hb_xb_; omega)).trans HX_w5.out).andThen HX_w6.out (fun i hi e => by have := hb_xb_; omega)).trans HX_w7.out).trans HX_w8.out).trans HX_w9.out).trans hxl.out) (fun _ _ _ => id)))
          injection e' with e1 e2 e3
          subst e1 e3
          obtain ⟨b, off, rfl, _, hc⟩ := hcell j dj
          clear hcell e2
          obtain ⟨x, hxj⟩ : ∃ x, x = xl[j] := ⟨_, rfl⟩
          rw [← hxj] at hc
          have hnx := rsome_next true (l := xl) dj
          rw [← hxj] at hnx
          have HNX := Lib.hid hnx
          clear hnx hxj
          cases sv
          ·
            by_cases hx0 : x = 0
            ·
              have hz : ((x.toNat : Int) != 0) = false := by rw [hx0]; rfl
              have HX0 := Lib.hid hx0
              clear hx0
              have HNW : Hid ((false : Bool) = true ↔ rsome true xl (j + 1)) := Lib.hid (by rw [HNX.out, ← hsv.out]; simp [HX0.out])
              go_wp2_with fail
              go_roundw
              case rel => exact ⟨j + 1, false, by omega, by go_num, rfl, HNW, hxl⟩
              case measure => simp [intOf]; omega
            ·
              have hz : ((x.toNat : Int) != 0) = true := by
                rw [bne_iff_ne]; intro h; exact hx0 (UInt8.toNat_inj.1 (by show x.toNat = 0; omega))
              have HX0 := Lib.hid hx0
              clear hx0
              have HNW : Hid ((true : Bool) = true ↔ rsome true xl (j + 1)) := Lib.hid (by rw [HNX.out, ← hsv.out]; simp [HX0.out])
              go_wp2_with fail
              go_roundw
              case rel => exact ⟨j + 1, true, by omega, by go_num, rfl, HNW, hxl⟩
              case measure => simp [intOf]; omega
          ·
            have HNW : Hid ((true : Bool) = true ↔ rsome true xl (j + 1)) := Lib.hid (by rw [HNX.out, ← hsv.out]; simp)
            go_wp2_with fail
            go_roundw
            case rel => exact ⟨j + 1, true, by omega, by go_num, rfl, HNW, hxl⟩
            case measure => simp [intOf]; omega
        ·
          have htk : xl.take j = xl := List.take_of_length_le (by omega)
          unfold rsome at hsv
          rw [htk] at hsv
          go_upto_region 17 with fail
          clear dj htk
          clear cxb_3
          replace a0 := hxl.out.cell a0 id
          replace a1 := hxl.out.cell a1 id
          replace a2 := hxl.out.cell a2 id
          replace a3 := hxl.out.cell a3 id
          replace d0 := hxl.out.cell d0 id
          replace d1 := hxl.out.cell d1 id
          replace d2 := hxl.out.cell d2 id
          replace d3 := hxl.out.cell d3 id
          replace B_xb_ := Lib.hid ((hxl.out.block xb_ (row_lt B_xb_.out) id).trans B_xb_.out)
          have cxb_1 := row_cell (k := 1) (v := .int .u8 (cn : Int)) B_xb_.out rfl
          have hc4a : (4 : Int) ≤ (c8 : Int) := by omega
          have hNa : (N : Int) ≤ (c8 : Int) := by omega
          have hcne : ¬ c8 = 4 := by omega
          have hdne : ¬ c0 = 4 := by omega
          have hNb : (N : Int) ≤ (c0 : Int) := by omega
          have hsT : ((bs T).toList == (bs T).toList) = true := by simp
          have R8l := Lib.hid (R8.out.keep ((HX_w8.out.trans HX_w9.out).trans hxl.out) (fun _ _ _ => id))
          have R0l := Lib.hid (R0.out.keep ((HX_w8.out.trans HX_w9.out).trans hxl.out) (fun _ _ _ => id))
          cases sv
          ·
            clear hsv
            clear HUP
            have hS0 : Ex (fun _ => False) wr wr.drew := (Ex.refl _ wr).drew
            refine wp_region_held_drew (S := fun W => Ex (fun _ => False) wr W) (by kernel_rfl) hS0 (fun _ => ?_)
            have hx := hS0
            generalize wr.drew = we at hx hS0 ⊢
            refine wpAnyH_take (i := 0) (oi := { dst := some 82, op := Go.Op.move (Go.Operand.tmp 3), type := 4, pos := "more.go:36", after := #[], guard := none }) (v := ?v114) rfl (by kernel_rfl) (by kernel_rfl) (by kernel_rfl) (fun _ _ _ h => h) (Or.inl ⟨by rfl, ?hy114⟩) (by assumption) ?rest114
            case hy114 => (intro w hSw; (try dsimp only at hSw); have ea0 := hSw.cell a0 id; have ea1 := hSw.cell a1 id; have ea2 := hSw.cell a2 id; have ea3 := hSw.cell a3 id; have ed0 := hSw.cell d0 id; have ed1 := hSw.cell d1 id; have ed2 := hSw.cell d2 id; have ed3 := hSw.cell d3 id; have ecxb_1 := hSw.cell cxb_1 id; go_simp <;> with_reducible rfl)
            try simp only [Act.put, List.setIfInBounds_toArray, List.set_cons_zero, List.set_cons_succ]
            refine wpAnyH_take (i := 1) (oi := { dst := some 83, op := Go.Op.move (Go.Operand.tmp 82), type := 4, pos := "more.go:36", after := #[{ on := 0, ground := Go.Ground.data }], guard := none }) (v := ?v115) rfl (by kernel_rfl) (by kernel_rfl) (by kernel_rfl) (fun _ _ _ h => h) (Or.inl ⟨by rfl, ?hy115⟩) (by assumption) ?rest115
            case hy115 => (intro w hSw; (try dsimp only at hSw); have ea0 := hSw.cell a0 id; have ea1 := hSw.cell a1 id; have ea2 := hSw.cell a2 id; have ea3 := hSw.cell a3 id; have ed0 := hSw.cell d0 id; have ed1 := hSw.cell d1 id; have ed2 := hSw.cell d2 id; have ed3 := hSw.cell d3 id; have ecxb_1 := hSw.cell cxb_1 id; go_simp <;> with_reducible rfl)
            try simp only [Act.put, List.setIfInBounds_toArray, List.set_cons_zero, List.set_cons_succ]
            refine wpAnyH_take (i := 2) (oi := { dst := some 84, op := Go.Op.move (Go.Operand.tmp 4), type := 23, pos := "more.go:36", after := #[{ on := 1, ground := Go.Ground.guard }], guard := some (1, true) }) (v := ?v116) rfl (by kernel_rfl) (by kernel_rfl) (by kernel_rfl) (fun _ _ _ h => h) (Or.inl ⟨by rfl, ?hy116⟩) (by assumption) ?rest116
            case hy116 => (intro w hSw; (try dsimp only at hSw); have ea0 := hSw.cell a0 id; have ea1 := hSw.cell a1 id; have ea2 := hSw.cell a2 id; have ea3 := hSw.cell a3 id; have ed0 := hSw.cell d0 id; have ed1 := hSw.cell d1 id; have ed2 := hSw.cell d2 id; have ed3 := hSw.cell d3 id; have ecxb_1 := hSw.cell cxb_1 id; go_simp <;> with_reducible rfl)
            try simp only [Act.put, List.setIfInBounds_toArray, List.set_cons_zero, List.set_cons_succ]
            refine wpAnyH_take (i := 3) (oi := { dst := some 85, op := Go.Op.slice 23 (Go.Operand.tmp 84) (some (Go.Operand.const (Go.Value.int Go.IntKind.i64 4))) none none, type := 23, pos := "more.go:36", after := #[{ on := 2, ground := Go.Ground.data }, { on := 1, ground := Go.Ground.guard }], guard := some (1, true) }) (v := ?v117) rfl (by kernel_rfl) (by kernel_rfl) (by kernel_rfl) (fun _ _ _ h => h) (Or.inl ⟨by rfl, ?hy117⟩) (by assumption) ?rest117
            case hy117 => (intro w hSw; (try dsimp only at hSw); have ea0 := hSw.cell a0 id; have ea1 := hSw.cell a1 id; have ea2 := hSw.cell a2 id; have ea3 := hSw.cell a3 id; have ed0 := hSw.cell d0 id; have ed1 := hSw.cell d1 id; have ed2 := hSw.cell d2 id; have ed3 := hSw.cell d3 id; have ecxb_1 := hSw.cell cxb_1 id; go_simp <;> with_reducible rfl)
            try simp only [Act.put, List.setIfInBounds_toArray, List.set_cons_zero, List.set_cons_succ]
            refine wpAnyH_take (i := 4) (oi := { dst := some 86, op := Go.Op.convert 23 9 (Go.Operand.tmp 85), type := 9, pos := "more.go:36", after := #[{ on := 3, ground := Go.Ground.data }, { on := 1, ground := Go.Ground.guard }], guard := some (1, true) }) (v := ?v118) rfl (by kernel_rfl) (by kernel_rfl) (by kernel_rfl) (fun _ _ _ h => h) (Or.inl ⟨by rfl, ?hy118⟩) (by assumption) ?rest118
            case hy118 => (intro w hSw; (try dsimp only at hSw); have ea0 := hSw.cell a0 id; have ea1 := hSw.cell a1 id; have ea2 := hSw.cell a2 id; have ea3 := hSw.cell a3 id; have ed0 := hSw.cell d0 id; have ed1 := hSw.cell d1 id; have ed2 := hSw.cell d2 id; have ed3 := hSw.cell d3 id; have ecxb_1 := hSw.cell cxb_1 id; have eq := (RB.keep R8l.out hSw (fun _ _ _ => id)).str (Pr := Try.prog) 23 9 5 Try.underlying23 Try.underlying5 Try.underlying9; go_simp <;> with_reducible rfl)
            try simp only [Act.put, List.setIfInBounds_toArray, List.set_cons_zero, List.set_cons_succ]
            refine wpAnyH_take (i := 5) (oi := { dst := some 87, op := Go.Op.move (Go.Operand.tmp 5), type := 23, pos := "more.go:36", after := #[{ on := 1, ground := Go.Ground.guard }], guard := some (1, true) }) (v := ?v119) rfl (by kernel_rfl) (by kernel_rfl) (by kernel_rfl) (fun _ _ _ h => h) (Or.inl ⟨by rfl, ?hy119⟩) (by assumption) ?rest119
            case hy119 => (intro w hSw; (try dsimp only at hSw); have ea0 := hSw.cell a0 id; have ea1 := hSw.cell a1 id; have ea2 := hSw.cell a2 id; have ea3 := hSw.cell a3 id; have ed0 := hSw.cell d0 id; have ed1 := hSw.cell d1 id; have ed2 := hSw.cell d2 id; have ed3 := hSw.cell d3 id; have ecxb_1 := hSw.cell cxb_1 id; go_simp <;> with_reducible rfl)
            try simp only [Act.put, List.setIfInBounds_toArray, List.set_cons_zero, List.set_cons_succ]
            refine wpAnyH_take (i := 6) (oi := { dst := some 88, op := Go.Op.slice 23 (Go.Operand.tmp 87) (some (Go.Operand.const (Go.Value.int Go.IntKind.i64 4))) none none, type := 23, pos := "more.go:36", after := #[{ on := 5, ground := Go.Ground.data }, { on := 1, ground := Go.Ground.guard }], guard := some (1, true) }) (v := ?v120) rfl (by kernel_rfl) (by kernel_rfl) (by kernel_rfl) (fun _ _ _ h => h) (Or.inl ⟨by rfl, ?hy120⟩) (by assumption) ?rest120
            case hy120 => (intro w hSw; (try dsimp only at hSw); have ea0 := hSw.cell a0 id; have ea1 := hSw.cell a1 id; have ea2 := hSw.cell a2 id; have ea3 := hSw.cell a3 id; have ed0 := hSw.cell d0 id; have ed1 := hSw.cell d1 id; have ed2 := hSw.cell d2 id; have ed3 := hSw.cell d3 id; have ecxb_1 := hSw.cell cxb_1 id; go_simp <;> with_reducible rfl)
            try simp only [Act.put, List.setIfInBounds_toArray, List.set_cons_zero, List.set_cons_succ]
            refine wpAnyH_take (i := 7) (oi := { dst := some 89, op := Go.Op.convert 23 9 (Go.Operand.tmp 88), type := 9, pos := "more.go:36", after := #[{ on := 6, ground := Go.Ground.data }, { on := 1, ground := Go.Ground.guard }], guard := some (1, true) }) (v := ?v121) rfl (by kernel_rfl) (by kernel_rfl) (by kernel_rfl) (fun _ _ _ h => h) (Or.inl ⟨by rfl, ?hy121⟩) (by assumption) ?rest121
            case hy121 => (intro w hSw; (try dsimp only at hSw); have ea0 := hSw.cell a0 id; have ea1 := hSw.cell a1 id; have ea2 := hSw.cell a2 id; have ea3 := hSw.cell a3 id; have ed0 := hSw.cell d0 id; have ed1 := hSw.cell d1 id; have ed2 := hSw.cell d2 id; have ed3 := hSw.cell d3 id; have ecxb_1 := hSw.cell cxb_1 id; have eq := (RB.keep R0l.out hSw (fun _ _ _ => id)).str (Pr := Try.prog) 23 9 5 Try.underlying23 Try.underlying5 Try.underlying9; go_simp <;> with_reducible rfl)
            try simp only [Act.put, List.setIfInBounds_toArray, List.set_cons_zero, List.set_cons_succ]
            refine wpAnyH_take (i := 8) (oi := { dst := some 90, op := Go.Op.binOp Go.BinOp.eql 9 (Go.Operand.tmp 86) (Go.Operand.tmp 89) 9, type := 4, pos := "more.go:36", after := #[{ on := 4, ground := Go.Ground.data }, { on := 7, ground := Go.Ground.data }, { on := 1, ground := Go.Ground.guard }], guard := some (1, true) }) (v := ?v122) rfl (by kernel_rfl) (by kernel_rfl) (by kernel_rfl) (fun _ _ _ h => h) (Or.inl ⟨by rfl, ?hy122⟩) (by assumption) ?rest122
            case hy122 => (intro w hSw; (try dsimp only at hSw); have ea0 := hSw.cell a0 id; have ea1 := hSw.cell a1 id; have ea2 := hSw.cell a2 id; have ea3 := hSw.cell a3 id; have ed0 := hSw.cell d0 id; have ed1 := hSw.cell d1 id; have ed2 := hSw.cell d2 id; have ed3 := hSw.cell d3 id; have ecxb_1 := hSw.cell cxb_1 id; go_simp <;> with_reducible rfl)
            try simp only [Act.put, List.setIfInBounds_toArray, List.set_cons_zero, List.set_cons_succ]
            refine wpAnyH_take (i := 9) (oi := { dst := some 91, op := Go.Op.pick (Go.Operand.tmp 83) (Go.Operand.tmp 90) (Go.Operand.const (Go.Value.bool false)), type := 4, pos := "more.go:36", after := #[{ on := 1, ground := Go.Ground.data }, { on := 8, ground := Go.Ground.data }], guard := none }) (v := ?v123) rfl (by kernel_rfl) (by kernel_rfl) (by kernel_rfl) (fun _ _ _ h => h) (Or.inl ⟨by rfl, ?hy123⟩) (by assumption) ?rest123
            case hy123 => (intro w hSw; (try dsimp only at hSw); have ea0 := hSw.cell a0 id; have ea1 := hSw.cell a1 id; have ea2 := hSw.cell a2 id; have ea3 := hSw.cell a3 id; have ed0 := hSw.cell d0 id; have ed1 := hSw.cell d1 id; have ed2 := hSw.cell d2 id; have ed3 := hSw.cell d3 id; have ecxb_1 := hSw.cell cxb_1 id; go_simp <;> with_reducible rfl)
            try simp only [Act.put, List.setIfInBounds_toArray, List.set_cons_zero, List.set_cons_succ]
            refine wpAnyH_take (i := 10) (oi := { dst := some 92, op := Go.Op.move (Go.Operand.tmp 91), type := 4, pos := "more.go:36", after := #[{ on := 9, ground := Go.Ground.data }, { on := 1, ground := Go.Ground.chain }], guard := none }) (v := ?v124) rfl (by kernel_rfl) (by kernel_rfl) (by kernel_rfl) (fun _ _ _ h => h) (Or.inl ⟨by rfl, ?hy124⟩) (by assumption) ?rest124
            case hy124 => (intro w hSw; (try dsimp only at hSw); have ea0 := hSw.cell a0 id; have ea1 := hSw.cell a1 id; have ea2 := hSw.cell a2 id; have ea3 := hSw.cell a3 id; have ed0 := hSw.cell d0 id; have ed1 := hSw.cell d1 id; have ed2 := hSw.cell d2 id; have ed3 := hSw.cell d3 id; have ecxb_1 := hSw.cell cxb_1 id; go_simp <;> with_reducible rfl)
            try simp only [Act.put, List.setIfInBounds_toArray, List.set_cons_zero, List.set_cons_succ]
            refine wpAnyH_take (i := 11) (oi := { dst := some 93, op := Go.Op.move (Go.Operand.tmp 4), type := 23, pos := "more.go:36", after := #[{ on := 10, ground := Go.Ground.guard }], guard := some (10, true) }) (v := ?v125) rfl (by kernel_rfl) (by kernel_rfl) (by kernel_rfl) (fun _ _ _ h => h) (Or.inl ⟨by rfl, ?hy125⟩) (by assumption) ?rest125
            case hy125 => (intro w hSw; (try dsimp only at hSw); have ea0 := hSw.cell a0 id; have ea1 := hSw.cell a1 id; have ea2 := hSw.cell a2 id; have ea3 := hSw.cell a3 id; have ed0 := hSw.cell d0 id; have ed1 := hSw.cell d1 id; have ed2 := hSw.cell d2 id; have ed3 := hSw.cell d3 id; have ecxb_1 := hSw.cell cxb_1 id; go_simp <;> with_reducible rfl)
            try simp only [Act.put, List.setIfInBounds_toArray, List.set_cons_zero, List.set_cons_succ]
            refine wpAnyH_take (i := 12) (oi := { dst := some 94, op := Go.Op.indexAddr 23 (Go.Operand.tmp 93) (Go.Operand.const (Go.Value.int Go.IntKind.i64 0)), type := 0, pos := "more.go:36", after := #[{ on := 11, ground := Go.Ground.data }, { on := 10, ground := Go.Ground.guard }], guard := some (10, true) }) (v := ?v126) rfl (by kernel_rfl) (by kernel_rfl) (by kernel_rfl) (fun _ _ _ h => h) (Or.inl ⟨by rfl, ?hy126⟩) (by assumption) ?rest126
            case hy126 => (intro w hSw; (try dsimp only at hSw); have ea0 := hSw.cell a0 id; have ea1 := hSw.cell a1 id; have ea2 := hSw.cell a2 id; have ea3 := hSw.cell a3 id; have ed0 := hSw.cell d0 id; have ed1 := hSw.cell d1 id; have ed2 := hSw.cell d2 id; have ed3 := hSw.cell d3 id; have ecxb_1 := hSw.cell cxb_1 id; go_simp <;> with_reducible rfl)
            try simp only [Act.put, List.setIfInBounds_toArray, List.set_cons_zero, List.set_cons_succ]
            refine wpAnyH_take (i := 13) (oi := { dst := some 95, op := Go.Op.load 5 (Go.Operand.tmp 94), type := 5, pos := "more.go:36", after := #[{ on := 12, ground := Go.Ground.data }, { on := 10, ground := Go.Ground.guard }], guard := some (10, true) }) (v := ?v127) rfl (by kernel_rfl) (by kernel_rfl) (by kernel_rfl) (fun _ _ _ h => h) (Or.inl ⟨by rfl, ?hy127⟩) (by assumption) ?rest127
            case hy127 => (intro w hSw; (try dsimp only at hSw); have ea0 := hSw.cell a0 id; have ea1 := hSw.cell a1 id; have ea2 := hSw.cell a2 id; have ea3 := hSw.cell a3 id; have ed0 := hSw.cell d0 id; have ed1 := hSw.cell d1 id; have ed2 := hSw.cell d2 id; have ed3 := hSw.cell d3 id; have ecxb_1 := hSw.cell cxb_1 id; go_simp <;> with_reducible rfl)
            try simp only [Act.put, List.setIfInBounds_toArray, List.set_cons_zero, List.set_cons_succ]
            refine wpAnyH_take (i := 14) (oi := { dst := some 96, op := Go.Op.binOp Go.BinOp.eql 5 (Go.Operand.tmp 95) (Go.Operand.const (Go.Value.int Go.IntKind.u8 8)) 5, type := 4, pos := "more.go:36", after := #[{ on := 13, ground := Go.Ground.data }, { on := 10, ground := Go.Ground.guard }], guard := some (10, true) }) (v := ?v128) rfl (by kernel_rfl) (by kernel_rfl) (by kernel_rfl) (fun _ _ _ h => h) (Or.inl ⟨by rfl, ?hy128⟩) (by assumption) ?rest128
            case hy128 => (intro w hSw; (try dsimp only at hSw); have ea0 := hSw.cell a0 id; have ea1 := hSw.cell a1 id; have ea2 := hSw.cell a2 id; have ea3 := hSw.cell a3 id; have ed0 := hSw.cell d0 id; have ed1 := hSw.cell d1 id; have ed2 := hSw.cell d2 id; have ed3 := hSw.cell d3 id; have ecxb_1 := hSw.cell cxb_1 id; go_simp <;> with_reducible rfl)
            try simp only [Act.put, List.setIfInBounds_toArray, List.set_cons_zero, List.set_cons_succ]
            refine wpAnyH_take (i := 15) (oi := { dst := some 97, op := Go.Op.pick (Go.Operand.tmp 92) (Go.Operand.tmp 96) (Go.Operand.const (Go.Value.bool false)), type := 4, pos := "more.go:36", after := #[{ on := 10, ground := Go.Ground.data }, { on := 14, ground := Go.Ground.data }], guard := none }) (v := ?v129) rfl (by kernel_rfl) (by kernel_rfl) (by kernel_rfl) (fun _ _ _ h => h) (Or.inl ⟨by rfl, ?hy129⟩) (by assumption) ?rest129
            case hy129 => (intro w hSw; (try dsimp only at hSw); have ea0 := hSw.cell a0 id; have ea1 := hSw.cell a1 id; have ea2 := hSw.cell a2 id; have ea3 := hSw.cell a3 id; have ed0 := hSw.cell d0 id; have ed1 := hSw.cell d1 id; have ed2 := hSw.cell d2 id; have ed3 := hSw.cell d3 id; have ecxb_1 := hSw.cell cxb_1 id; go_simp <;> with_reducible rfl)
            try simp only [Act.put, List.setIfInBounds_toArray, List.set_cons_zero, List.set_cons_succ]
            refine wpAnyH_take (i := 16) (oi := { dst := some 98, op := Go.Op.move (Go.Operand.tmp 97), type := 4, pos := "more.go:36", after := #[{ on := 15, ground := Go.Ground.data }, { on := 10, ground := Go.Ground.chain }], guard := none }) (v := ?v130) rfl (by kernel_rfl) (by kernel_rfl) (by kernel_rfl) (fun _ _ _ h => h) (Or.inl ⟨by rfl, ?hy130⟩) (by assumption) ?rest130
            case hy130 => (intro w hSw; (try dsimp only at hSw); have ea0 := hSw.cell a0 id; have ea1 := hSw.cell a1 id; have ea2 := hSw.cell a2 id; have ea3 := hSw.cell a3 id; have ed0 := hSw.cell d0 id; have ed1 := hSw.cell d1 id; have ed2 := hSw.cell d2 id; have ed3 := hSw.cell d3 id; have ecxb_1 := hSw.cell cxb_1 id; go_simp <;> with_reducible rfl)
            try simp only [Act.put, List.setIfInBounds_toArray, List.set_cons_zero, List.set_cons_succ]
            refine wpAnyH_take (i := 17) (oi := { dst := some 99, op := Go.Op.move (Go.Operand.tmp 5), type := 23, pos := "more.go:36", after := #[{ on := 16, ground := Go.Ground.guard }], guard := some (16, true) }) (v := ?v131) rfl (by kernel_rfl) (by kernel_rfl) (by kernel_rfl) (fun _ _ _ h => h) (Or.inl ⟨by rfl, ?hy131⟩) (by assumption) ?rest131
            case hy131 => (intro w hSw; (try dsimp only at hSw); have ea0 := hSw.cell a0 id; have ea1 := hSw.cell a1 id; have ea2 := hSw.cell a2 id; have ea3 := hSw.cell a3 id; have ed0 := hSw.cell d0 id; have ed1 := hSw.cell d1 id; have ed2 := hSw.cell d2 id; have ed3 := hSw.cell d3 id; have ecxb_1 := hSw.cell cxb_1 id; go_simp <;> with_reducible rfl)
            try simp only [Act.put, List.setIfInBounds_toArray, List.set_cons_zero, List.set_cons_succ]
            refine wpAnyH_take (i := 18) (oi := { dst := some 100, op := Go.Op.indexAddr 23 (Go.Operand.tmp 99) (Go.Operand.const (Go.Value.int Go.IntKind.i64 0)), type := 0, pos := "more.go:36", after := #[{ on := 17, ground := Go.Ground.data }, { on := 16, ground := Go.Ground.guard }], guard := some (16, true) }) (v := ?v132) rfl (by kernel_rfl) (by kernel_rfl) (by kernel_rfl) (fun _ _ _ h => h) (Or.inl ⟨by rfl, ?hy132⟩) (by assumption) ?rest132
            case hy132 => (intro w hSw; (try dsimp only at hSw); have ea0 := hSw.cell a0 id; have ea1 := hSw.cell a1 id; have ea2 := hSw.cell a2 id; have ea3 := hSw.cell a3 id; have ed0 := hSw.cell d0 id; have ed1 := hSw.cell d1 id; have ed2 := hSw.cell d2 id; have ed3 := hSw.cell d3 id; have ecxb_1 := hSw.cell cxb_1 id; go_simp <;> with_reducible rfl)
            try simp only [Act.put, List.setIfInBounds_toArray, List.set_cons_zero, List.set_cons_succ]
            refine wpAnyH_take (i := 19) (oi := { dst := some 101, op := Go.Op.load 5 (Go.Operand.tmp 100), type := 5, pos := "more.go:36", after := #[{ on := 18, ground := Go.Ground.data }, { on := 16, ground := Go.Ground.guard }], guard := some (16, true) }) (v := ?v133) rfl (by kernel_rfl) (by kernel_rfl) (by kernel_rfl) (fun _ _ _ h => h) (Or.inl ⟨by rfl, ?hy133⟩) (by assumption) ?rest133
            case hy133 => (intro w hSw; (try dsimp only at hSw); have ea0 := hSw.cell a0 id; have ea1 := hSw.cell a1 id; have ea2 := hSw.cell a2 id; have ea3 := hSw.cell a3 id; have ed0 := hSw.cell d0 id; have ed1 := hSw.cell d1 id; have ed2 := hSw.cell d2 id; have ed3 := hSw.cell d3 id; have ecxb_1 := hSw.cell cxb_1 id; go_simp <;> with_reducible rfl)
            try simp only [Act.put, List.setIfInBounds_toArray, List.set_cons_zero, List.set_cons_succ]
            refine wpAnyH_take (i := 20) (oi := { dst := some 102, op := Go.Op.binOp Go.BinOp.eql 5 (Go.Operand.tmp 101) (Go.Operand.const (Go.Value.int Go.IntKind.u8 0)) 5, type := 4, pos := "more.go:36", after := #[{ on := 19, ground := Go.Ground.data }, { on := 16, ground := Go.Ground.guard }], guard := some (16, true) }) (v := ?v134) rfl (by kernel_rfl) (by kernel_rfl) (by kernel_rfl) (fun _ _ _ h => h) (Or.inl ⟨by rfl, ?hy134⟩) (by assumption) ?rest134
            case hy134 => (intro w hSw; (try dsimp only at hSw); have ea0 := hSw.cell a0 id; have ea1 := hSw.cell a1 id; have ea2 := hSw.cell a2 id; have ea3 := hSw.cell a3 id; have ed0 := hSw.cell d0 id; have ed1 := hSw.cell d1 id; have ed2 := hSw.cell d2 id; have ed3 := hSw.cell d3 id; have ecxb_1 := hSw.cell cxb_1 id; go_simp <;> with_reducible rfl)
            try simp only [Act.put, List.setIfInBounds_toArray, List.set_cons_zero, List.set_cons_succ]
            refine wpAnyH_take (i := 21) (oi := { dst := some 103, op := Go.Op.pick (Go.Operand.tmp 98) (Go.Operand.tmp 102) (Go.Operand.const (Go.Value.bool false)), type := 4, pos := "more.go:36", after := #[{ on := 16, ground := Go.Ground.data }, { on := 20, ground := Go.Ground.data }], guard := none }) (v := ?v135) rfl (by kernel_rfl) (by kernel_rfl) (by kernel_rfl) (fun _ _ _ h => h) (Or.inl ⟨by rfl, ?hy135⟩) (by assumption) ?rest135
            case hy135 => (intro w hSw; (try dsimp only at hSw); have ea0 := hSw.cell a0 id; have ea1 := hSw.cell a1 id; have ea2 := hSw.cell a2 id; have ea3 := hSw.cell a3 id; have ed0 := hSw.cell d0 id; have ed1 := hSw.cell d1 id; have ed2 := hSw.cell d2 id; have ed3 := hSw.cell d3 id; have ecxb_1 := hSw.cell cxb_1 id; go_simp <;> with_reducible rfl)
            try simp only [Act.put, List.setIfInBounds_toArray, List.set_cons_zero, List.set_cons_succ]
            refine wpAnyH_take (i := 22) (oi := { dst := some 104, op := Go.Op.move (Go.Operand.tmp 103), type := 4, pos := "more.go:36", after := #[{ on := 21, ground := Go.Ground.data }, { on := 16, ground := Go.Ground.chain }], guard := none }) (v := ?v136) rfl (by kernel_rfl) (by kernel_rfl) (by kernel_rfl) (fun _ _ _ h => h) (Or.inl ⟨by rfl, ?hy136⟩) (by assumption) ?rest136
            case hy136 => (intro w hSw; (try dsimp only at hSw); have ea0 := hSw.cell a0 id; have ea1 := hSw.cell a1 id; have ea2 := hSw.cell a2 id; have ea3 := hSw.cell a3 id; have ed0 := hSw.cell d0 id; have ed1 := hSw.cell d1 id; have ed2 := hSw.cell d2 id; have ed3 := hSw.cell d3 id; have ecxb_1 := hSw.cell cxb_1 id; go_simp <;> with_reducible rfl)
            try simp only [Act.put, List.setIfInBounds_toArray, List.set_cons_zero, List.set_cons_succ]
            refine wpAnyH_take (i := 23) (oi := { dst := some 105, op := Go.Op.move (Go.Operand.tmp 4), type := 23, pos := "more.go:36", after := #[{ on := 22, ground := Go.Ground.guard }], guard := some (22, true) }) (v := ?v137) rfl (by kernel_rfl) (by kernel_rfl) (by kernel_rfl) (fun _ _ _ h => h) (Or.inl ⟨by rfl, ?hy137⟩) (by assumption) ?rest137
            case hy137 => (intro w hSw; (try dsimp only at hSw); have ea0 := hSw.cell a0 id; have ea1 := hSw.cell a1 id; have ea2 := hSw.cell a2 id; have ea3 := hSw.cell a3 id; have ed0 := hSw.cell d0 id; have ed1 := hSw.cell d1 id; have ed2 := hSw.cell d2 id; have ed3 := hSw.cell d3 id; have ecxb_1 := hSw.cell cxb_1 id; go_simp <;> with_reducible rfl)
            try simp only [Act.put, List.setIfInBounds_toArray, List.set_cons_zero, List.set_cons_succ]
            refine wpAnyH_take (i := 24) (oi := { dst := some 106, op := Go.Op.indexAddr 23 (Go.Operand.tmp 105) (Go.Operand.const (Go.Value.int Go.IntKind.i64 1)), type := 0, pos := "more.go:36", after := #[{ on := 23, ground := Go.Ground.data }, { on := 22, ground := Go.Ground.guard }], guard := some (22, true) }) (v := ?v138) rfl (by kernel_rfl) (by kernel_rfl) (by kernel_rfl) (fun _ _ _ h => h) (Or.inl ⟨by rfl, ?hy138⟩) (by assumption) ?rest138
            case hy138 => (intro w hSw; (try dsimp only at hSw); have ea0 := hSw.cell a0 id; have ea1 := hSw.cell a1 id; have ea2 := hSw.cell a2 id; have ea3 := hSw.cell a3 id; have ed0 := hSw.cell d0 id; have ed1 := hSw.cell d1 id; have ed2 := hSw.cell d2 id; have ed3 := hSw.cell d3 id; have ecxb_1 := hSw.cell cxb_1 id; go_simp <;> with_reducible rfl)
            try simp only [Act.put, List.setIfInBounds_toArray, List.set_cons_zero, List.set_cons_succ]
            refine wpAnyH_take (i := 25) (oi := { dst := some 107, op := Go.Op.load 5 (Go.Operand.tmp 106), type := 5, pos := "more.go:36", after := #[{ on := 24, ground := Go.Ground.data }, { on := 22, ground := Go.Ground.guard }], guard := some (22, true) }) (v := ?v139) rfl (by kernel_rfl) (by kernel_rfl) (by kernel_rfl) (fun _ _ _ h => h) (Or.inl ⟨by rfl, ?hy139⟩) (by assumption) ?rest139
            case hy139 => (intro w hSw; (try dsimp only at hSw); have ea0 := hSw.cell a0 id; have ea1 := hSw.cell a1 id; have ea2 := hSw.cell a2 id; have ea3 := hSw.cell a3 id; have ed0 := hSw.cell d0 id; have ed1 := hSw.cell d1 id; have ed2 := hSw.cell d2 id; have ed3 := hSw.cell d3 id; have ecxb_1 := hSw.cell cxb_1 id; go_simp <;> with_reducible rfl)
            try simp only [Act.put, List.setIfInBounds_toArray, List.set_cons_zero, List.set_cons_succ]
            refine wpAnyH_take (i := 26) (oi := { dst := some 108, op := Go.Op.move (Go.Operand.tmp 5), type := 23, pos := "more.go:36", after := #[{ on := 22, ground := Go.Ground.guard }], guard := some (22, true) }) (v := ?v140) rfl (by kernel_rfl) (by kernel_rfl) (by kernel_rfl) (fun _ _ _ h => h) (Or.inl ⟨by rfl, ?hy140⟩) (by assumption) ?rest140
            case hy140 => (intro w hSw; (try dsimp only at hSw); have ea0 := hSw.cell a0 id; have ea1 := hSw.cell a1 id; have ea2 := hSw.cell a2 id; have ea3 := hSw.cell a3 id; have ed0 := hSw.cell d0 id; have ed1 := hSw.cell d1 id; have ed2 := hSw.cell d2 id; have ed3 := hSw.cell d3 id; have ecxb_1 := hSw.cell cxb_1 id; go_simp <;> with_reducible rfl)
            try simp only [Act.put, List.setIfInBounds_toArray, List.set_cons_zero, List.set_cons_succ]
            refine wpAnyH_take (i := 27) (oi := { dst := some 109, op := Go.Op.indexAddr 23 (Go.Operand.tmp 108) (Go.Operand.const (Go.Value.int Go.IntKind.i64 1)), type := 0, pos := "more.go:36", after := #[{ on := 26, ground := Go.Ground.data }, { on := 22, ground := Go.Ground.guard }], guard := some (22, true) }) (v := ?v141) rfl (by kernel_rfl) (by kernel_rfl) (by kernel_rfl) (fun _ _ _ h => h) (Or.inl ⟨by rfl, ?hy141⟩) (by assumption) ?rest141
            case hy141 => (intro w hSw; (try dsimp only at hSw); have ea0 := hSw.cell a0 id; have ea1 := hSw.cell a1 id; have ea2 := hSw.cell a2 id; have ea3 := hSw.cell a3 id; have ed0 := hSw.cell d0 id; have ed1 := hSw.cell d1 id; have ed2 := hSw.cell d2 id; have ed3 := hSw.cell d3 id; have ecxb_1 := hSw.cell cxb_1 id; go_simp <;> with_reducible rfl)
            try simp only [Act.put, List.setIfInBounds_toArray, List.set_cons_zero, List.set_cons_succ]
            refine wpAnyH_take (i := 28) (oi := { dst := some 110, op := Go.Op.load 5 (Go.Operand.tmp 109), type := 5, pos := "more.go:36", after := #[{ on := 27, ground := Go.Ground.data }, { on := 22, ground := Go.Ground.guard }], guard := some (22, true) }) (v := ?v142) rfl (by kernel_rfl) (by kernel_rfl) (by kernel_rfl) (fun _ _ _ h => h) (Or.inl ⟨by rfl, ?hy142⟩) (by assumption) ?rest142
            case hy142 => (intro w hSw; (try dsimp only at hSw); have ea0 := hSw.cell a0 id; have ea1 := hSw.cell a1 id; have ea2 := hSw.cell a2 id; have ea3 := hSw.cell a3 id; have ed0 := hSw.cell d0 id; have ed1 := hSw.cell d1 id; have ed2 := hSw.cell d2 id; have ed3 := hSw.cell d3 id; have ecxb_1 := hSw.cell cxb_1 id; go_simp <;> with_reducible rfl)
            try simp only [Act.put, List.setIfInBounds_toArray, List.set_cons_zero, List.set_cons_succ]
            refine wpAnyH_take (i := 29) (oi := { dst := some 111, op := Go.Op.binOp Go.BinOp.eql 5 (Go.Operand.tmp 107) (Go.Operand.tmp 110) 5, type := 4, pos := "more.go:36", after := #[{ on := 25, ground := Go.Ground.data }, { on := 28, ground := Go.Ground.data }, { on := 22, ground := Go.Ground.guard }], guard := some (22, true) }) (v := ?v143) rfl (by kernel_rfl) (by kernel_rfl) (by kernel_rfl) (fun _ _ _ h => h) (Or.inl ⟨by rfl, ?hy143⟩) (by assumption) ?rest143
            case hy143 => (intro w hSw; (try dsimp only at hSw); have ea0 := hSw.cell a0 id; have ea1 := hSw.cell a1 id; have ea2 := hSw.cell a2 id; have ea3 := hSw.cell a3 id; have ed0 := hSw.cell d0 id; have ed1 := hSw.cell d1 id; have ed2 := hSw.cell d2 id; have ed3 := hSw.cell d3 id; have ecxb_1 := hSw.cell cxb_1 id; go_simp <;> with_reducible rfl)
            try simp only [Act.put, List.setIfInBounds_toArray, List.set_cons_zero, List.set_cons_succ]
            refine wpAnyH_take (i := 30) (oi := { dst := some 112, op := Go.Op.pick (Go.Operand.tmp 104) (Go.Operand.tmp 111) (Go.Operand.const (Go.Value.bool false)), type := 4, pos := "more.go:36", after := #[{ on := 22, ground := Go.Ground.data }, { on := 29, ground := Go.Ground.data }], guard := none }) (v := ?v144) rfl (by kernel_rfl) (by kernel_rfl) (by kernel_rfl) (fun _ _ _ h => h) (Or.inl ⟨by rfl, ?hy144⟩) (by assumption) ?rest144
            case hy144 => (intro w hSw; (try dsimp only at hSw); have ea0 := hSw.cell a0 id; have ea1 := hSw.cell a1 id; have ea2 := hSw.cell a2 id; have ea3 := hSw.cell a3 id; have ed0 := hSw.cell d0 id; have ed1 := hSw.cell d1 id; have ed2 := hSw.cell d2 id; have ed3 := hSw.cell d3 id; have ecxb_1 := hSw.cell cxb_1 id; go_simp <;> with_reducible rfl)
            try simp only [Act.put, List.setIfInBounds_toArray, List.set_cons_zero, List.set_cons_succ]
            refine wpAnyH_take (i := 31) (oi := { dst := some 113, op := Go.Op.move (Go.Operand.tmp 112), type := 4, pos := "more.go:36", after := #[{ on := 30, ground := Go.Ground.data }, { on := 22, ground := Go.Ground.chain }], guard := none }) (v := ?v145) rfl (by kernel_rfl) (by kernel_rfl) (by kernel_rfl) (fun _ _ _ h => h) (Or.inl ⟨by rfl, ?hy145⟩) (by assumption) ?rest145
            case hy145 => (intro w hSw; (try dsimp only at hSw); have ea0 := hSw.cell a0 id; have ea1 := hSw.cell a1 id; have ea2 := hSw.cell a2 id; have ea3 := hSw.cell a3 id; have ed0 := hSw.cell d0 id; have ed1 := hSw.cell d1 id; have ed2 := hSw.cell d2 id; have ed3 := hSw.cell d3 id; have ecxb_1 := hSw.cell cxb_1 id; go_simp <;> with_reducible rfl)
            try simp only [Act.put, List.setIfInBounds_toArray, List.set_cons_zero, List.set_cons_succ]
            refine wpAnyH_take (i := 32) (oi := { dst := some 114, op := Go.Op.move (Go.Operand.tmp 9), type := 4, pos := "more.go:36", after := #[{ on := 31, ground := Go.Ground.guard }], guard := some (31, true) }) (v := ?v146) rfl (by kernel_rfl) (by kernel_rfl) (by kernel_rfl) (fun _ _ _ h => h) (Or.inl ⟨by rfl, ?hy146⟩) (by assumption) ?rest146
            case hy146 => (intro w hSw; (try dsimp only at hSw); have ea0 := hSw.cell a0 id; have ea1 := hSw.cell a1 id; have ea2 := hSw.cell a2 id; have ea3 := hSw.cell a3 id; have ed0 := hSw.cell d0 id; have ed1 := hSw.cell d1 id; have ed2 := hSw.cell d2 id; have ed3 := hSw.cell d3 id; have ecxb_1 := hSw.cell cxb_1 id; go_simp <;> with_reducible rfl)
            try simp only [Act.put, List.setIfInBounds_toArray, List.set_cons_zero, List.set_cons_succ]
            refine wpAnyH_take (i := 33) (oi := { dst := some 115, op := Go.Op.unOp Go.UnOp.not 4 (Go.Operand.tmp 114), type := 4, pos := "more.go:36", after := #[{ on := 32, ground := Go.Ground.data }, { on := 31, ground := Go.Ground.guard }], guard := some (31, true) }) (v := ?v147) rfl (by kernel_rfl) (by kernel_rfl) (by kernel_rfl) (fun _ _ _ h => h) (Or.inl ⟨by rfl, ?hy147⟩) (by assumption) ?rest147
            case hy147 => (intro w hSw; (try dsimp only at hSw); have ea0 := hSw.cell a0 id; have ea1 := hSw.cell a1 id; have ea2 := hSw.cell a2 id; have ea3 := hSw.cell a3 id; have ed0 := hSw.cell d0 id; have ed1 := hSw.cell d1 id; have ed2 := hSw.cell d2 id; have ed3 := hSw.cell d3 id; have ecxb_1 := hSw.cell cxb_1 id; go_simp <;> with_reducible rfl)
            try simp only [Act.put, List.setIfInBounds_toArray, List.set_cons_zero, List.set_cons_succ]
            refine wpAnyH_take (i := 34) (oi := { dst := some 116, op := Go.Op.move (Go.Operand.tmp 115), type := 4, pos := "more.go:36", after := #[{ on := 33, ground := Go.Ground.data }, { on := 31, ground := Go.Ground.chain }, { on := 31, ground := Go.Ground.guard }], guard := some (31, true) }) (v := ?v148) rfl (by kernel_rfl) (by kernel_rfl) (by kernel_rfl) (fun _ _ _ h => h) (Or.inl ⟨by rfl, ?hy148⟩) (by assumption) ?rest148
            case hy148 => (intro w hSw; (try dsimp only at hSw); have ea0 := hSw.cell a0 id; have ea1 := hSw.cell a1 id; have ea2 := hSw.cell a2 id; have ea3 := hSw.cell a3 id; have ed0 := hSw.cell d0 id; have ed1 := hSw.cell d1 id; have ed2 := hSw.cell d2 id; have ed3 := hSw.cell d3 id; have ecxb_1 := hSw.cell cxb_1 id; go_simp <;> with_reducible rfl)
            try simp only [Act.put, List.setIfInBounds_toArray, List.set_cons_zero, List.set_cons_succ]
            refine wpAnyH_take (i := 35) (oi := { dst := some 117, op := Go.Op.move (Go.Operand.tmp 6), type := 32, pos := "more.go:36", after := #[{ on := 34, ground := Go.Ground.guard }], guard := some (34, false) }) (v := undef) rfl (by kernel_rfl) (by kernel_rfl) (by kernel_rfl) (fun _ _ _ h => h) (Or.inr ⟨by rfl, rfl⟩) (by assumption) ?rest149
            try simp only [Act.put, List.setIfInBounds_toArray, List.set_cons_zero, List.set_cons_succ]
            refine wpAnyH_take (i := 36) (oi := { dst := some 118, op := Go.Op.move (Go.Operand.tmp 8), type := 32, pos := "more.go:36", after := #[{ on := 34, ground := Go.Ground.guard }], guard := some (34, false) }) (v := undef) rfl (by kernel_rfl) (by kernel_rfl) (by kernel_rfl) (fun _ _ _ h => h) (Or.inr ⟨by rfl, rfl⟩) (by assumption) ?rest150
            try simp only [Act.put, List.setIfInBounds_toArray, List.set_cons_zero, List.set_cons_succ]
            refine wpAnyH_take (i := 37) (oi := { dst := some 119, op := Go.Op.fieldAddr 25 (Go.Operand.tmp 1) 1, type := 0, pos := "more.go:36", after := #[{ on := 34, ground := Go.Ground.guard }], guard := some (34, false) }) (v := undef) rfl (by kernel_rfl) (by kernel_rfl) (by kernel_rfl) (fun _ _ _ h => h) (Or.inr ⟨by rfl, rfl⟩) (by assumption) ?rest151
            try simp only [Act.put, List.setIfInBounds_toArray, List.set_cons_zero, List.set_cons_succ]
            refine wpAnyH_take (i := 38) (oi := { dst := some 120, op := Go.Op.load 5 (Go.Operand.tmp 119), type := 5, pos := "more.go:36", after := #[{ on := 37, ground := Go.Ground.data }, { on := 34, ground := Go.Ground.guard }], guard := some (34, false) }) (v := undef) rfl (by kernel_rfl) (by kernel_rfl) (by kernel_rfl) (fun _ _ _ h => h) (Or.inr ⟨by rfl, rfl⟩) (by assumption) ?rest152
            try simp only [Act.put, List.setIfInBounds_toArray, List.set_cons_zero, List.set_cons_succ]
            refine wpAnyH_take (i := 39) (oi := { dst := some 121, op := Go.Op.convert 5 32 (Go.Operand.tmp 120), type := 32, pos := "more.go:36", after := #[{ on := 38, ground := Go.Ground.data }, { on := 34, ground := Go.Ground.guard }], guard := some (34, false) }) (v := undef) rfl (by kernel_rfl) (by kernel_rfl) (by kernel_rfl) (fun _ _ _ h => h) (Or.inr ⟨by rfl, rfl⟩) (by assumption) ?rest153
            try simp only [Act.put, List.setIfInBounds_toArray, List.set_cons_zero, List.set_cons_succ]
            refine wpAnyH_take (i := 40) (oi := { dst := some 122, op := Go.Op.call { callee := Go.Callee.value (Go.Operand.func 12), args := #[Go.Operand.tmp 117, Go.Operand.tmp 118, Go.Operand.tmp 121], argTypes := #[32, 32, 32] }, type := 32, pos := "more.go:36", after := #[{ on := 35, ground := Go.Ground.data }, { on := 36, ground := Go.Ground.data }, { on := 39, ground := Go.Ground.data }, { on := 34, ground := Go.Ground.chain }, { on := 34, ground := Go.Ground.guard }], guard := some (34, false) }) (v := undef) rfl (by kernel_rfl) (by kernel_rfl) (by kernel_rfl) (fun _ _ _ h => h) (Or.inr ⟨by rfl, rfl⟩) (by assumption) ?rest154
            try simp only [Act.put, List.setIfInBounds_toArray, List.set_cons_zero, List.set_cons_succ]
            refine wpAnyH_take (i := 41) (oi := { dst := some 123, op := Go.Op.move (Go.Operand.tmp 7), type := 32, pos := "more.go:36", after := #[{ on := 34, ground := Go.Ground.guard }], guard := some (34, false) }) (v := undef) rfl (by kernel_rfl) (by kernel_rfl) (by kernel_rfl) (fun _ _ _ h => h) (Or.inr ⟨by rfl, rfl⟩) (by assumption) ?rest155
            try simp only [Act.put, List.setIfInBounds_toArray, List.set_cons_zero, List.set_cons_succ]
            refine wpAnyH_take (i := 42) (oi := { dst := some 124, op := Go.Op.binOp Go.BinOp.eql 32 (Go.Operand.tmp 122) (Go.Operand.tmp 123) 32, type := 4, pos := "more.go:36", after := #[{ on := 40, ground := Go.Ground.data }, { on := 41, ground := Go.Ground.data }, { on := 34, ground := Go.Ground.guard }], guard := some (34, false) }) (v := undef) rfl (by kernel_rfl) (by kernel_rfl) (by kernel_rfl) (fun _ _ _ h => h) (Or.inr ⟨by rfl, rfl⟩) (by assumption) ?rest156
            try simp only [Act.put, List.setIfInBounds_toArray, List.set_cons_zero, List.set_cons_succ]
            refine wpAnyH_take (i := 43) (oi := { dst := some 125, op := Go.Op.pick (Go.Operand.tmp 116) (Go.Operand.const (Go.Value.bool true)) (Go.Operand.tmp 124), type := 4, pos := "more.go:36", after := #[{ on := 34, ground := Go.Ground.data }, { on := 42, ground := Go.Ground.data }, { on := 31, ground := Go.Ground.guard }], guard := some (31, true) }) (v := ?v157) rfl (by kernel_rfl) (by kernel_rfl) (by kernel_rfl) (fun _ _ _ h => h) (Or.inl ⟨by rfl, ?hy157⟩) (by assumption) ?rest157
            case hy157 => (intro w hSw; (try dsimp only at hSw); have ea0 := hSw.cell a0 id; have ea1 := hSw.cell a1 id; have ea2 := hSw.cell a2 id; have ea3 := hSw.cell a3 id; have ed0 := hSw.cell d0 id; have ed1 := hSw.cell d1 id; have ed2 := hSw.cell d2 id; have ed3 := hSw.cell d3 id; have ecxb_1 := hSw.cell cxb_1 id; go_simp <;> with_reducible rfl)
            try simp only [Act.put, List.setIfInBounds_toArray, List.set_cons_zero, List.set_cons_succ]
            refine wpAnyH_take (i := 44) (oi := { dst := some 126, op := Go.Op.pick (Go.Operand.tmp 113) (Go.Operand.tmp 125) (Go.Operand.const (Go.Value.bool false)), type := 4, pos := "more.go:36", after := #[{ on := 31, ground := Go.Ground.data }, { on := 43, ground := Go.Ground.data }], guard := none }) (v := ?v158) rfl (by kernel_rfl) (by kernel_rfl) (by kernel_rfl) (fun _ _ _ h => h) (Or.inl ⟨by rfl, ?hy158⟩) (by assumption) ?rest158
            case hy158 => (intro w hSw; (try dsimp only at hSw); have ea0 := hSw.cell a0 id; have ea1 := hSw.cell a1 id; have ea2 := hSw.cell a2 id; have ea3 := hSw.cell a3 id; have ed0 := hSw.cell d0 id; have ed1 := hSw.cell d1 id; have ed2 := hSw.cell d2 id; have ed3 := hSw.cell d3 id; have ecxb_1 := hSw.cell cxb_1 id; go_simp <;> with_reducible rfl)
            try simp only [Act.put, List.setIfInBounds_toArray, List.set_cons_zero, List.set_cons_succ]
            refine wpAnyH_take (i := 45) (oi := { dst := some 2, op := Go.Op.assign (Go.Operand.tmp 126), type := 4, pos := "more.go:36", after := #[{ on := 44, ground := Go.Ground.data }, { on := 40, ground := Go.Ground.chain }, { on := 0, ground := Go.Ground.phase }, { on := 1, ground := Go.Ground.phase }, { on := 2, ground := Go.Ground.phase }, { on := 3, ground := Go.Ground.phase }, { on := 4, ground := Go.Ground.phase }, { on := 5, ground := Go.Ground.phase }, { on := 6, ground := Go.Ground.phase }, { on := 7, ground := Go.Ground.phase }, { on := 8, ground := Go.Ground.phase }, { on := 9, ground := Go.Ground.phase }, { on := 10, ground := Go.Ground.phase }, { on := 11, ground := Go.Ground.phase }, { on := 12, ground := Go.Ground.phase }, { on := 13, ground := Go.Ground.phase }, { on := 14, ground := Go.Ground.phase }, { on := 15, ground := Go.Ground.phase }, { on := 16, ground := Go.Ground.phase }, { on := 17, ground := Go.Ground.phase }, { on := 18, ground := Go.Ground.phase }, { on := 19, ground := Go.Ground.phase }, { on := 20, ground := Go.Ground.phase }, { on := 21, ground := Go.Ground.phase }, { on := 22, ground := Go.Ground.phase }, { on := 23, ground := Go.Ground.phase }, { on := 24, ground := Go.Ground.phase }, { on := 25, ground := Go.Ground.phase }, { on := 26, ground := Go.Ground.phase }, { on := 27, ground := Go.Ground.phase }, { on := 28, ground := Go.Ground.phase }, { on := 29, ground := Go.Ground.phase }, { on := 30, ground := Go.Ground.phase }, { on := 31, ground := Go.Ground.phase }, { on := 32, ground := Go.Ground.phase }, { on := 33, ground := Go.Ground.phase }, { on := 34, ground := Go.Ground.phase }, { on := 35, ground := Go.Ground.phase }, { on := 36, ground := Go.Ground.phase }, { on := 37, ground := Go.Ground.phase }, { on := 38, ground := Go.Ground.phase }, { on := 39, ground := Go.Ground.phase }, { on := 40, ground := Go.Ground.phase }, { on := 41, ground := Go.Ground.phase }, { on := 42, ground := Go.Ground.phase }, { on := 43, ground := Go.Ground.phase }, { on := 44, ground := Go.Ground.phase }], guard := none }) (v := ?v159) rfl (by kernel_rfl) (by kernel_rfl) (by kernel_rfl) (fun _ _ _ h => h) (Or.inl ⟨by rfl, ?hy159⟩) (by assumption) ?rest159
            case hy159 => (intro w hSw; (try dsimp only at hSw); have ea0 := hSw.cell a0 id; have ea1 := hSw.cell a1 id; have ea2 := hSw.cell a2 id; have ea3 := hSw.cell a3 id; have ed0 := hSw.cell d0 id; have ed1 := hSw.cell d1 id; have ed2 := hSw.cell d2 id; have ed3 := hSw.cell d3 id; have ecxb_1 := hSw.cell cxb_1 id; go_simp <;> with_reducible rfl)
            try simp only [Act.put, List.setIfInBounds_toArray, List.set_cons_zero, List.set_cons_succ]
            refine wpAnyH_done (by kernel_rfl) ?_ _
            have HX_we := Lib.hid hx
            clear hx
            go_wp2_with fail
            go_ret
            exact ⟨rfl, ((((((((((HX_w1.out.trans HX_w2.out).andThen HX_w3.out (fun i hi e => by have := hb_xb_; omega)).andThen HX_w4.out (fun i hi e => by have := hb_xb_; omega)).trans HX_w5.out).andThen HX_w6.out (fun i hi e => by have := hb_xb_; omega)).trans HX_w7.out).trans HX_w8.out).trans HX_w9.out).trans hxl.out).trans HX_we.out)⟩
          ·
            have hup : up s8 (2048 + cn) cn = s0 := HUP.out (by
              rcases hsv.out.1 rfl with h | ⟨x, hx, h⟩
              · exact HSM.out
              · exact .inr (.inr (fun h' => h (h' x hx))))
            have HU := Lib.hid hup
            clear hsv hup
            have hS0 : Ex (fun _ => False) wr wr.drew := (Ex.refl _ wr).drew
            refine wp_region_held_drew (S := fun W => Ex (fun _ => False) wr W) (by kernel_rfl) hS0 (fun _ => ?_)
            refine wpAnyH_take (i := 0) (oi := { dst := some 82, op := Go.Op.move (Go.Operand.tmp 3), type := 4, pos := "more.go:36", after := #[], guard := none }) (v := ?v160) rfl (by kernel_rfl) (by kernel_rfl) (by kernel_rfl) (fun _ _ _ h => h) (Or.inl ⟨by rfl, ?hy160⟩) (by assumption) ?rest160
            case hy160 => (intro w hSw; (try dsimp only at hSw); have ea0 := hSw.cell a0 id; have ea1 := hSw.cell a1 id; have ea2 := hSw.cell a2 id; have ea3 := hSw.cell a3 id; have ed0 := hSw.cell d0 id; have ed1 := hSw.cell d1 id; have ed2 := hSw.cell d2 id; have ed3 := hSw.cell d3 id; have ecxb_1 := hSw.cell cxb_1 id; go_simp <;> with_reducible rfl)
            try simp only [Act.put, List.setIfInBounds_toArray, List.set_cons_zero, List.set_cons_succ]
            refine wpAnyH_take (i := 1) (oi := { dst := some 83, op := Go.Op.move (Go.Operand.tmp 82), type := 4, pos := "more.go:36", after := #[{ on := 0, ground := Go.Ground.data }], guard := none }) (v := ?v161) rfl (by kernel_rfl) (by kernel_rfl) (by kernel_rfl) (fun _ _ _ h => h) (Or.inl ⟨by rfl, ?hy161⟩) (by assumption) ?rest161
            case hy161 => (intro w hSw; (try dsimp only at hSw); have ea0 := hSw.cell a0 id; have ea1 := hSw.cell a1 id; have ea2 := hSw.cell a2 id; have ea3 := hSw.cell a3 id; have ed0 := hSw.cell d0 id; have ed1 := hSw.cell d1 id; have ed2 := hSw.cell d2 id; have ed3 := hSw.cell d3 id; have ecxb_1 := hSw.cell cxb_1 id; go_simp <;> with_reducible rfl)
            try simp only [Act.put, List.setIfInBounds_toArray, List.set_cons_zero, List.set_cons_succ]
            refine wpAnyH_take (i := 2) (oi := { dst := some 84, op := Go.Op.move (Go.Operand.tmp 4), type := 23, pos := "more.go:36", after := #[{ on := 1, ground := Go.Ground.guard }], guard := some (1, true) }) (v := ?v162) rfl (by kernel_rfl) (by kernel_rfl) (by kernel_rfl) (fun _ _ _ h => h) (Or.inl ⟨by rfl, ?hy162⟩) (by assumption) ?rest162
            case hy162 => (intro w hSw; (try dsimp only at hSw); have ea0 := hSw.cell a0 id; have ea1 := hSw.cell a1 id; have ea2 := hSw.cell a2 id; have ea3 := hSw.cell a3 id; have ed0 := hSw.cell d0 id; have ed1 := hSw.cell d1 id; have ed2 := hSw.cell d2 id; have ed3 := hSw.cell d3 id; have ecxb_1 := hSw.cell cxb_1 id; go_simp <;> with_reducible rfl)
            try simp only [Act.put, List.setIfInBounds_toArray, List.set_cons_zero, List.set_cons_succ]
            refine wpAnyH_take (i := 3) (oi := { dst := some 85, op := Go.Op.slice 23 (Go.Operand.tmp 84) (some (Go.Operand.const (Go.Value.int Go.IntKind.i64 4))) none none, type := 23, pos := "more.go:36", after := #[{ on := 2, ground := Go.Ground.data }, { on := 1, ground := Go.Ground.guard }], guard := some (1, true) }) (v := ?v163) rfl (by kernel_rfl) (by kernel_rfl) (by kernel_rfl) (fun _ _ _ h => h) (Or.inl ⟨by rfl, ?hy163⟩) (by assumption) ?rest163
            case hy163 => (intro w hSw; (try dsimp only at hSw); have ea0 := hSw.cell a0 id; have ea1 := hSw.cell a1 id; have ea2 := hSw.cell a2 id; have ea3 := hSw.cell a3 id; have ed0 := hSw.cell d0 id; have ed1 := hSw.cell d1 id; have ed2 := hSw.cell d2 id; have ed3 := hSw.cell d3 id; have ecxb_1 := hSw.cell cxb_1 id; go_simp <;> with_reducible rfl)
            try simp only [Act.put, List.setIfInBounds_toArray, List.set_cons_zero, List.set_cons_succ]
            refine wpAnyH_take (i := 4) (oi := { dst := some 86, op := Go.Op.convert 23 9 (Go.Operand.tmp 85), type := 9, pos := "more.go:36", after := #[{ on := 3, ground := Go.Ground.data }, { on := 1, ground := Go.Ground.guard }], guard := some (1, true) }) (v := ?v164) rfl (by kernel_rfl) (by kernel_rfl) (by kernel_rfl) (fun _ _ _ h => h) (Or.inl ⟨by rfl, ?hy164⟩) (by assumption) ?rest164
            case hy164 => (intro w hSw; (try dsimp only at hSw); have ea0 := hSw.cell a0 id; have ea1 := hSw.cell a1 id; have ea2 := hSw.cell a2 id; have ea3 := hSw.cell a3 id; have ed0 := hSw.cell d0 id; have ed1 := hSw.cell d1 id; have ed2 := hSw.cell d2 id; have ed3 := hSw.cell d3 id; have ecxb_1 := hSw.cell cxb_1 id; have eq := (RB.keep R8l.out hSw (fun _ _ _ => id)).str (Pr := Try.prog) 23 9 5 Try.underlying23 Try.underlying5 Try.underlying9; go_simp <;> with_reducible rfl)
            try simp only [Act.put, List.setIfInBounds_toArray, List.set_cons_zero, List.set_cons_succ]
            refine wpAnyH_take (i := 5) (oi := { dst := some 87, op := Go.Op.move (Go.Operand.tmp 5), type := 23, pos := "more.go:36", after := #[{ on := 1, ground := Go.Ground.guard }], guard := some (1, true) }) (v := ?v165) rfl (by kernel_rfl) (by kernel_rfl) (by kernel_rfl) (fun _ _ _ h => h) (Or.inl ⟨by rfl, ?hy165⟩) (by assumption) ?rest165
            case hy165 => (intro w hSw; (try dsimp only at hSw); have ea0 := hSw.cell a0 id; have ea1 := hSw.cell a1 id; have ea2 := hSw.cell a2 id; have ea3 := hSw.cell a3 id; have ed0 := hSw.cell d0 id; have ed1 := hSw.cell d1 id; have ed2 := hSw.cell d2 id; have ed3 := hSw.cell d3 id; have ecxb_1 := hSw.cell cxb_1 id; go_simp <;> with_reducible rfl)
            try simp only [Act.put, List.setIfInBounds_toArray, List.set_cons_zero, List.set_cons_succ]
            refine wpAnyH_take (i := 6) (oi := { dst := some 88, op := Go.Op.slice 23 (Go.Operand.tmp 87) (some (Go.Operand.const (Go.Value.int Go.IntKind.i64 4))) none none, type := 23, pos := "more.go:36", after := #[{ on := 5, ground := Go.Ground.data }, { on := 1, ground := Go.Ground.guard }], guard := some (1, true) }) (v := ?v166) rfl (by kernel_rfl) (by kernel_rfl) (by kernel_rfl) (fun _ _ _ h => h) (Or.inl ⟨by rfl, ?hy166⟩) (by assumption) ?rest166
            case hy166 => (intro w hSw; (try dsimp only at hSw); have ea0 := hSw.cell a0 id; have ea1 := hSw.cell a1 id; have ea2 := hSw.cell a2 id; have ea3 := hSw.cell a3 id; have ed0 := hSw.cell d0 id; have ed1 := hSw.cell d1 id; have ed2 := hSw.cell d2 id; have ed3 := hSw.cell d3 id; have ecxb_1 := hSw.cell cxb_1 id; go_simp <;> with_reducible rfl)
            try simp only [Act.put, List.setIfInBounds_toArray, List.set_cons_zero, List.set_cons_succ]
            refine wpAnyH_take (i := 7) (oi := { dst := some 89, op := Go.Op.convert 23 9 (Go.Operand.tmp 88), type := 9, pos := "more.go:36", after := #[{ on := 6, ground := Go.Ground.data }, { on := 1, ground := Go.Ground.guard }], guard := some (1, true) }) (v := ?v167) rfl (by kernel_rfl) (by kernel_rfl) (by kernel_rfl) (fun _ _ _ h => h) (Or.inl ⟨by rfl, ?hy167⟩) (by assumption) ?rest167
            case hy167 => (intro w hSw; (try dsimp only at hSw); have ea0 := hSw.cell a0 id; have ea1 := hSw.cell a1 id; have ea2 := hSw.cell a2 id; have ea3 := hSw.cell a3 id; have ed0 := hSw.cell d0 id; have ed1 := hSw.cell d1 id; have ed2 := hSw.cell d2 id; have ed3 := hSw.cell d3 id; have ecxb_1 := hSw.cell cxb_1 id; have eq := (RB.keep R0l.out hSw (fun _ _ _ => id)).str (Pr := Try.prog) 23 9 5 Try.underlying23 Try.underlying5 Try.underlying9; go_simp <;> with_reducible rfl)
            try simp only [Act.put, List.setIfInBounds_toArray, List.set_cons_zero, List.set_cons_succ]
            refine wpAnyH_take (i := 8) (oi := { dst := some 90, op := Go.Op.binOp Go.BinOp.eql 9 (Go.Operand.tmp 86) (Go.Operand.tmp 89) 9, type := 4, pos := "more.go:36", after := #[{ on := 4, ground := Go.Ground.data }, { on := 7, ground := Go.Ground.data }, { on := 1, ground := Go.Ground.guard }], guard := some (1, true) }) (v := ?v168) rfl (by kernel_rfl) (by kernel_rfl) (by kernel_rfl) (fun _ _ _ h => h) (Or.inl ⟨by rfl, ?hy168⟩) (by assumption) ?rest168
            case hy168 => (intro w hSw; (try dsimp only at hSw); have ea0 := hSw.cell a0 id; have ea1 := hSw.cell a1 id; have ea2 := hSw.cell a2 id; have ea3 := hSw.cell a3 id; have ed0 := hSw.cell d0 id; have ed1 := hSw.cell d1 id; have ed2 := hSw.cell d2 id; have ed3 := hSw.cell d3 id; have ecxb_1 := hSw.cell cxb_1 id; go_simp <;> with_reducible rfl)
            try simp only [Act.put, List.setIfInBounds_toArray, List.set_cons_zero, List.set_cons_succ]
            refine wpAnyH_take (i := 9) (oi := { dst := some 91, op := Go.Op.pick (Go.Operand.tmp 83) (Go.Operand.tmp 90) (Go.Operand.const (Go.Value.bool false)), type := 4, pos := "more.go:36", after := #[{ on := 1, ground := Go.Ground.data }, { on := 8, ground := Go.Ground.data }], guard := none }) (v := ?v169) rfl (by kernel_rfl) (by kernel_rfl) (by kernel_rfl) (fun _ _ _ h => h) (Or.inl ⟨by rfl, ?hy169⟩) (by assumption) ?rest169
            case hy169 => (intro w hSw; (try dsimp only at hSw); have ea0 := hSw.cell a0 id; have ea1 := hSw.cell a1 id; have ea2 := hSw.cell a2 id; have ea3 := hSw.cell a3 id; have ed0 := hSw.cell d0 id; have ed1 := hSw.cell d1 id; have ed2 := hSw.cell d2 id; have ed3 := hSw.cell d3 id; have ecxb_1 := hSw.cell cxb_1 id; go_simp <;> with_reducible rfl)
            try simp only [Act.put, List.setIfInBounds_toArray, List.set_cons_zero, List.set_cons_succ]
            refine wpAnyH_take (i := 10) (oi := { dst := some 92, op := Go.Op.move (Go.Operand.tmp 91), type := 4, pos := "more.go:36", after := #[{ on := 9, ground := Go.Ground.data }, { on := 1, ground := Go.Ground.chain }], guard := none }) (v := ?v170) rfl (by kernel_rfl) (by kernel_rfl) (by kernel_rfl) (fun _ _ _ h => h) (Or.inl ⟨by rfl, ?hy170⟩) (by assumption) ?rest170
            case hy170 => (intro w hSw; (try dsimp only at hSw); have ea0 := hSw.cell a0 id; have ea1 := hSw.cell a1 id; have ea2 := hSw.cell a2 id; have ea3 := hSw.cell a3 id; have ed0 := hSw.cell d0 id; have ed1 := hSw.cell d1 id; have ed2 := hSw.cell d2 id; have ed3 := hSw.cell d3 id; have ecxb_1 := hSw.cell cxb_1 id; go_simp <;> with_reducible rfl)
            try simp only [Act.put, List.setIfInBounds_toArray, List.set_cons_zero, List.set_cons_succ]
            refine wpAnyH_take (i := 11) (oi := { dst := some 93, op := Go.Op.move (Go.Operand.tmp 4), type := 23, pos := "more.go:36", after := #[{ on := 10, ground := Go.Ground.guard }], guard := some (10, true) }) (v := ?v171) rfl (by kernel_rfl) (by kernel_rfl) (by kernel_rfl) (fun _ _ _ h => h) (Or.inl ⟨by rfl, ?hy171⟩) (by assumption) ?rest171
            case hy171 => (intro w hSw; (try dsimp only at hSw); have ea0 := hSw.cell a0 id; have ea1 := hSw.cell a1 id; have ea2 := hSw.cell a2 id; have ea3 := hSw.cell a3 id; have ed0 := hSw.cell d0 id; have ed1 := hSw.cell d1 id; have ed2 := hSw.cell d2 id; have ed3 := hSw.cell d3 id; have ecxb_1 := hSw.cell cxb_1 id; go_simp <;> with_reducible rfl)
            try simp only [Act.put, List.setIfInBounds_toArray, List.set_cons_zero, List.set_cons_succ]
            refine wpAnyH_take (i := 12) (oi := { dst := some 94, op := Go.Op.indexAddr 23 (Go.Operand.tmp 93) (Go.Operand.const (Go.Value.int Go.IntKind.i64 0)), type := 0, pos := "more.go:36", after := #[{ on := 11, ground := Go.Ground.data }, { on := 10, ground := Go.Ground.guard }], guard := some (10, true) }) (v := ?v172) rfl (by kernel_rfl) (by kernel_rfl) (by kernel_rfl) (fun _ _ _ h => h) (Or.inl ⟨by rfl, ?hy172⟩) (by assumption) ?rest172
            case hy172 => (intro w hSw; (try dsimp only at hSw); have ea0 := hSw.cell a0 id; have ea1 := hSw.cell a1 id; have ea2 := hSw.cell a2 id; have ea3 := hSw.cell a3 id; have ed0 := hSw.cell d0 id; have ed1 := hSw.cell d1 id; have ed2 := hSw.cell d2 id; have ed3 := hSw.cell d3 id; have ecxb_1 := hSw.cell cxb_1 id; go_simp <;> with_reducible rfl)
            try simp only [Act.put, List.setIfInBounds_toArray, List.set_cons_zero, List.set_cons_succ]
            refine wpAnyH_take (i := 13) (oi := { dst := some 95, op := Go.Op.load 5 (Go.Operand.tmp 94), type := 5, pos := "more.go:36", after := #[{ on := 12, ground := Go.Ground.data }, { on := 10, ground := Go.Ground.guard }], guard := some (10, true) }) (v := ?v173) rfl (by kernel_rfl) (by kernel_rfl) (by kernel_rfl) (fun _ _ _ h => h) (Or.inl ⟨by rfl, ?hy173⟩) (by assumption) ?rest173
            case hy173 => (intro w hSw; (try dsimp only at hSw); have ea0 := hSw.cell a0 id; have ea1 := hSw.cell a1 id; have ea2 := hSw.cell a2 id; have ea3 := hSw.cell a3 id; have ed0 := hSw.cell d0 id; have ed1 := hSw.cell d1 id; have ed2 := hSw.cell d2 id; have ed3 := hSw.cell d3 id; have ecxb_1 := hSw.cell cxb_1 id; go_simp <;> with_reducible rfl)
            try simp only [Act.put, List.setIfInBounds_toArray, List.set_cons_zero, List.set_cons_succ]
            refine wpAnyH_take (i := 14) (oi := { dst := some 96, op := Go.Op.binOp Go.BinOp.eql 5 (Go.Operand.tmp 95) (Go.Operand.const (Go.Value.int Go.IntKind.u8 8)) 5, type := 4, pos := "more.go:36", after := #[{ on := 13, ground := Go.Ground.data }, { on := 10, ground := Go.Ground.guard }], guard := some (10, true) }) (v := ?v174) rfl (by kernel_rfl) (by kernel_rfl) (by kernel_rfl) (fun _ _ _ h => h) (Or.inl ⟨by rfl, ?hy174⟩) (by assumption) ?rest174
            case hy174 => (intro w hSw; (try dsimp only at hSw); have ea0 := hSw.cell a0 id; have ea1 := hSw.cell a1 id; have ea2 := hSw.cell a2 id; have ea3 := hSw.cell a3 id; have ed0 := hSw.cell d0 id; have ed1 := hSw.cell d1 id; have ed2 := hSw.cell d2 id; have ed3 := hSw.cell d3 id; have ecxb_1 := hSw.cell cxb_1 id; go_simp <;> with_reducible rfl)
            try simp only [Act.put, List.setIfInBounds_toArray, List.set_cons_zero, List.set_cons_succ]
            refine wpAnyH_take (i := 15) (oi := { dst := some 97, op := Go.Op.pick (Go.Operand.tmp 92) (Go.Operand.tmp 96) (Go.Operand.const (Go.Value.bool false)), type := 4, pos := "more.go:36", after := #[{ on := 10, ground := Go.Ground.data }, { on := 14, ground := Go.Ground.data }], guard := none }) (v := ?v175) rfl (by kernel_rfl) (by kernel_rfl) (by kernel_rfl) (fun _ _ _ h => h) (Or.inl ⟨by rfl, ?hy175⟩) (by assumption) ?rest175
            case hy175 => (intro w hSw; (try dsimp only at hSw); have ea0 := hSw.cell a0 id; have ea1 := hSw.cell a1 id; have ea2 := hSw.cell a2 id; have ea3 := hSw.cell a3 id; have ed0 := hSw.cell d0 id; have ed1 := hSw.cell d1 id; have ed2 := hSw.cell d2 id; have ed3 := hSw.cell d3 id; have ecxb_1 := hSw.cell cxb_1 id; go_simp <;> with_reducible rfl)
            try simp only [Act.put, List.setIfInBounds_toArray, List.set_cons_zero, List.set_cons_succ]
            refine wpAnyH_take (i := 16) (oi := { dst := some 98, op := Go.Op.move (Go.Operand.tmp 97), type := 4, pos := "more.go:36", after := #[{ on := 15, ground := Go.Ground.data }, { on := 10, ground := Go.Ground.chain }], guard := none }) (v := ?v176) rfl (by kernel_rfl) (by kernel_rfl) (by kernel_rfl) (fun _ _ _ h => h) (Or.inl ⟨by rfl, ?hy176⟩) (by assumption) ?rest176
            case hy176 => (intro w hSw; (try dsimp only at hSw); have ea0 := hSw.cell a0 id; have ea1 := hSw.cell a1 id; have ea2 := hSw.cell a2 id; have ea3 := hSw.cell a3 id; have ed0 := hSw.cell d0 id; have ed1 := hSw.cell d1 id; have ed2 := hSw.cell d2 id; have ed3 := hSw.cell d3 id; have ecxb_1 := hSw.cell cxb_1 id; go_simp <;> with_reducible rfl)
            try simp only [Act.put, List.setIfInBounds_toArray, List.set_cons_zero, List.set_cons_succ]
            refine wpAnyH_take (i := 17) (oi := { dst := some 99, op := Go.Op.move (Go.Operand.tmp 5), type := 23, pos := "more.go:36", after := #[{ on := 16, ground := Go.Ground.guard }], guard := some (16, true) }) (v := ?v177) rfl (by kernel_rfl) (by kernel_rfl) (by kernel_rfl) (fun _ _ _ h => h) (Or.inl ⟨by rfl, ?hy177⟩) (by assumption) ?rest177
            case hy177 => (intro w hSw; (try dsimp only at hSw); have ea0 := hSw.cell a0 id; have ea1 := hSw.cell a1 id; have ea2 := hSw.cell a2 id; have ea3 := hSw.cell a3 id; have ed0 := hSw.cell d0 id; have ed1 := hSw.cell d1 id; have ed2 := hSw.cell d2 id; have ed3 := hSw.cell d3 id; have ecxb_1 := hSw.cell cxb_1 id; go_simp <;> with_reducible rfl)
            try simp only [Act.put, List.setIfInBounds_toArray, List.set_cons_zero, List.set_cons_succ]
            refine wpAnyH_take (i := 18) (oi := { dst := some 100, op := Go.Op.indexAddr 23 (Go.Operand.tmp 99) (Go.Operand.const (Go.Value.int Go.IntKind.i64 0)), type := 0, pos := "more.go:36", after := #[{ on := 17, ground := Go.Ground.data }, { on := 16, ground := Go.Ground.guard }], guard := some (16, true) }) (v := ?v178) rfl (by kernel_rfl) (by kernel_rfl) (by kernel_rfl) (fun _ _ _ h => h) (Or.inl ⟨by rfl, ?hy178⟩) (by assumption) ?rest178
            case hy178 => (intro w hSw; (try dsimp only at hSw); have ea0 := hSw.cell a0 id; have ea1 := hSw.cell a1 id; have ea2 := hSw.cell a2 id; have ea3 := hSw.cell a3 id; have ed0 := hSw.cell d0 id; have ed1 := hSw.cell d1 id; have ed2 := hSw.cell d2 id; have ed3 := hSw.cell d3 id; have ecxb_1 := hSw.cell cxb_1 id; go_simp <;> with_reducible rfl)
            try simp only [Act.put, List.setIfInBounds_toArray, List.set_cons_zero, List.set_cons_succ]
            refine wpAnyH_take (i := 19) (oi := { dst := some 101, op := Go.Op.load 5 (Go.Operand.tmp 100), type := 5, pos := "more.go:36", after := #[{ on := 18, ground := Go.Ground.data }, { on := 16, ground := Go.Ground.guard }], guard := some (16, true) }) (v := ?v179) rfl (by kernel_rfl) (by kernel_rfl) (by kernel_rfl) (fun _ _ _ h => h) (Or.inl ⟨by rfl, ?hy179⟩) (by assumption) ?rest179
            case hy179 => (intro w hSw; (try dsimp only at hSw); have ea0 := hSw.cell a0 id; have ea1 := hSw.cell a1 id; have ea2 := hSw.cell a2 id; have ea3 := hSw.cell a3 id; have ed0 := hSw.cell d0 id; have ed1 := hSw.cell d1 id; have ed2 := hSw.cell d2 id; have ed3 := hSw.cell d3 id; have ecxb_1 := hSw.cell cxb_1 id; go_simp <;> with_reducible rfl)
            try simp only [Act.put, List.setIfInBounds_toArray, List.set_cons_zero, List.set_cons_succ]
            refine wpAnyH_take (i := 20) (oi := { dst := some 102, op := Go.Op.binOp Go.BinOp.eql 5 (Go.Operand.tmp 101) (Go.Operand.const (Go.Value.int Go.IntKind.u8 0)) 5, type := 4, pos := "more.go:36", after := #[{ on := 19, ground := Go.Ground.data }, { on := 16, ground := Go.Ground.guard }], guard := some (16, true) }) (v := ?v180) rfl (by kernel_rfl) (by kernel_rfl) (by kernel_rfl) (fun _ _ _ h => h) (Or.inl ⟨by rfl, ?hy180⟩) (by assumption) ?rest180
            case hy180 => (intro w hSw; (try dsimp only at hSw); have ea0 := hSw.cell a0 id; have ea1 := hSw.cell a1 id; have ea2 := hSw.cell a2 id; have ea3 := hSw.cell a3 id; have ed0 := hSw.cell d0 id; have ed1 := hSw.cell d1 id; have ed2 := hSw.cell d2 id; have ed3 := hSw.cell d3 id; have ecxb_1 := hSw.cell cxb_1 id; go_simp <;> with_reducible rfl)
            try simp only [Act.put, List.setIfInBounds_toArray, List.set_cons_zero, List.set_cons_succ]
            refine wpAnyH_take (i := 21) (oi := { dst := some 103, op := Go.Op.pick (Go.Operand.tmp 98) (Go.Operand.tmp 102) (Go.Operand.const (Go.Value.bool false)), type := 4, pos := "more.go:36", after := #[{ on := 16, ground := Go.Ground.data }, { on := 20, ground := Go.Ground.data }], guard := none }) (v := ?v181) rfl (by kernel_rfl) (by kernel_rfl) (by kernel_rfl) (fun _ _ _ h => h) (Or.inl ⟨by rfl, ?hy181⟩) (by assumption) ?rest181
            case hy181 => (intro w hSw; (try dsimp only at hSw); have ea0 := hSw.cell a0 id; have ea1 := hSw.cell a1 id; have ea2 := hSw.cell a2 id; have ea3 := hSw.cell a3 id; have ed0 := hSw.cell d0 id; have ed1 := hSw.cell d1 id; have ed2 := hSw.cell d2 id; have ed3 := hSw.cell d3 id; have ecxb_1 := hSw.cell cxb_1 id; go_simp <;> with_reducible rfl)
            try simp only [Act.put, List.setIfInBounds_toArray, List.set_cons_zero, List.set_cons_succ]
            refine wpAnyH_take (i := 22) (oi := { dst := some 104, op := Go.Op.move (Go.Operand.tmp 103), type := 4, pos := "more.go:36", after := #[{ on := 21, ground := Go.Ground.data }, { on := 16, ground := Go.Ground.chain }], guard := none }) (v := ?v182) rfl (by kernel_rfl) (by kernel_rfl) (by kernel_rfl) (fun _ _ _ h => h) (Or.inl ⟨by rfl, ?hy182⟩) (by assumption) ?rest182
            case hy182 => (intro w hSw; (try dsimp only at hSw); have ea0 := hSw.cell a0 id; have ea1 := hSw.cell a1 id; have ea2 := hSw.cell a2 id; have ea3 := hSw.cell a3 id; have ed0 := hSw.cell d0 id; have ed1 := hSw.cell d1 id; have ed2 := hSw.cell d2 id; have ed3 := hSw.cell d3 id; have ecxb_1 := hSw.cell cxb_1 id; go_simp <;> with_reducible rfl)
            try simp only [Act.put, List.setIfInBounds_toArray, List.set_cons_zero, List.set_cons_succ]
            refine wpAnyH_take (i := 23) (oi := { dst := some 105, op := Go.Op.move (Go.Operand.tmp 4), type := 23, pos := "more.go:36", after := #[{ on := 22, ground := Go.Ground.guard }], guard := some (22, true) }) (v := ?v183) rfl (by kernel_rfl) (by kernel_rfl) (by kernel_rfl) (fun _ _ _ h => h) (Or.inl ⟨by rfl, ?hy183⟩) (by assumption) ?rest183
            case hy183 => (intro w hSw; (try dsimp only at hSw); have ea0 := hSw.cell a0 id; have ea1 := hSw.cell a1 id; have ea2 := hSw.cell a2 id; have ea3 := hSw.cell a3 id; have ed0 := hSw.cell d0 id; have ed1 := hSw.cell d1 id; have ed2 := hSw.cell d2 id; have ed3 := hSw.cell d3 id; have ecxb_1 := hSw.cell cxb_1 id; go_simp <;> with_reducible rfl)
            try simp only [Act.put, List.setIfInBounds_toArray, List.set_cons_zero, List.set_cons_succ]
            refine wpAnyH_take (i := 24) (oi := { dst := some 106, op := Go.Op.indexAddr 23 (Go.Operand.tmp 105) (Go.Operand.const (Go.Value.int Go.IntKind.i64 1)), type := 0, pos := "more.go:36", after := #[{ on := 23, ground := Go.Ground.data }, { on := 22, ground := Go.Ground.guard }], guard := some (22, true) }) (v := ?v184) rfl (by kernel_rfl) (by kernel_rfl) (by kernel_rfl) (fun _ _ _ h => h) (Or.inl ⟨by rfl, ?hy184⟩) (by assumption) ?rest184
            case hy184 => (intro w hSw; (try dsimp only at hSw); have ea0 := hSw.cell a0 id; have ea1 := hSw.cell a1 id; have ea2 := hSw.cell a2 id; have ea3 := hSw.cell a3 id; have ed0 := hSw.cell d0 id; have ed1 := hSw.cell d1 id; have ed2 := hSw.cell d2 id; have ed3 := hSw.cell d3 id; have ecxb_1 := hSw.cell cxb_1 id; go_simp <;> with_reducible rfl)
            try simp only [Act.put, List.setIfInBounds_toArray, List.set_cons_zero, List.set_cons_succ]
            refine wpAnyH_take (i := 25) (oi := { dst := some 107, op := Go.Op.load 5 (Go.Operand.tmp 106), type := 5, pos := "more.go:36", after := #[{ on := 24, ground := Go.Ground.data }, { on := 22, ground := Go.Ground.guard }], guard := some (22, true) }) (v := ?v185) rfl (by kernel_rfl) (by kernel_rfl) (by kernel_rfl) (fun _ _ _ h => h) (Or.inl ⟨by rfl, ?hy185⟩) (by assumption) ?rest185
            case hy185 => (intro w hSw; (try dsimp only at hSw); have ea0 := hSw.cell a0 id; have ea1 := hSw.cell a1 id; have ea2 := hSw.cell a2 id; have ea3 := hSw.cell a3 id; have ed0 := hSw.cell d0 id; have ed1 := hSw.cell d1 id; have ed2 := hSw.cell d2 id; have ed3 := hSw.cell d3 id; have ecxb_1 := hSw.cell cxb_1 id; go_simp <;> with_reducible rfl)
            try simp only [Act.put, List.setIfInBounds_toArray, List.set_cons_zero, List.set_cons_succ]
            refine wpAnyH_take (i := 26) (oi := { dst := some 108, op := Go.Op.move (Go.Operand.tmp 5), type := 23, pos := "more.go:36", after := #[{ on := 22, ground := Go.Ground.guard }], guard := some (22, true) }) (v := ?v186) rfl (by kernel_rfl) (by kernel_rfl) (by kernel_rfl) (fun _ _ _ h => h) (Or.inl ⟨by rfl, ?hy186⟩) (by assumption) ?rest186
            case hy186 => (intro w hSw; (try dsimp only at hSw); have ea0 := hSw.cell a0 id; have ea1 := hSw.cell a1 id; have ea2 := hSw.cell a2 id; have ea3 := hSw.cell a3 id; have ed0 := hSw.cell d0 id; have ed1 := hSw.cell d1 id; have ed2 := hSw.cell d2 id; have ed3 := hSw.cell d3 id; have ecxb_1 := hSw.cell cxb_1 id; go_simp <;> with_reducible rfl)
            try simp only [Act.put, List.setIfInBounds_toArray, List.set_cons_zero, List.set_cons_succ]
            refine wpAnyH_take (i := 27) (oi := { dst := some 109, op := Go.Op.indexAddr 23 (Go.Operand.tmp 108) (Go.Operand.const (Go.Value.int Go.IntKind.i64 1)), type := 0, pos := "more.go:36", after := #[{ on := 26, ground := Go.Ground.data }, { on := 22, ground := Go.Ground.guard }], guard := some (22, true) }) (v := ?v187) rfl (by kernel_rfl) (by kernel_rfl) (by kernel_rfl) (fun _ _ _ h => h) (Or.inl ⟨by rfl, ?hy187⟩) (by assumption) ?rest187
            case hy187 => (intro w hSw; (try dsimp only at hSw); have ea0 := hSw.cell a0 id; have ea1 := hSw.cell a1 id; have ea2 := hSw.cell a2 id; have ea3 := hSw.cell a3 id; have ed0 := hSw.cell d0 id; have ed1 := hSw.cell d1 id; have ed2 := hSw.cell d2 id; have ed3 := hSw.cell d3 id; have ecxb_1 := hSw.cell cxb_1 id; go_simp <;> with_reducible rfl)
            try simp only [Act.put, List.setIfInBounds_toArray, List.set_cons_zero, List.set_cons_succ]
            refine wpAnyH_take (i := 28) (oi := { dst := some 110, op := Go.Op.load 5 (Go.Operand.tmp 109), type := 5, pos := "more.go:36", after := #[{ on := 27, ground := Go.Ground.data }, { on := 22, ground := Go.Ground.guard }], guard := some (22, true) }) (v := ?v188) rfl (by kernel_rfl) (by kernel_rfl) (by kernel_rfl) (fun _ _ _ h => h) (Or.inl ⟨by rfl, ?hy188⟩) (by assumption) ?rest188
            case hy188 => (intro w hSw; (try dsimp only at hSw); have ea0 := hSw.cell a0 id; have ea1 := hSw.cell a1 id; have ea2 := hSw.cell a2 id; have ea3 := hSw.cell a3 id; have ed0 := hSw.cell d0 id; have ed1 := hSw.cell d1 id; have ed2 := hSw.cell d2 id; have ed3 := hSw.cell d3 id; have ecxb_1 := hSw.cell cxb_1 id; go_simp <;> with_reducible rfl)
            try simp only [Act.put, List.setIfInBounds_toArray, List.set_cons_zero, List.set_cons_succ]
            refine wpAnyH_take (i := 29) (oi := { dst := some 111, op := Go.Op.binOp Go.BinOp.eql 5 (Go.Operand.tmp 107) (Go.Operand.tmp 110) 5, type := 4, pos := "more.go:36", after := #[{ on := 25, ground := Go.Ground.data }, { on := 28, ground := Go.Ground.data }, { on := 22, ground := Go.Ground.guard }], guard := some (22, true) }) (v := ?v189) rfl (by kernel_rfl) (by kernel_rfl) (by kernel_rfl) (fun _ _ _ h => h) (Or.inl ⟨by rfl, ?hy189⟩) (by assumption) ?rest189
            case hy189 => (intro w hSw; (try dsimp only at hSw); have ea0 := hSw.cell a0 id; have ea1 := hSw.cell a1 id; have ea2 := hSw.cell a2 id; have ea3 := hSw.cell a3 id; have ed0 := hSw.cell d0 id; have ed1 := hSw.cell d1 id; have ed2 := hSw.cell d2 id; have ed3 := hSw.cell d3 id; have ecxb_1 := hSw.cell cxb_1 id; go_simp <;> with_reducible rfl)
            try simp only [Act.put, List.setIfInBounds_toArray, List.set_cons_zero, List.set_cons_succ]
            refine wpAnyH_take (i := 30) (oi := { dst := some 112, op := Go.Op.pick (Go.Operand.tmp 104) (Go.Operand.tmp 111) (Go.Operand.const (Go.Value.bool false)), type := 4, pos := "more.go:36", after := #[{ on := 22, ground := Go.Ground.data }, { on := 29, ground := Go.Ground.data }], guard := none }) (v := ?v190) rfl (by kernel_rfl) (by kernel_rfl) (by kernel_rfl) (fun _ _ _ h => h) (Or.inl ⟨by rfl, ?hy190⟩) (by assumption) ?rest190
            case hy190 => (intro w hSw; (try dsimp only at hSw); have ea0 := hSw.cell a0 id; have ea1 := hSw.cell a1 id; have ea2 := hSw.cell a2 id; have ea3 := hSw.cell a3 id; have ed0 := hSw.cell d0 id; have ed1 := hSw.cell d1 id; have ed2 := hSw.cell d2 id; have ed3 := hSw.cell d3 id; have ecxb_1 := hSw.cell cxb_1 id; go_simp <;> with_reducible rfl)
            try simp only [Act.put, List.setIfInBounds_toArray, List.set_cons_zero, List.set_cons_succ]
            refine wpAnyH_take (i := 31) (oi := { dst := some 113, op := Go.Op.move (Go.Operand.tmp 112), type := 4, pos := "more.go:36", after := #[{ on := 30, ground := Go.Ground.data }, { on := 22, ground := Go.Ground.chain }], guard := none }) (v := ?v191) rfl (by kernel_rfl) (by kernel_rfl) (by kernel_rfl) (fun _ _ _ h => h) (Or.inl ⟨by rfl, ?hy191⟩) (by assumption) ?rest191
            case hy191 => (intro w hSw; (try dsimp only at hSw); have ea0 := hSw.cell a0 id; have ea1 := hSw.cell a1 id; have ea2 := hSw.cell a2 id; have ea3 := hSw.cell a3 id; have ed0 := hSw.cell d0 id; have ed1 := hSw.cell d1 id; have ed2 := hSw.cell d2 id; have ed3 := hSw.cell d3 id; have ecxb_1 := hSw.cell cxb_1 id; go_simp <;> with_reducible rfl)
            try simp only [Act.put, List.setIfInBounds_toArray, List.set_cons_zero, List.set_cons_succ]
            refine wpAnyH_take (i := 32) (oi := { dst := some 114, op := Go.Op.move (Go.Operand.tmp 9), type := 4, pos := "more.go:36", after := #[{ on := 31, ground := Go.Ground.guard }], guard := some (31, true) }) (v := ?v192) rfl (by kernel_rfl) (by kernel_rfl) (by kernel_rfl) (fun _ _ _ h => h) (Or.inl ⟨by rfl, ?hy192⟩) (by assumption) ?rest192
            case hy192 => (intro w hSw; (try dsimp only at hSw); have ea0 := hSw.cell a0 id; have ea1 := hSw.cell a1 id; have ea2 := hSw.cell a2 id; have ea3 := hSw.cell a3 id; have ed0 := hSw.cell d0 id; have ed1 := hSw.cell d1 id; have ed2 := hSw.cell d2 id; have ed3 := hSw.cell d3 id; have ecxb_1 := hSw.cell cxb_1 id; go_simp <;> with_reducible rfl)
            try simp only [Act.put, List.setIfInBounds_toArray, List.set_cons_zero, List.set_cons_succ]
            refine wpAnyH_take (i := 33) (oi := { dst := some 115, op := Go.Op.unOp Go.UnOp.not 4 (Go.Operand.tmp 114), type := 4, pos := "more.go:36", after := #[{ on := 32, ground := Go.Ground.data }, { on := 31, ground := Go.Ground.guard }], guard := some (31, true) }) (v := ?v193) rfl (by kernel_rfl) (by kernel_rfl) (by kernel_rfl) (fun _ _ _ h => h) (Or.inl ⟨by rfl, ?hy193⟩) (by assumption) ?rest193
            case hy193 => (intro w hSw; (try dsimp only at hSw); have ea0 := hSw.cell a0 id; have ea1 := hSw.cell a1 id; have ea2 := hSw.cell a2 id; have ea3 := hSw.cell a3 id; have ed0 := hSw.cell d0 id; have ed1 := hSw.cell d1 id; have ed2 := hSw.cell d2 id; have ed3 := hSw.cell d3 id; have ecxb_1 := hSw.cell cxb_1 id; go_simp <;> with_reducible rfl)
            try simp only [Act.put, List.setIfInBounds_toArray, List.set_cons_zero, List.set_cons_succ]
            refine wpAnyH_take (i := 34) (oi := { dst := some 116, op := Go.Op.move (Go.Operand.tmp 115), type := 4, pos := "more.go:36", after := #[{ on := 33, ground := Go.Ground.data }, { on := 31, ground := Go.Ground.chain }, { on := 31, ground := Go.Ground.guard }], guard := some (31, true) }) (v := ?v194) rfl (by kernel_rfl) (by kernel_rfl) (by kernel_rfl) (fun _ _ _ h => h) (Or.inl ⟨by rfl, ?hy194⟩) (by assumption) ?rest194
            case hy194 => (intro w hSw; (try dsimp only at hSw); have ea0 := hSw.cell a0 id; have ea1 := hSw.cell a1 id; have ea2 := hSw.cell a2 id; have ea3 := hSw.cell a3 id; have ed0 := hSw.cell d0 id; have ed1 := hSw.cell d1 id; have ed2 := hSw.cell d2 id; have ed3 := hSw.cell d3 id; have ecxb_1 := hSw.cell cxb_1 id; go_simp <;> with_reducible rfl)
            try simp only [Act.put, List.setIfInBounds_toArray, List.set_cons_zero, List.set_cons_succ]
            refine wpAnyH_take (i := 35) (oi := { dst := some 117, op := Go.Op.move (Go.Operand.tmp 6), type := 32, pos := "more.go:36", after := #[{ on := 34, ground := Go.Ground.guard }], guard := some (34, false) }) (v := ?v195) rfl (by kernel_rfl) (by kernel_rfl) (by kernel_rfl) (fun _ _ _ h => h) (Or.inl ⟨by rfl, ?hy195⟩) (by assumption) ?rest195
            case hy195 => (intro w hSw; (try dsimp only at hSw); have ea0 := hSw.cell a0 id; have ea1 := hSw.cell a1 id; have ea2 := hSw.cell a2 id; have ea3 := hSw.cell a3 id; have ed0 := hSw.cell d0 id; have ed1 := hSw.cell d1 id; have ed2 := hSw.cell d2 id; have ed3 := hSw.cell d3 id; have ecxb_1 := hSw.cell cxb_1 id; go_simp <;> with_reducible rfl)
            try simp only [Act.put, List.setIfInBounds_toArray, List.set_cons_zero, List.set_cons_succ]
            refine wpAnyH_take (i := 36) (oi := { dst := some 118, op := Go.Op.move (Go.Operand.tmp 8), type := 32, pos := "more.go:36", after := #[{ on := 34, ground := Go.Ground.guard }], guard := some (34, false) }) (v := ?v196) rfl (by kernel_rfl) (by kernel_rfl) (by kernel_rfl) (fun _ _ _ h => h) (Or.inl ⟨by rfl, ?hy196⟩) (by assumption) ?rest196
            case hy196 => (intro w hSw; (try dsimp only at hSw); have ea0 := hSw.cell a0 id; have ea1 := hSw.cell a1 id; have ea2 := hSw.cell a2 id; have ea3 := hSw.cell a3 id; have ed0 := hSw.cell d0 id; have ed1 := hSw.cell d1 id; have ed2 := hSw.cell d2 id; have ed3 := hSw.cell d3 id; have ecxb_1 := hSw.cell cxb_1 id; go_simp <;> with_reducible rfl)
            try simp only [Act.put, List.setIfInBounds_toArray, List.set_cons_zero, List.set_cons_succ]
            refine wpAnyH_take (i := 37) (oi := { dst := some 119, op := Go.Op.fieldAddr 25 (Go.Operand.tmp 1) 1, type := 0, pos := "more.go:36", after := #[{ on := 34, ground := Go.Ground.guard }], guard := some (34, false) }) (v := ?v197) rfl (by kernel_rfl) (by kernel_rfl) (by kernel_rfl) (fun _ _ _ h => h) (Or.inl ⟨by rfl, ?hy197⟩) (by assumption) ?rest197
            case hy197 => (intro w hSw; (try dsimp only at hSw); have ea0 := hSw.cell a0 id; have ea1 := hSw.cell a1 id; have ea2 := hSw.cell a2 id; have ea3 := hSw.cell a3 id; have ed0 := hSw.cell d0 id; have ed1 := hSw.cell d1 id; have ed2 := hSw.cell d2 id; have ed3 := hSw.cell d3 id; have ecxb_1 := hSw.cell cxb_1 id; go_simp <;> with_reducible rfl)
            try simp only [Act.put, List.setIfInBounds_toArray, List.set_cons_zero, List.set_cons_succ]
            refine wpAnyH_take (i := 38) (oi := { dst := some 120, op := Go.Op.load 5 (Go.Operand.tmp 119), type := 5, pos := "more.go:36", after := #[{ on := 37, ground := Go.Ground.data }, { on := 34, ground := Go.Ground.guard }], guard := some (34, false) }) (v := ?v198) rfl (by kernel_rfl) (by kernel_rfl) (by kernel_rfl) (fun _ _ _ h => h) (Or.inl ⟨by rfl, ?hy198⟩) (by assumption) ?rest198
            case hy198 => (intro w hSw; (try dsimp only at hSw); have ea0 := hSw.cell a0 id; have ea1 := hSw.cell a1 id; have ea2 := hSw.cell a2 id; have ea3 := hSw.cell a3 id; have ed0 := hSw.cell d0 id; have ed1 := hSw.cell d1 id; have ed2 := hSw.cell d2 id; have ed3 := hSw.cell d3 id; have ecxb_1 := hSw.cell cxb_1 id; go_simp <;> with_reducible rfl)
            try simp only [Act.put, List.setIfInBounds_toArray, List.set_cons_zero, List.set_cons_succ]
            refine wpAnyH_take (i := 39) (oi := { dst := some 121, op := Go.Op.convert 5 32 (Go.Operand.tmp 120), type := 32, pos := "more.go:36", after := #[{ on := 38, ground := Go.Ground.data }, { on := 34, ground := Go.Ground.guard }], guard := some (34, false) }) (v := ?v199) rfl (by kernel_rfl) (by kernel_rfl) (by kernel_rfl) (fun _ _ _ h => h) (Or.inl ⟨by rfl, ?hy199⟩) (by assumption) ?rest199
            case hy199 => (intro w hSw; (try dsimp only at hSw); have ea0 := hSw.cell a0 id; have ea1 := hSw.cell a1 id; have ea2 := hSw.cell a2 id; have ea3 := hSw.cell a3 id; have ed0 := hSw.cell d0 id; have ed1 := hSw.cell d1 id; have ed2 := hSw.cell d2 id; have ed3 := hSw.cell d3 id; have ecxb_1 := hSw.cell cxb_1 id; go_simp <;> with_reducible rfl)
            try simp only [Act.put, List.setIfInBounds_toArray, List.set_cons_zero, List.set_cons_succ]
            refine wpAnyH_take (i := 41) (oi := { dst := some 123, op := Go.Op.move (Go.Operand.tmp 7), type := 32, pos := "more.go:36", after := #[{ on := 34, ground := Go.Ground.guard }], guard := some (34, false) }) (v := ?v200) rfl (by kernel_rfl) (by kernel_rfl) (by kernel_rfl) (fun _ _ _ h => h) (Or.inl ⟨by rfl, ?hy200⟩) (by assumption) ?rest200
            case hy200 => (intro w hSw; (try dsimp only at hSw); have ea0 := hSw.cell a0 id; have ea1 := hSw.cell a1 id; have ea2 := hSw.cell a2 id; have ea3 := hSw.cell a3 id; have ed0 := hSw.cell d0 id; have ed1 := hSw.cell d1 id; have ed2 := hSw.cell d2 id; have ed3 := hSw.cell d3 id; have ecxb_1 := hSw.cell cxb_1 id; go_simp <;> with_reducible rfl)
            try simp only [Act.put, List.setIfInBounds_toArray, List.set_cons_zero, List.set_cons_succ]
            refine wpAnyH_ready (rs := [40]) (by kernel_rfl) (by simp) ?_
            refine AllReadyH.cons (o := { dst := some 122, op := Go.Op.call { callee := Go.Callee.value (Go.Operand.func 12), args := #[Go.Operand.tmp 117, Go.Operand.tmp 118, Go.Operand.tmp 121], argTypes := #[32, 32, 32] }, type := 32, pos := "more.go:36", after := #[{ on := 35, ground := Go.Ground.data }, { on := 36, ground := Go.Ground.data }, { on := 39, ground := Go.Ground.data }, { on := 34, ground := Go.Ground.chain }, { on := 34, ground := Go.Ground.guard }], guard := some (34, false) }) rfl (fun K hK => ?_) AllReadyH.nil
            go_simp
            refine (update_int (s8 : Int) (2048 + (cn : Int)) (cn : Int) (by omega) (by omega) (by omega) _).mono ?_
            rintro e we ⟨rfl, hwe⟩
            have hS1 : Ex (fun _ => False) wr we := by rw [← hwe]; exact hS0
            rw [show ((2048 : Int) + (cn : Int)).toNat = 2048 + cn by omega, Int.toNat_natCast, Int.toNat_natCast, HU.out]
            refine hK.out _ _ hS1 (fun _ => ?_)
            refine wpAnyH_take (i := 42) (oi := { dst := some 124, op := Go.Op.binOp Go.BinOp.eql 32 (Go.Operand.tmp 122) (Go.Operand.tmp 123) 32, type := 4, pos := "more.go:36", after := #[{ on := 40, ground := Go.Ground.data }, { on := 41, ground := Go.Ground.data }, { on := 34, ground := Go.Ground.guard }], guard := some (34, false) }) (v := ?v201) rfl (by kernel_rfl) (by kernel_rfl) (by kernel_rfl) (fun _ _ _ h => h) (Or.inl ⟨by rfl, ?hy201⟩) (by assumption) ?rest201
            case hy201 => (intro w hSw; (try dsimp only at hSw); have ea0 := hSw.cell a0 id; have ea1 := hSw.cell a1 id; have ea2 := hSw.cell a2 id; have ea3 := hSw.cell a3 id; have ed0 := hSw.cell d0 id; have ed1 := hSw.cell d1 id; have ed2 := hSw.cell d2 id; have ed3 := hSw.cell d3 id; have ecxb_1 := hSw.cell cxb_1 id; go_simp <;> with_reducible rfl)
            try simp only [Act.put, List.setIfInBounds_toArray, List.set_cons_zero, List.set_cons_succ]
            refine wpAnyH_take (i := 43) (oi := { dst := some 125, op := Go.Op.pick (Go.Operand.tmp 116) (Go.Operand.const (Go.Value.bool true)) (Go.Operand.tmp 124), type := 4, pos := "more.go:36", after := #[{ on := 34, ground := Go.Ground.data }, { on := 42, ground := Go.Ground.data }, { on := 31, ground := Go.Ground.guard }], guard := some (31, true) }) (v := ?v202) rfl (by kernel_rfl) (by kernel_rfl) (by kernel_rfl) (fun _ _ _ h => h) (Or.inl ⟨by rfl, ?hy202⟩) (by assumption) ?rest202
            case hy202 => (intro w hSw; (try dsimp only at hSw); have ea0 := hSw.cell a0 id; have ea1 := hSw.cell a1 id; have ea2 := hSw.cell a2 id; have ea3 := hSw.cell a3 id; have ed0 := hSw.cell d0 id; have ed1 := hSw.cell d1 id; have ed2 := hSw.cell d2 id; have ed3 := hSw.cell d3 id; have ecxb_1 := hSw.cell cxb_1 id; go_simp <;> with_reducible rfl)
            try simp only [Act.put, List.setIfInBounds_toArray, List.set_cons_zero, List.set_cons_succ]
            refine wpAnyH_take (i := 44) (oi := { dst := some 126, op := Go.Op.pick (Go.Operand.tmp 113) (Go.Operand.tmp 125) (Go.Operand.const (Go.Value.bool false)), type := 4, pos := "more.go:36", after := #[{ on := 31, ground := Go.Ground.data }, { on := 43, ground := Go.Ground.data }], guard := none }) (v := ?v203) rfl (by kernel_rfl) (by kernel_rfl) (by kernel_rfl) (fun _ _ _ h => h) (Or.inl ⟨by rfl, ?hy203⟩) (by assumption) ?rest203
            case hy203 => (intro w hSw; (try dsimp only at hSw); have ea0 := hSw.cell a0 id; have ea1 := hSw.cell a1 id; have ea2 := hSw.cell a2 id; have ea3 := hSw.cell a3 id; have ed0 := hSw.cell d0 id; have ed1 := hSw.cell d1 id; have ed2 := hSw.cell d2 id; have ed3 := hSw.cell d3 id; have ecxb_1 := hSw.cell cxb_1 id; go_simp <;> with_reducible rfl)
            try simp only [Act.put, List.setIfInBounds_toArray, List.set_cons_zero, List.set_cons_succ]
            refine wpAnyH_take (i := 45) (oi := { dst := some 2, op := Go.Op.assign (Go.Operand.tmp 126), type := 4, pos := "more.go:36", after := #[{ on := 44, ground := Go.Ground.data }, { on := 40, ground := Go.Ground.chain }, { on := 0, ground := Go.Ground.phase }, { on := 1, ground := Go.Ground.phase }, { on := 2, ground := Go.Ground.phase }, { on := 3, ground := Go.Ground.phase }, { on := 4, ground := Go.Ground.phase }, { on := 5, ground := Go.Ground.phase }, { on := 6, ground := Go.Ground.phase }, { on := 7, ground := Go.Ground.phase }, { on := 8, ground := Go.Ground.phase }, { on := 9, ground := Go.Ground.phase }, { on := 10, ground := Go.Ground.phase }, { on := 11, ground := Go.Ground.phase }, { on := 12, ground := Go.Ground.phase }, { on := 13, ground := Go.Ground.phase }, { on := 14, ground := Go.Ground.phase }, { on := 15, ground := Go.Ground.phase }, { on := 16, ground := Go.Ground.phase }, { on := 17, ground := Go.Ground.phase }, { on := 18, ground := Go.Ground.phase }, { on := 19, ground := Go.Ground.phase }, { on := 20, ground := Go.Ground.phase }, { on := 21, ground := Go.Ground.phase }, { on := 22, ground := Go.Ground.phase }, { on := 23, ground := Go.Ground.phase }, { on := 24, ground := Go.Ground.phase }, { on := 25, ground := Go.Ground.phase }, { on := 26, ground := Go.Ground.phase }, { on := 27, ground := Go.Ground.phase }, { on := 28, ground := Go.Ground.phase }, { on := 29, ground := Go.Ground.phase }, { on := 30, ground := Go.Ground.phase }, { on := 31, ground := Go.Ground.phase }, { on := 32, ground := Go.Ground.phase }, { on := 33, ground := Go.Ground.phase }, { on := 34, ground := Go.Ground.phase }, { on := 35, ground := Go.Ground.phase }, { on := 36, ground := Go.Ground.phase }, { on := 37, ground := Go.Ground.phase }, { on := 38, ground := Go.Ground.phase }, { on := 39, ground := Go.Ground.phase }, { on := 40, ground := Go.Ground.phase }, { on := 41, ground := Go.Ground.phase }, { on := 42, ground := Go.Ground.phase }, { on := 43, ground := Go.Ground.phase }, { on := 44, ground := Go.Ground.phase }], guard := none }) (v := ?v204) rfl (by kernel_rfl) (by kernel_rfl) (by kernel_rfl) (fun _ _ _ h => h) (Or.inl ⟨by rfl, ?hy204⟩) (by assumption) ?rest204
            case hy204 => (intro w hSw; (try dsimp only at hSw); have ea0 := hSw.cell a0 id; have ea1 := hSw.cell a1 id; have ea2 := hSw.cell a2 id; have ea3 := hSw.cell a3 id; have ed0 := hSw.cell d0 id; have ed1 := hSw.cell d1 id; have ed2 := hSw.cell d2 id; have ed3 := hSw.cell d3 id; have ecxb_1 := hSw.cell cxb_1 id; go_simp <;> with_reducible rfl)
            try simp only [Act.put, List.setIfInBounds_toArray, List.set_cons_zero, List.set_cons_succ]
            refine wpAnyH_done (by kernel_rfl) ?_ _
            have hx := hS1
            clear hS0 hS1
            have HX_we := Lib.hid hx
            clear hx
            go_wp2_with fail
            go_ret
            exact ⟨rfl, ((((((((((HX_w1.out.trans HX_w2.out).andThen HX_w3.out (fun i hi e => by have := hb_xb_; omega)).andThen HX_w4.out (fun i hi e => by have := hb_xb_; omega)).trans HX_w5.out).andThen HX_w6.out (fun i hi e => by have := hb_xb_; omega)).trans HX_w7.out).trans HX_w8.out).trans HX_w9.out).trans hxl.out).trans HX_we.out)⟩
  ·
    have hz1 : ((cn : Int) != 0) = true := by rw [bne_iff_ne]; omega
    have HSM : Hid ((cn : Int) ≠ 0 ∨ xrest ≠ 0 ∨ ¬ ∀ x ∈ xl, x = 0) := Lib.hid (.inl (by omega))
    clear hc0n
    go_wp2_with fail
    clear cxb_1 cxb_2
    have hx0 := Lib.hid (Ex.refl (fun _ => False) w9)
    go_loopw [9, 10] (fun s i wl => ∃ (j : Nat) (sv : Bool), j ≤ xl.length ∧ i = .int .i64 (j : Int) ∧ s = .bool sv ∧ Hid (sv = true ↔ rsome true xl j) ∧ Hid (Ex (fun _ => False) w9 wl)) (fun _ i _ => xl.length - (intOf i).toNat)
    case atStart => exact ⟨0, true, by omega, rfl, rfl, Lib.hid (rsome_zero _ _), hx0⟩
    case round =>
      clear hx0
      obtain ⟨j, sv, hj, rfl, rfl, hsv, hxl⟩ := hrel
      have cxb_3 := row_cell (k := 3) (v := .slice A xl.length c) ((hxl.out.block xb_ (row_lt B_xb_.out) id).trans B_xb_.out) rfl
      by_cases dj : j < xl.length
      ·
        have hdj : (j : Int) < (xl.length : Int) := by omega
        obtain ⟨_, A', c', e', hcap, hcell⟩ := ((RB.keep HM.out (((((((((HX_w1.out.trans HX_w2.out).andThen HX_w3.out (fun i hi e => by have := hb_xb_; omega)).andThen HX_w4.out (fun i hi e => by have := hb_xb_; omega)).trans HX_w5.out).andThen HX_w6.out (fun i hi e => by have := hb_xb_; omega)).trans HX_w7.out).trans HX_w8.out).trans HX_w9.out).trans hxl.out) (fun _ _ _ => id)))
        injection e' with e1 e2 e3
        subst e1 e3
        obtain ⟨b, off, rfl, _, hc⟩ := hcell j dj
        clear hcell e2
        obtain ⟨x, hxj⟩ : ∃ x, x = xl[j] := ⟨_, rfl⟩
        rw [← hxj] at hc
        have hnx := rsome_next true (l := xl) dj
        rw [← hxj] at hnx
        have HNX := Lib.hid hnx
        clear hnx hxj
        cases sv
        ·
          by_cases hx0 : x = 0
          ·
            have hz : ((x.toNat : Int) != 0) = false := by rw [hx0]; rfl
            have HX0 := Lib.hid hx0
            clear hx0
            have HNW : Hid ((false : Bool) = true ↔ rsome true xl (j + 1)) := Lib.hid (by rw [HNX.out, ← hsv.out]; simp [HX0.out])
            go_wp2_with fail
            go_roundw
            case rel => exact ⟨j + 1, false, by omega, by go_num, rfl, HNW, hxl⟩
            case measure => simp [intOf]; omega
          ·
            have hz : ((x.toNat : Int) != 0) = true := by
              rw [bne_iff_ne]; intro h; exact hx0 (UInt8.toNat_inj.1 (by show x.toNat = 0; omega))
            have HX0 := Lib.hid hx0
            clear hx0
            have HNW : Hid ((true : Bool) = true ↔ rsome true xl (j + 1)) := Lib.hid (by rw [HNX.out, ← hsv.out]; simp [HX0.out])
            go_wp2_with fail
            go_roundw
            case rel => exact ⟨j + 1, true, by omega, by go_num, rfl, HNW, hxl⟩
            case measure => simp [intOf]; omega
        ·
          have HNW : Hid ((true : Bool) = true ↔ rsome true xl (j + 1)) := Lib.hid (by rw [HNX.out, ← hsv.out]; simp)
          go_wp2_with fail
          go_roundw
          case rel => exact ⟨j + 1, true, by omega, by go_num, rfl, HNW, hxl⟩
          case measure => simp [intOf]; omega
      ·
        have htk : xl.take j = xl := List.take_of_length_le (by omega)
        unfold rsome at hsv
        rw [htk] at hsv
        go_upto_region 17 with fail
        clear dj htk
        clear cxb_3
        replace a0 := hxl.out.cell a0 id
        replace a1 := hxl.out.cell a1 id
        replace a2 := hxl.out.cell a2 id
        replace a3 := hxl.out.cell a3 id
        replace d0 := hxl.out.cell d0 id
        replace d1 := hxl.out.cell d1 id
        replace d2 := hxl.out.cell d2 id
        replace d3 := hxl.out.cell d3 id
        replace B_xb_ := Lib.hid ((hxl.out.block xb_ (row_lt B_xb_.out) id).trans B_xb_.out)
        have cxb_1 := row_cell (k := 1) (v := .int .u8 (cn : Int)) B_xb_.out rfl
        have hc4a : (4 : Int) ≤ (c8 : Int) := by omega
        have hNa : (N : Int) ≤ (c8 : Int) := by omega
        have hcne : ¬ c8 = 4 := by omega
        have hdne : ¬ c0 = 4 := by omega
        have hNb : (N : Int) ≤ (c0 : Int) := by omega
        have hsT : ((bs T).toList == (bs T).toList) = true := by simp
        have R8l := Lib.hid (R8.out.keep ((HX_w8.out.trans HX_w9.out).trans hxl.out) (fun _ _ _ => id))
        have R0l := Lib.hid (R0.out.keep ((HX_w8.out.trans HX_w9.out).trans hxl.out) (fun _ _ _ => id))
        cases sv
        ·
          clear hsv
          clear HUP
          have hS0 : Ex (fun _ => False) wr wr.drew := (Ex.refl _ wr).drew
          refine wp_region_held_drew (S := fun W => Ex (fun _ => False) wr W) (by kernel_rfl) hS0 (fun _ => ?_)
          have hx := hS0
          generalize wr.drew = we at hx hS0 ⊢
          refine wpAnyH_take (i := 0) (oi := { dst := some 82, op := Go.Op.move (Go.Operand.tmp 3), type := 4, pos := "more.go:36", after := #[], guard := none }) (v := ?v205) rfl (by kernel_rfl) (by kernel_rfl) (by kernel_rfl) (fun _ _ _ h => h) (Or.inl ⟨by rfl, ?hy205⟩) (by assumption) ?rest205
          case hy205 => (intro w hSw; (try dsimp only at hSw); have ea0 := hSw.cell a0 id; have ea1 := hSw.cell a1 id; have ea2 := hSw.cell a2 id; have ea3 := hSw.cell a3 id; have ed0 := hSw.cell d0 id; have ed1 := hSw.cell d1 id; have ed2 := hSw.cell d2 id; have ed3 := hSw.cell d3 id; have ecxb_1 := hSw.cell cxb_1 id; go_simp <;> with_reducible rfl)
          try simp only [Act.put, List.setIfInBounds_toArray, List.set_cons_zero, List.set_cons_succ]
          refine wpAnyH_take (i := 1) (oi := { dst := some 83, op := Go.Op.move (Go.Operand.tmp 82), type := 4, pos := "more.go:36", after := #[{ on := 0, ground := Go.Ground.data }], guard := none }) (v := ?v206) rfl (by kernel_rfl) (by kernel_rfl) (by kernel_rfl) (fun _ _ _ h => h) (Or.inl ⟨by rfl, ?hy206⟩) (by assumption) ?rest206
          case hy206 => (intro w hSw; (try dsimp only at hSw); have ea0 := hSw.cell a0 id; have ea1 := hSw.cell a1 id; have ea2 := hSw.cell a2 id; have ea3 := hSw.cell a3 id; have ed0 := hSw.cell d0 id; have ed1 := hSw.cell d1 id; have ed2 := hSw.cell d2 id; have ed3 := hSw.cell d3 id; have ecxb_1 := hSw.cell cxb_1 id; go_simp <;> with_reducible rfl)
          try simp only [Act.put, List.setIfInBounds_toArray, List.set_cons_zero, List.set_cons_succ]
          refine wpAnyH_take (i := 2) (oi := { dst := some 84, op := Go.Op.move (Go.Operand.tmp 4), type := 23, pos := "more.go:36", after := #[{ on := 1, ground := Go.Ground.guard }], guard := some (1, true) }) (v := ?v207) rfl (by kernel_rfl) (by kernel_rfl) (by kernel_rfl) (fun _ _ _ h => h) (Or.inl ⟨by rfl, ?hy207⟩) (by assumption) ?rest207
          case hy207 => (intro w hSw; (try dsimp only at hSw); have ea0 := hSw.cell a0 id; have ea1 := hSw.cell a1 id; have ea2 := hSw.cell a2 id; have ea3 := hSw.cell a3 id; have ed0 := hSw.cell d0 id; have ed1 := hSw.cell d1 id; have ed2 := hSw.cell d2 id; have ed3 := hSw.cell d3 id; have ecxb_1 := hSw.cell cxb_1 id; go_simp <;> with_reducible rfl)
          try simp only [Act.put, List.setIfInBounds_toArray, List.set_cons_zero, List.set_cons_succ]
          refine wpAnyH_take (i := 3) (oi := { dst := some 85, op := Go.Op.slice 23 (Go.Operand.tmp 84) (some (Go.Operand.const (Go.Value.int Go.IntKind.i64 4))) none none, type := 23, pos := "more.go:36", after := #[{ on := 2, ground := Go.Ground.data }, { on := 1, ground := Go.Ground.guard }], guard := some (1, true) }) (v := ?v208) rfl (by kernel_rfl) (by kernel_rfl) (by kernel_rfl) (fun _ _ _ h => h) (Or.inl ⟨by rfl, ?hy208⟩) (by assumption) ?rest208
          case hy208 => (intro w hSw; (try dsimp only at hSw); have ea0 := hSw.cell a0 id; have ea1 := hSw.cell a1 id; have ea2 := hSw.cell a2 id; have ea3 := hSw.cell a3 id; have ed0 := hSw.cell d0 id; have ed1 := hSw.cell d1 id; have ed2 := hSw.cell d2 id; have ed3 := hSw.cell d3 id; have ecxb_1 := hSw.cell cxb_1 id; go_simp <;> with_reducible rfl)
          try simp only [Act.put, List.setIfInBounds_toArray, List.set_cons_zero, List.set_cons_succ]
          refine wpAnyH_take (i := 4) (oi := { dst := some 86, op := Go.Op.convert 23 9 (Go.Operand.tmp 85), type := 9, pos := "more.go:36", after := #[{ on := 3, ground := Go.Ground.data }, { on := 1, ground := Go.Ground.guard }], guard := some (1, true) }) (v := ?v209) rfl (by kernel_rfl) (by kernel_rfl) (by kernel_rfl) (fun _ _ _ h => h) (Or.inl ⟨by rfl, ?hy209⟩) (by assumption) ?rest209
          case hy209 => (intro w hSw; (try dsimp only at hSw); have ea0 := hSw.cell a0 id; have ea1 := hSw.cell a1 id; have ea2 := hSw.cell a2 id; have ea3 := hSw.cell a3 id; have ed0 := hSw.cell d0 id; have ed1 := hSw.cell d1 id; have ed2 := hSw.cell d2 id; have ed3 := hSw.cell d3 id; have ecxb_1 := hSw.cell cxb_1 id; have eq := (RB.keep R8l.out hSw (fun _ _ _ => id)).str (Pr := Try.prog) 23 9 5 Try.underlying23 Try.underlying5 Try.underlying9; go_simp <;> with_reducible rfl)
          try simp only [Act.put, List.setIfInBounds_toArray, List.set_cons_zero, List.set_cons_succ]
          refine wpAnyH_take (i := 5) (oi := { dst := some 87, op := Go.Op.move (Go.Operand.tmp 5), type := 23, pos := "more.go:36", after := #[{ on := 1, ground := Go.Ground.guard }], guard := some (1, true) }) (v := ?v210) rfl (by kernel_rfl) (by kernel_rfl) (by kernel_rfl) (fun _ _ _ h => h) (Or.inl ⟨by rfl, ?hy210⟩) (by assumption) ?rest210
          case hy210 => (intro w hSw; (try dsimp only at hSw); have ea0 := hSw.cell a0 id; have ea1 := hSw.cell a1 id; have ea2 := hSw.cell a2 id; have ea3 := hSw.cell a3 id; have ed0 := hSw.cell d0 id; have ed1 := hSw.cell d1 id; have ed2 := hSw.cell d2 id; have ed3 := hSw.cell d3 id; have ecxb_1 := hSw.cell cxb_1 id; go_simp <;> with_reducible rfl)
          try simp only [Act.put, List.setIfInBounds_toArray, List.set_cons_zero, List.set_cons_succ]
          refine wpAnyH_take (i := 6) (oi := { dst := some 88, op := Go.Op.slice 23 (Go.Operand.tmp 87) (some (Go.Operand.const (Go.Value.int Go.IntKind.i64 4))) none none, type := 23, pos := "more.go:36", after := #[{ on := 5, ground := Go.Ground.data }, { on := 1, ground := Go.Ground.guard }], guard := some (1, true) }) (v := ?v211) rfl (by kernel_rfl) (by kernel_rfl) (by kernel_rfl) (fun _ _ _ h => h) (Or.inl ⟨by rfl, ?hy211⟩) (by assumption) ?rest211
          case hy211 => (intro w hSw; (try dsimp only at hSw); have ea0 := hSw.cell a0 id; have ea1 := hSw.cell a1 id; have ea2 := hSw.cell a2 id; have ea3 := hSw.cell a3 id; have ed0 := hSw.cell d0 id; have ed1 := hSw.cell d1 id; have ed2 := hSw.cell d2 id; have ed3 := hSw.cell d3 id; have ecxb_1 := hSw.cell cxb_1 id; go_simp <;> with_reducible rfl)
          try simp only [Act.put, List.setIfInBounds_toArray, List.set_cons_zero, List.set_cons_succ]
          refine wpAnyH_take (i := 7) (oi := { dst := some 89, op := Go.Op.convert 23 9 (Go.Operand.tmp 88), type := 9, pos := "more.go:36", after := #[{ on := 6, ground := Go.Ground.data }, { on := 1, ground := Go.Ground.guard }], guard := some (1, true) }) (v := ?v212) rfl (by kernel_rfl) (by kernel_rfl) (by kernel_rfl) (fun _ _ _ h => h) (Or.inl ⟨by rfl, ?hy212⟩) (by assumption) ?rest212
          case hy212 => (intro w hSw; (try dsimp only at hSw); have ea0 := hSw.cell a0 id; have ea1 := hSw.cell a1 id; have ea2 := hSw.cell a2 id; have ea3 := hSw.cell a3 id; have ed0 := hSw.cell d0 id; have ed1 := hSw.cell d1 id; have ed2 := hSw.cell d2 id; have ed3 := hSw.cell d3 id; have ecxb_1 := hSw.cell cxb_1 id; have eq := (RB.keep R0l.out hSw (fun _ _ _ => id)).str (Pr := Try.prog) 23 9 5 Try.underlying23 Try.underlying5 Try.underlying9; go_simp <;> with_reducible rfl)
          try simp only [Act.put, List.setIfInBounds_toArray, List.set_cons_zero, List.set_cons_succ]
          refine wpAnyH_take (i := 8) (oi := { dst := some 90, op := Go.Op.binOp Go.BinOp.eql 9 (Go.Operand.tmp 86) (Go.Operand.tmp 89) 9, type := 4, pos := "more.go:36", after := #[{ on := 4, ground := Go.Ground.data }, { on := 7, ground := Go.Ground.data }, { on := 1, ground := Go.Ground.guard }], guard := some (1, true) }) (v := ?v213) rfl (by kernel_rfl) (by kernel_rfl) (by kernel_rfl) (fun _ _ _ h => h) (Or.inl ⟨by rfl, ?hy213⟩) (by assumption) ?rest213
          case hy213 => (intro w hSw; (try dsimp only at hSw); have ea0 := hSw.cell a0 id; have ea1 := hSw.cell a1 id; have ea2 := hSw.cell a2 id; have ea3 := hSw.cell a3 id; have ed0 := hSw.cell d0 id; have ed1 := hSw.cell d1 id; have ed2 := hSw.cell d2 id; have ed3 := hSw.cell d3 id; have ecxb_1 := hSw.cell cxb_1 id; go_simp <;> with_reducible rfl)
          try simp only [Act.put, List.setIfInBounds_toArray, List.set_cons_zero, List.set_cons_succ]
          refine wpAnyH_take (i := 9) (oi := { dst := some 91, op := Go.Op.pick (Go.Operand.tmp 83) (Go.Operand.tmp 90) (Go.Operand.const (Go.Value.bool false)), type := 4, pos := "more.go:36", after := #[{ on := 1, ground := Go.Ground.data }, { on := 8, ground := Go.Ground.data }], guard := none }) (v := ?v214) rfl (by kernel_rfl) (by kernel_rfl) (by kernel_rfl) (fun _ _ _ h => h) (Or.inl ⟨by rfl, ?hy214⟩) (by assumption) ?rest214
          case hy214 => (intro w hSw; (try dsimp only at hSw); have ea0 := hSw.cell a0 id; have ea1 := hSw.cell a1 id; have ea2 := hSw.cell a2 id; have ea3 := hSw.cell a3 id; have ed0 := hSw.cell d0 id; have ed1 := hSw.cell d1 id; have ed2 := hSw.cell d2 id; have ed3 := hSw.cell d3 id; have ecxb_1 := hSw.cell cxb_1 id; go_simp <;> with_reducible rfl)
          try simp only [Act.put, List.setIfInBounds_toArray, List.set_cons_zero, List.set_cons_succ]
          refine wpAnyH_take (i := 10) (oi := { dst := some 92, op := Go.Op.move (Go.Operand.tmp 91), type := 4, pos := "more.go:36", after := #[{ on := 9, ground := Go.Ground.data }, { on := 1, ground := Go.Ground.chain }], guard := none }) (v := ?v215) rfl (by kernel_rfl) (by kernel_rfl) (by kernel_rfl) (fun _ _ _ h => h) (Or.inl ⟨by rfl, ?hy215⟩) (by assumption) ?rest215
          case hy215 => (intro w hSw; (try dsimp only at hSw); have ea0 := hSw.cell a0 id; have ea1 := hSw.cell a1 id; have ea2 := hSw.cell a2 id; have ea3 := hSw.cell a3 id; have ed0 := hSw.cell d0 id; have ed1 := hSw.cell d1 id; have ed2 := hSw.cell d2 id; have ed3 := hSw.cell d3 id; have ecxb_1 := hSw.cell cxb_1 id; go_simp <;> with_reducible rfl)
          try simp only [Act.put, List.setIfInBounds_toArray, List.set_cons_zero, List.set_cons_succ]
          refine wpAnyH_take (i := 11) (oi := { dst := some 93, op := Go.Op.move (Go.Operand.tmp 4), type := 23, pos := "more.go:36", after := #[{ on := 10, ground := Go.Ground.guard }], guard := some (10, true) }) (v := ?v216) rfl (by kernel_rfl) (by kernel_rfl) (by kernel_rfl) (fun _ _ _ h => h) (Or.inl ⟨by rfl, ?hy216⟩) (by assumption) ?rest216
          case hy216 => (intro w hSw; (try dsimp only at hSw); have ea0 := hSw.cell a0 id; have ea1 := hSw.cell a1 id; have ea2 := hSw.cell a2 id; have ea3 := hSw.cell a3 id; have ed0 := hSw.cell d0 id; have ed1 := hSw.cell d1 id; have ed2 := hSw.cell d2 id; have ed3 := hSw.cell d3 id; have ecxb_1 := hSw.cell cxb_1 id; go_simp <;> with_reducible rfl)
          try simp only [Act.put, List.setIfInBounds_toArray, List.set_cons_zero, List.set_cons_succ]
          refine wpAnyH_take (i := 12) (oi := { dst := some 94, op := Go.Op.indexAddr 23 (Go.Operand.tmp 93) (Go.Operand.const (Go.Value.int Go.IntKind.i64 0)), type := 0, pos := "more.go:36", after := #[{ on := 11, ground := Go.Ground.data }, { on := 10, ground := Go.Ground.guard }], guard := some (10, true) }) (v := ?v217) rfl (by kernel_rfl) (by kernel_rfl) (by kernel_rfl) (fun _ _ _ h => h) (Or.inl ⟨by rfl, ?hy217⟩) (by assumption) ?rest217
          case hy217 => (intro w hSw; (try dsimp only at hSw); have ea0 := hSw.cell a0 id; have ea1 := hSw.cell a1 id; have ea2 := hSw.cell a2 id; have ea3 := hSw.cell a3 id; have ed0 := hSw.cell d0 id; have ed1 := hSw.cell d1 id; have ed2 := hSw.cell d2 id; have ed3 := hSw.cell d3 id; have ecxb_1 := hSw.cell cxb_1 id; go_simp <;> with_reducible rfl)
          try simp only [Act.put, List.setIfInBounds_toArray, List.set_cons_zero, List.set_cons_succ]
          refine wpAnyH_take (i := 13) (oi := { dst := some 95, op := Go.Op.load 5 (Go.Operand.tmp 94), type := 5, pos := "more.go:36", after := #[{ on := 12, ground := Go.Ground.data }, { on := 10, ground := Go.Ground.guard }], guard := some (10, true) }) (v := ?v218) rfl (by kernel_rfl) (by kernel_rfl) (by kernel_rfl) (fun _ _ _ h => h) (Or.inl ⟨by rfl, ?hy218⟩) (by assumption) ?rest218
          case hy218 => (intro w hSw; (try dsimp only at hSw); have ea0 := hSw.cell a0 id; have ea1 := hSw.cell a1 id; have ea2 := hSw.cell a2 id; have ea3 := hSw.cell a3 id; have ed0 := hSw.cell d0 id; have ed1 := hSw.cell d1 id; have ed2 := hSw.cell d2 id; have ed3 := hSw.cell d3 id; have ecxb_1 := hSw.cell cxb_1 id; go_simp <;> with_reducible rfl)
          try simp only [Act.put, List.setIfInBounds_toArray, List.set_cons_zero, List.set_cons_succ]
          refine wpAnyH_take (i := 14) (oi := { dst := some 96, op := Go.Op.binOp Go.BinOp.eql 5 (Go.Operand.tmp 95) (Go.Operand.const (Go.Value.int Go.IntKind.u8 8)) 5, type := 4, pos := "more.go:36", after := #[{ on := 13, ground := Go.Ground.data }, { on := 10, ground := Go.Ground.guard }], guard := some (10, true) }) (v := ?v219) rfl (by kernel_rfl) (by kernel_rfl) (by kernel_rfl) (fun _ _ _ h => h) (Or.inl ⟨by rfl, ?hy219⟩) (by assumption) ?rest219
          case hy219 => (intro w hSw; (try dsimp only at hSw); have ea0 := hSw.cell a0 id; have ea1 := hSw.cell a1 id; have ea2 := hSw.cell a2 id; have ea3 := hSw.cell a3 id; have ed0 := hSw.cell d0 id; have ed1 := hSw.cell d1 id; have ed2 := hSw.cell d2 id; have ed3 := hSw.cell d3 id; have ecxb_1 := hSw.cell cxb_1 id; go_simp <;> with_reducible rfl)
          try simp only [Act.put, List.setIfInBounds_toArray, List.set_cons_zero, List.set_cons_succ]
          refine wpAnyH_take (i := 15) (oi := { dst := some 97, op := Go.Op.pick (Go.Operand.tmp 92) (Go.Operand.tmp 96) (Go.Operand.const (Go.Value.bool false)), type := 4, pos := "more.go:36", after := #[{ on := 10, ground := Go.Ground.data }, { on := 14, ground := Go.Ground.data }], guard := none }) (v := ?v220) rfl (by kernel_rfl) (by kernel_rfl) (by kernel_rfl) (fun _ _ _ h => h) (Or.inl ⟨by rfl, ?hy220⟩) (by assumption) ?rest220
          case hy220 => (intro w hSw; (try dsimp only at hSw); have ea0 := hSw.cell a0 id; have ea1 := hSw.cell a1 id; have ea2 := hSw.cell a2 id; have ea3 := hSw.cell a3 id; have ed0 := hSw.cell d0 id; have ed1 := hSw.cell d1 id; have ed2 := hSw.cell d2 id; have ed3 := hSw.cell d3 id; have ecxb_1 := hSw.cell cxb_1 id; go_simp <;> with_reducible rfl)
          try simp only [Act.put, List.setIfInBounds_toArray, List.set_cons_zero, List.set_cons_succ]
          refine wpAnyH_take (i := 16) (oi := { dst := some 98, op := Go.Op.move (Go.Operand.tmp 97), type := 4, pos := "more.go:36", after := #[{ on := 15, ground := Go.Ground.data }, { on := 10, ground := Go.Ground.chain }], guard := none }) (v := ?v221) rfl (by kernel_rfl) (by kernel_rfl) (by kernel_rfl) (fun _ _ _ h => h) (Or.inl ⟨by rfl, ?hy221⟩) (by assumption) ?rest221
          case hy221 => (intro w hSw; (try dsimp only at hSw); have ea0 := hSw.cell a0 id; have ea1 := hSw.cell a1 id; have ea2 := hSw.cell a2 id; have ea3 := hSw.cell a3 id; have ed0 := hSw.cell d0 id; have ed1 := hSw.cell d1 id; have ed2 := hSw.cell d2 id; have ed3 := hSw.cell d3 id; have ecxb_1 := hSw.cell cxb_1 id; go_simp <;> with_reducible rfl)
          try simp only [Act.put, List.setIfInBounds_toArray, List.set_cons_zero, List.set_cons_succ]
          refine wpAnyH_take (i := 17) (oi := { dst := some 99, op := Go.Op.move (Go.Operand.tmp 5), type := 23, pos := "more.go:36", after := #[{ on := 16, ground := Go.Ground.guard }], guard := some (16, true) }) (v := ?v222) rfl (by kernel_rfl) (by kernel_rfl) (by kernel_rfl) (fun _ _ _ h => h) (Or.inl ⟨by rfl, ?hy222⟩) (by assumption) ?rest222
          case hy222 => (intro w hSw; (try dsimp only at hSw); have ea0 := hSw.cell a0 id; have ea1 := hSw.cell a1 id; have ea2 := hSw.cell a2 id; have ea3 := hSw.cell a3 id; have ed0 := hSw.cell d0 id; have ed1 := hSw.cell d1 id; have ed2 := hSw.cell d2 id; have ed3 := hSw.cell d3 id; have ecxb_1 := hSw.cell cxb_1 id; go_simp <;> with_reducible rfl)
          try simp only [Act.put, List.setIfInBounds_toArray, List.set_cons_zero, List.set_cons_succ]
          refine wpAnyH_take (i := 18) (oi := { dst := some 100, op := Go.Op.indexAddr 23 (Go.Operand.tmp 99) (Go.Operand.const (Go.Value.int Go.IntKind.i64 0)), type := 0, pos := "more.go:36", after := #[{ on := 17, ground := Go.Ground.data }, { on := 16, ground := Go.Ground.guard }], guard := some (16, true) }) (v := ?v223) rfl (by kernel_rfl) (by kernel_rfl) (by kernel_rfl) (fun _ _ _ h => h) (Or.inl ⟨by rfl, ?hy223⟩) (by assumption) ?rest223
          case hy223 => (intro w hSw; (try dsimp only at hSw); have ea0 := hSw.cell a0 id; have ea1 := hSw.cell a1 id; have ea2 := hSw.cell a2 id; have ea3 := hSw.cell a3 id; have ed0 := hSw.cell d0 id; have ed1 := hSw.cell d1 id; have ed2 := hSw.cell d2 id; have ed3 := hSw.cell d3 id; have ecxb_1 := hSw.cell cxb_1 id; go_simp <;> with_reducible rfl)
          try simp only [Act.put, List.setIfInBounds_toArray, List.set_cons_zero, List.set_cons_succ]
          refine wpAnyH_take (i := 19) (oi := { dst := some 101, op := Go.Op.load 5 (Go.Operand.tmp 100), type := 5, pos := "more.go:36", after := #[{ on := 18, ground := Go.Ground.data }, { on := 16, ground := Go.Ground.guard }], guard := some (16, true) }) (v := ?v224) rfl (by kernel_rfl) (by kernel_rfl) (by kernel_rfl) (fun _ _ _ h => h) (Or.inl ⟨by rfl, ?hy224⟩) (by assumption) ?rest224
          case hy224 => (intro w hSw; (try dsimp only at hSw); have ea0 := hSw.cell a0 id; have ea1 := hSw.cell a1 id; have ea2 := hSw.cell a2 id; have ea3 := hSw.cell a3 id; have ed0 := hSw.cell d0 id; have ed1 := hSw.cell d1 id; have ed2 := hSw.cell d2 id; have ed3 := hSw.cell d3 id; have ecxb_1 := hSw.cell cxb_1 id; go_simp <;> with_reducible rfl)
          try simp only [Act.put, List.setIfInBounds_toArray, List.set_cons_zero, List.set_cons_succ]
          refine wpAnyH_take (i := 20) (oi := { dst := some 102, op := Go.Op.binOp Go.BinOp.eql 5 (Go.Operand.tmp 101) (Go.Operand.const (Go.Value.int Go.IntKind.u8 0)) 5, type := 4, pos := "more.go:36", after := #[{ on := 19, ground := Go.Ground.data }, { on := 16, ground := Go.Ground.guard }], guard := some (16, true) }) (v := ?v225) rfl (by kernel_rfl) (by kernel_rfl) (by kernel_rfl) (fun _ _ _ h => h) (Or.inl ⟨by rfl, ?hy225⟩) (by assumption) ?rest225
          case hy225 => (intro w hSw; (try dsimp only at hSw); have ea0 := hSw.cell a0 id; have ea1 := hSw.cell a1 id; have ea2 := hSw.cell a2 id; have ea3 := hSw.cell a3 id; have ed0 := hSw.cell d0 id; have ed1 := hSw.cell d1 id; have ed2 := hSw.cell d2 id; have ed3 := hSw.cell d3 id; have ecxb_1 := hSw.cell cxb_1 id; go_simp <;> with_reducible rfl)
          try simp only [Act.put, List.setIfInBounds_toArray, List.set_cons_zero, List.set_cons_succ]
          refine wpAnyH_take (i := 21) (oi := { dst := some 103, op := Go.Op.pick (Go.Operand.tmp 98) (Go.Operand.tmp 102) (Go.Operand.const (Go.Value.bool false)), type := 4, pos := "more.go:36", after := #[{ on := 16, ground := Go.Ground.data }, { on := 20, ground := Go.Ground.data }], guard := none }) (v := ?v226) rfl (by kernel_rfl) (by kernel_rfl) (by kernel_rfl) (fun _ _ _ h => h) (Or.inl ⟨by rfl, ?hy226⟩) (by assumption) ?rest226
          case hy226 => (intro w hSw; (try dsimp only at hSw); have ea0 := hSw.cell a0 id; have ea1 := hSw.cell a1 id; have ea2 := hSw.cell a2 id; have ea3 := hSw.cell a3 id; have ed0 := hSw.cell d0 id; have ed1 := hSw.cell d1 id; have ed2 := hSw.cell d2 id; have ed3 := hSw.cell d3 id; have ecxb_1 := hSw.cell cxb_1 id; go_simp <;> with_reducible rfl)
          try simp only [Act.put, List.setIfInBounds_toArray, List.set_cons_zero, List.set_cons_succ]
          refine wpAnyH_take (i := 22) (oi := { dst := some 104, op := Go.Op.move (Go.Operand.tmp 103), type := 4, pos := "more.go:36", after := #[{ on := 21, ground := Go.Ground.data }, { on := 16, ground := Go.Ground.chain }], guard := none }) (v := ?v227) rfl (by kernel_rfl) (by kernel_rfl) (by kernel_rfl) (fun _ _ _ h => h) (Or.inl ⟨by rfl, ?hy227⟩) (by assumption) ?rest227
          case hy227 => (intro w hSw; (try dsimp only at hSw); have ea0 := hSw.cell a0 id; have ea1 := hSw.cell a1 id; have ea2 := hSw.cell a2 id; have ea3 := hSw.cell a3 id; have ed0 := hSw.cell d0 id; have ed1 := hSw.cell d1 id; have ed2 := hSw.cell d2 id; have ed3 := hSw.cell d3 id; have ecxb_1 := hSw.cell cxb_1 id; go_simp <;> with_reducible rfl)
          try simp only [Act.put, List.setIfInBounds_toArray, List.set_cons_zero, List.set_cons_succ]
          refine wpAnyH_take (i := 23) (oi := { dst := some 105, op := Go.Op.move (Go.Operand.tmp 4), type := 23, pos := "more.go:36", after := #[{ on := 22, ground := Go.Ground.guard }], guard := some (22, true) }) (v := ?v228) rfl (by kernel_rfl) (by kernel_rfl) (by kernel_rfl) (fun _ _ _ h => h) (Or.inl ⟨by rfl, ?hy228⟩) (by assumption) ?rest228
          case hy228 => (intro w hSw; (try dsimp only at hSw); have ea0 := hSw.cell a0 id; have ea1 := hSw.cell a1 id; have ea2 := hSw.cell a2 id; have ea3 := hSw.cell a3 id; have ed0 := hSw.cell d0 id; have ed1 := hSw.cell d1 id; have ed2 := hSw.cell d2 id; have ed3 := hSw.cell d3 id; have ecxb_1 := hSw.cell cxb_1 id; go_simp <;> with_reducible rfl)
          try simp only [Act.put, List.setIfInBounds_toArray, List.set_cons_zero, List.set_cons_succ]
          refine wpAnyH_take (i := 24) (oi := { dst := some 106, op := Go.Op.indexAddr 23 (Go.Operand.tmp 105) (Go.Operand.const (Go.Value.int Go.IntKind.i64 1)), type := 0, pos := "more.go:36", after := #[{ on := 23, ground := Go.Ground.data }, { on := 22, ground := Go.Ground.guard }], guard := some (22, true) }) (v := ?v229) rfl (by kernel_rfl) (by kernel_rfl) (by kernel_rfl) (fun _ _ _ h => h) (Or.inl ⟨by rfl, ?hy229⟩) (by assumption) ?rest229
          case hy229 => (intro w hSw; (try dsimp only at hSw); have ea0 := hSw.cell a0 id; have ea1 := hSw.cell a1 id; have ea2 := hSw.cell a2 id; have ea3 := hSw.cell a3 id; have ed0 := hSw.cell d0 id; have ed1 := hSw.cell d1 id; have ed2 := hSw.cell d2 id; have ed3 := hSw.cell d3 id; have ecxb_1 := hSw.cell cxb_1 id; go_simp <;> with_reducible rfl)
          try simp only [Act.put, List.setIfInBounds_toArray, List.set_cons_zero, List.set_cons_succ]
          refine wpAnyH_take (i := 25) (oi := { dst := some 107, op := Go.Op.load 5 (Go.Operand.tmp 106), type := 5, pos := "more.go:36", after := #[{ on := 24, ground := Go.Ground.data }, { on := 22, ground := Go.Ground.guard }], guard := some (22, true) }) (v := ?v230) rfl (by kernel_rfl) (by kernel_rfl) (by kernel_rfl) (fun _ _ _ h => h) (Or.inl ⟨by rfl, ?hy230⟩) (by assumption) ?rest230
          case hy230 => (intro w hSw; (try dsimp only at hSw); have ea0 := hSw.cell a0 id; have ea1 := hSw.cell a1 id; have ea2 := hSw.cell a2 id; have ea3 := hSw.cell a3 id; have ed0 := hSw.cell d0 id; have ed1 := hSw.cell d1 id; have ed2 := hSw.cell d2 id; have ed3 := hSw.cell d3 id; have ecxb_1 := hSw.cell cxb_1 id; go_simp <;> with_reducible rfl)
          try simp only [Act.put, List.setIfInBounds_toArray, List.set_cons_zero, List.set_cons_succ]
          refine wpAnyH_take (i := 26) (oi := { dst := some 108, op := Go.Op.move (Go.Operand.tmp 5), type := 23, pos := "more.go:36", after := #[{ on := 22, ground := Go.Ground.guard }], guard := some (22, true) }) (v := ?v231) rfl (by kernel_rfl) (by kernel_rfl) (by kernel_rfl) (fun _ _ _ h => h) (Or.inl ⟨by rfl, ?hy231⟩) (by assumption) ?rest231
          case hy231 => (intro w hSw; (try dsimp only at hSw); have ea0 := hSw.cell a0 id; have ea1 := hSw.cell a1 id; have ea2 := hSw.cell a2 id; have ea3 := hSw.cell a3 id; have ed0 := hSw.cell d0 id; have ed1 := hSw.cell d1 id; have ed2 := hSw.cell d2 id; have ed3 := hSw.cell d3 id; have ecxb_1 := hSw.cell cxb_1 id; go_simp <;> with_reducible rfl)
          try simp only [Act.put, List.setIfInBounds_toArray, List.set_cons_zero, List.set_cons_succ]
          refine wpAnyH_take (i := 27) (oi := { dst := some 109, op := Go.Op.indexAddr 23 (Go.Operand.tmp 108) (Go.Operand.const (Go.Value.int Go.IntKind.i64 1)), type := 0, pos := "more.go:36", after := #[{ on := 26, ground := Go.Ground.data }, { on := 22, ground := Go.Ground.guard }], guard := some (22, true) }) (v := ?v232) rfl (by kernel_rfl) (by kernel_rfl) (by kernel_rfl) (fun _ _ _ h => h) (Or.inl ⟨by rfl, ?hy232⟩) (by assumption) ?rest232
          case hy232 => (intro w hSw; (try dsimp only at hSw); have ea0 := hSw.cell a0 id; have ea1 := hSw.cell a1 id; have ea2 := hSw.cell a2 id; have ea3 := hSw.cell a3 id; have ed0 := hSw.cell d0 id; have ed1 := hSw.cell d1 id; have ed2 := hSw.cell d2 id; have ed3 := hSw.cell d3 id; have ecxb_1 := hSw.cell cxb_1 id; go_simp <;> with_reducible rfl)
          try simp only [Act.put, List.setIfInBounds_toArray, List.set_cons_zero, List.set_cons_succ]
          refine wpAnyH_take (i := 28) (oi := { dst := some 110, op := Go.Op.load 5 (Go.Operand.tmp 109), type := 5, pos := "more.go:36", after := #[{ on := 27, ground := Go.Ground.data }, { on := 22, ground := Go.Ground.guard }], guard := some (22, true) }) (v := ?v233) rfl (by kernel_rfl) (by kernel_rfl) (by kernel_rfl) (fun _ _ _ h => h) (Or.inl ⟨by rfl, ?hy233⟩) (by assumption) ?rest233
          case hy233 => (intro w hSw; (try dsimp only at hSw); have ea0 := hSw.cell a0 id; have ea1 := hSw.cell a1 id; have ea2 := hSw.cell a2 id; have ea3 := hSw.cell a3 id; have ed0 := hSw.cell d0 id; have ed1 := hSw.cell d1 id; have ed2 := hSw.cell d2 id; have ed3 := hSw.cell d3 id; have ecxb_1 := hSw.cell cxb_1 id; go_simp <;> with_reducible rfl)
          try simp only [Act.put, List.setIfInBounds_toArray, List.set_cons_zero, List.set_cons_succ]
          refine wpAnyH_take (i := 29) (oi := { dst := some 111, op := Go.Op.binOp Go.BinOp.eql 5 (Go.Operand.tmp 107) (Go.Operand.tmp 110) 5, type := 4, pos := "more.go:36", after := #[{ on := 25, ground := Go.Ground.data }, { on := 28, ground := Go.Ground.data }, { on := 22, ground := Go.Ground.guard }], guard := some (22, true) }) (v := ?v234) rfl (by kernel_rfl) (by kernel_rfl) (by kernel_rfl) (fun _ _ _ h => h) (Or.inl ⟨by rfl, ?hy234⟩) (by assumption) ?rest234
          case hy234 => (intro w hSw; (try dsimp only at hSw); have ea0 := hSw.cell a0 id; have ea1 := hSw.cell a1 id; have ea2 := hSw.cell a2 id; have ea3 := hSw.cell a3 id; have ed0 := hSw.cell d0 id; have ed1 := hSw.cell d1 id; have ed2 := hSw.cell d2 id; have ed3 := hSw.cell d3 id; have ecxb_1 := hSw.cell cxb_1 id; go_simp <;> with_reducible rfl)
          try simp only [Act.put, List.setIfInBounds_toArray, List.set_cons_zero, List.set_cons_succ]
          refine wpAnyH_take (i := 30) (oi := { dst := some 112, op := Go.Op.pick (Go.Operand.tmp 104) (Go.Operand.tmp 111) (Go.Operand.const (Go.Value.bool false)), type := 4, pos := "more.go:36", after := #[{ on := 22, ground := Go.Ground.data }, { on := 29, ground := Go.Ground.data }], guard := none }) (v := ?v235) rfl (by kernel_rfl) (by kernel_rfl) (by kernel_rfl) (fun _ _ _ h => h) (Or.inl ⟨by rfl, ?hy235⟩) (by assumption) ?rest235
          case hy235 => (intro w hSw; (try dsimp only at hSw); have ea0 := hSw.cell a0 id; have ea1 := hSw.cell a1 id; have ea2 := hSw.cell a2 id; have ea3 := hSw.cell a3 id; have ed0 := hSw.cell d0 id; have ed1 := hSw.cell d1 id; have ed2 := hSw.cell d2 id; have ed3 := hSw.cell d3 id; have ecxb_1 := hSw.cell cxb_1 id; go_simp <;> with_reducible rfl)
          try simp only [Act.put, List.setIfInBounds_toArray, List.set_cons_zero, List.set_cons_succ]
          refine wpAnyH_take (i := 31) (oi := { dst := some 113, op := Go.Op.move (Go.Operand.tmp 112), type := 4, pos := "more.go:36", after := #[{ on := 30, ground := Go.Ground.data }, { on := 22, ground := Go.Ground.chain }], guard := none }) (v := ?v236) rfl (by kernel_rfl) (by kernel_rfl) (by kernel_rfl) (fun _ _ _ h => h) (Or.inl ⟨by rfl, ?hy236⟩) (by assumption) ?rest236
          case hy236 => (intro w hSw; (try dsimp only at hSw); have ea0 := hSw.cell a0 id; have ea1 := hSw.cell a1 id; have ea2 := hSw.cell a2 id; have ea3 := hSw.cell a3 id; have ed0 := hSw.cell d0 id; have ed1 := hSw.cell d1 id; have ed2 := hSw.cell d2 id; have ed3 := hSw.cell d3 id; have ecxb_1 := hSw.cell cxb_1 id; go_simp <;> with_reducible rfl)
          try simp only [Act.put, List.setIfInBounds_toArray, List.set_cons_zero, List.set_cons_succ]
          refine wpAnyH_take (i := 32) (oi := { dst := some 114, op := Go.Op.move (Go.Operand.tmp 9), type := 4, pos := "more.go:36", after := #[{ on := 31, ground := Go.Ground.guard }], guard := some (31, true) }) (v := ?v237) rfl (by kernel_rfl) (by kernel_rfl) (by kernel_rfl) (fun _ _ _ h => h) (Or.inl ⟨by rfl, ?hy237⟩) (by assumption) ?rest237
          case hy237 => (intro w hSw; (try dsimp only at hSw); have ea0 := hSw.cell a0 id; have ea1 := hSw.cell a1 id; have ea2 := hSw.cell a2 id; have ea3 := hSw.cell a3 id; have ed0 := hSw.cell d0 id; have ed1 := hSw.cell d1 id; have ed2 := hSw.cell d2 id; have ed3 := hSw.cell d3 id; have ecxb_1 := hSw.cell cxb_1 id; go_simp <;> with_reducible rfl)
          try simp only [Act.put, List.setIfInBounds_toArray, List.set_cons_zero, List.set_cons_succ]
          refine wpAnyH_take (i := 33) (oi := { dst := some 115, op := Go.Op.unOp Go.UnOp.not 4 (Go.Operand.tmp 114), type := 4, pos := "more.go:36", after := #[{ on := 32, ground := Go.Ground.data }, { on := 31, ground := Go.Ground.guard }], guard := some (31, true) }) (v := ?v238) rfl (by kernel_rfl) (by kernel_rfl) (by kernel_rfl) (fun _ _ _ h => h) (Or.inl ⟨by rfl, ?hy238⟩) (by assumption) ?rest238
          case hy238 => (intro w hSw; (try dsimp only at hSw); have ea0 := hSw.cell a0 id; have ea1 := hSw.cell a1 id; have ea2 := hSw.cell a2 id; have ea3 := hSw.cell a3 id; have ed0 := hSw.cell d0 id; have ed1 := hSw.cell d1 id; have ed2 := hSw.cell d2 id; have ed3 := hSw.cell d3 id; have ecxb_1 := hSw.cell cxb_1 id; go_simp <;> with_reducible rfl)
          try simp only [Act.put, List.setIfInBounds_toArray, List.set_cons_zero, List.set_cons_succ]
          refine wpAnyH_take (i := 34) (oi := { dst := some 116, op := Go.Op.move (Go.Operand.tmp 115), type := 4, pos := "more.go:36", after := #[{ on := 33, ground := Go.Ground.data }, { on := 31, ground := Go.Ground.chain }, { on := 31, ground := Go.Ground.guard }], guard := some (31, true) }) (v := ?v239) rfl (by kernel_rfl) (by kernel_rfl) (by kernel_rfl) (fun _ _ _ h => h) (Or.inl ⟨by rfl, ?hy239⟩) (by assumption) ?rest239
          case hy239 => (intro w hSw; (try dsimp only at hSw); have ea0 := hSw.cell a0 id; have ea1 := hSw.cell a1 id; have ea2 := hSw.cell a2 id; have ea3 := hSw.cell a3 id; have ed0 := hSw.cell d0 id; have ed1 := hSw.cell d1 id; have ed2 := hSw.cell d2 id; have ed3 := hSw.cell d3 id; have ecxb_1 := hSw.cell cxb_1 id; go_simp <;> with_reducible rfl)
          try simp only [Act.put, List.setIfInBounds_toArray, List.set_cons_zero, List.set_cons_succ]
          refine wpAnyH_take (i := 35) (oi := { dst := some 117, op := Go.Op.move (Go.Operand.tmp 6), type := 32, pos := "more.go:36", after := #[{ on := 34, ground := Go.Ground.guard }], guard := some (34, false) }) (v := undef) rfl (by kernel_rfl) (by kernel_rfl) (by kernel_rfl) (fun _ _ _ h => h) (Or.inr ⟨by rfl, rfl⟩) (by assumption) ?rest240
          try simp only [Act.put, List.setIfInBounds_toArray, List.set_cons_zero, List.set_cons_succ]
          refine wpAnyH_take (i := 36) (oi := { dst := some 118, op := Go.Op.move (Go.Operand.tmp 8), type := 32, pos := "more.go:36", after := #[{ on := 34, ground := Go.Ground.guard }], guard := some (34, false) }) (v := undef) rfl (by kernel_rfl) (by kernel_rfl) (by kernel_rfl) (fun _ _ _ h => h) (Or.inr ⟨by rfl, rfl⟩) (by assumption) ?rest241
          try simp only [Act.put, List.setIfInBounds_toArray, List.set_cons_zero, List.set_cons_succ]
          refine wpAnyH_take (i := 37) (oi := { dst := some 119, op := Go.Op.fieldAddr 25 (Go.Operand.tmp 1) 1, type := 0, pos := "more.go:36", after := #[{ on := 34, ground := Go.Ground.guard }], guard := some (34, false) }) (v := undef) rfl (by kernel_rfl) (by kernel_rfl) (by kernel_rfl) (fun _ _ _ h => h) (Or.inr ⟨by rfl, rfl⟩) (by assumption) ?rest242
          try simp only [Act.put, List.setIfInBounds_toArray, List.set_cons_zero, List.set_cons_succ]
          refine wpAnyH_take (i := 38) (oi := { dst := some 120, op := Go.Op.load 5 (Go.Operand.tmp 119), type := 5, pos := "more.go:36", after := #[{ on := 37, ground := Go.Ground.data }, { on := 34, ground := Go.Ground.guard }], guard := some (34, false) }) (v := undef) rfl (by kernel_rfl) (by kernel_rfl) (by kernel_rfl) (fun _ _ _ h => h) (Or.inr ⟨by rfl, rfl⟩) (by assumption) ?rest243
          try simp only [Act.put, List.setIfInBounds_toArray, List.set_cons_zero, List.set_cons_succ]
          refine wpAnyH_take (i := 39) (oi := { dst := some 121, op := Go.Op.convert 5 32 (Go.Operand.tmp 120), type := 32, pos := "more.go:36", after := #[{ on := 38, ground := Go.Ground.data }, { on := 34, ground := Go.Ground.guard }], guard := some (34, false) }) (v := undef) rfl (by kernel_rfl) (by kernel_rfl) (by kernel_rfl) (fun _ _ _ h => h) (Or.inr ⟨by rfl, rfl⟩) (by assumption) ?rest244
          try simp only [Act.put, List.setIfInBounds_toArray, List.set_cons_zero, List.set_cons_succ]
          refine wpAnyH_take (i := 40) (oi := { dst := some 122, op := Go.Op.call { callee := Go.Callee.value (Go.Operand.func 12), args := #[Go.Operand.tmp 117, Go.Operand.tmp 118, Go.Operand.tmp 121], argTypes := #[32, 32, 32] }, type := 32, pos := "more.go:36", after := #[{ on := 35, ground := Go.Ground.data }, { on := 36, ground := Go.Ground.data }, { on := 39, ground := Go.Ground.data }, { on := 34, ground := Go.Ground.chain }, { on := 34, ground := Go.Ground.guard }], guard := some (34, false) }) (v := undef) rfl (by kernel_rfl) (by kernel_rfl) (by kernel_rfl) (fun _ _ _ h => h) (Or.inr ⟨by rfl, rfl⟩) (by assumption) ?rest245
          try simp only [Act.put, List.setIfInBounds_toArray, List.set_cons_zero, List.set_cons_succ]
          refine wpAnyH_take (i := 41) (oi := { dst := some 123, op := Go.Op.move (Go.Operand.tmp 7), type := 32, pos := "more.go:36", after := #[{ on := 34, ground := Go.Ground.guard }], guard := some (34, false) }) (v := undef) rfl (by kernel_rfl) (by kernel_rfl) (by kernel_rfl) (fun _ _ _ h => h) (Or.inr ⟨by rfl, rfl⟩) (by assumption) ?rest246
          try simp only [Act.put, List.setIfInBounds_toArray, List.set_cons_zero, List.set_cons_succ]
          refine wpAnyH_take (i := 42) (oi := { dst := some 124, op := Go.Op.binOp Go.BinOp.eql 32 (Go.Operand.tmp 122) (Go.Operand.tmp 123) 32, type := 4, pos := "more.go:36", after := #[{ on := 40, ground := Go.Ground.data }, { on := 41, ground := Go.Ground.data }, { on := 34, ground := Go.Ground.guard }], guard := some (34, false) }) (v := undef) rfl (by kernel_rfl) (by kernel_rfl) (by kernel_rfl) (fun _ _ _ h => h) (Or.inr ⟨by rfl, rfl⟩) (by assumption) ?rest247
          try simp only [Act.put, List.setIfInBounds_toArray, List.set_cons_zero, List.set_cons_succ]
          refine wpAnyH_take (i := 43) (oi := { dst := some 125, op := Go.Op.pick (Go.Operand.tmp 116) (Go.Operand.const (Go.Value.bool true)) (Go.Operand.tmp 124), type := 4, pos := "more.go:36", after := #[{ on := 34, ground := Go.Ground.data }, { on := 42, ground := Go.Ground.data }, { on := 31, ground := Go.Ground.guard }], guard := some (31, true) }) (v := ?v248) rfl (by kernel_rfl) (by kernel_rfl) (by kernel_rfl) (fun _ _ _ h => h) (Or.inl ⟨by rfl, ?hy248⟩) (by assumption) ?rest248
          case hy248 => (intro w hSw; (try dsimp only at hSw); have ea0 := hSw.cell a0 id; have ea1 := hSw.cell a1 id; have ea2 := hSw.cell a2 id; have ea3 := hSw.cell a3 id; have ed0 := hSw.cell d0 id; have ed1 := hSw.cell d1 id; have ed2 := hSw.cell d2 id; have ed3 := hSw.cell d3 id; have ecxb_1 := hSw.cell cxb_1 id; go_simp <;> with_reducible rfl)
          try simp only [Act.put, List.setIfInBounds_toArray, List.set_cons_zero, List.set_cons_succ]
          refine wpAnyH_take (i := 44) (oi := { dst := some 126, op := Go.Op.pick (Go.Operand.tmp 113) (Go.Operand.tmp 125) (Go.Operand.const (Go.Value.bool false)), type := 4, pos := "more.go:36", after := #[{ on := 31, ground := Go.Ground.data }, { on := 43, ground := Go.Ground.data }], guard := none }) (v := ?v249) rfl (by kernel_rfl) (by kernel_rfl) (by kernel_rfl) (fun _ _ _ h => h) (Or.inl ⟨by rfl, ?hy249⟩) (by assumption) ?rest249
          case hy249 => (intro w hSw; (try dsimp only at hSw); have ea0 := hSw.cell a0 id; have ea1 := hSw.cell a1 id; have ea2 := hSw.cell a2 id; have ea3 := hSw.cell a3 id; have ed0 := hSw.cell d0 id; have ed1 := hSw.cell d1 id; have ed2 := hSw.cell d2 id; have ed3 := hSw.cell d3 id; have ecxb_1 := hSw.cell cxb_1 id; go_simp <;> with_reducible rfl)
          try simp only [Act.put, List.setIfInBounds_toArray, List.set_cons_zero, List.set_cons_succ]
          refine wpAnyH_take (i := 45) (oi := { dst := some 2, op := Go.Op.assign (Go.Operand.tmp 126), type := 4, pos := "more.go:36", after := #[{ on := 44, ground := Go.Ground.data }, { on := 40, ground := Go.Ground.chain }, { on := 0, ground := Go.Ground.phase }, { on := 1, ground := Go.Ground.phase }, { on := 2, ground := Go.Ground.phase }, { on := 3, ground := Go.Ground.phase }, { on := 4, ground := Go.Ground.phase }, { on := 5, ground := Go.Ground.phase }, { on := 6, ground := Go.Ground.phase }, { on := 7, ground := Go.Ground.phase }, { on := 8, ground := Go.Ground.phase }, { on := 9, ground := Go.Ground.phase }, { on := 10, ground := Go.Ground.phase }, { on := 11, ground := Go.Ground.phase }, { on := 12, ground := Go.Ground.phase }, { on := 13, ground := Go.Ground.phase }, { on := 14, ground := Go.Ground.phase }, { on := 15, ground := Go.Ground.phase }, { on := 16, ground := Go.Ground.phase }, { on := 17, ground := Go.Ground.phase }, { on := 18, ground := Go.Ground.phase }, { on := 19, ground := Go.Ground.phase }, { on := 20, ground := Go.Ground.phase }, { on := 21, ground := Go.Ground.phase }, { on := 22, ground := Go.Ground.phase }, { on := 23, ground := Go.Ground.phase }, { on := 24, ground := Go.Ground.phase }, { on := 25, ground := Go.Ground.phase }, { on := 26, ground := Go.Ground.phase }, { on := 27, ground := Go.Ground.phase }, { on := 28, ground := Go.Ground.phase }, { on := 29, ground := Go.Ground.phase }, { on := 30, ground := Go.Ground.phase }, { on := 31, ground := Go.Ground.phase }, { on := 32, ground := Go.Ground.phase }, { on := 33, ground := Go.Ground.phase }, { on := 34, ground := Go.Ground.phase }, { on := 35, ground := Go.Ground.phase }, { on := 36, ground := Go.Ground.phase }, { on := 37, ground := Go.Ground.phase }, { on := 38, ground := Go.Ground.phase }, { on := 39, ground := Go.Ground.phase }, { on := 40, ground := Go.Ground.phase }, { on := 41, ground := Go.Ground.phase }, { on := 42, ground := Go.Ground.phase }, { on := 43, ground := Go.Ground.phase }, { on := 44, ground := Go.Ground.phase }], guard := none }) (v := ?v250) rfl (by kernel_rfl) (by kernel_rfl) (by kernel_rfl) (fun _ _ _ h => h) (Or.inl ⟨by rfl, ?hy250⟩) (by assumption) ?rest250
          case hy250 => (intro w hSw; (try dsimp only at hSw); have ea0 := hSw.cell a0 id; have ea1 := hSw.cell a1 id; have ea2 := hSw.cell a2 id; have ea3 := hSw.cell a3 id; have ed0 := hSw.cell d0 id; have ed1 := hSw.cell d1 id; have ed2 := hSw.cell d2 id; have ed3 := hSw.cell d3 id; have ecxb_1 := hSw.cell cxb_1 id; go_simp <;> with_reducible rfl)
          try simp only [Act.put, List.setIfInBounds_toArray, List.set_cons_zero, List.set_cons_succ]
          refine wpAnyH_done (by kernel_rfl) ?_ _
          have HX_we := Lib.hid hx
          clear hx
          go_wp2_with fail
          go_ret
          exact ⟨rfl, ((((((((((HX_w1.out.trans HX_w2.out).andThen HX_w3.out (fun i hi e => by have := hb_xb_; omega)).andThen HX_w4.out (fun i hi e => by have := hb_xb_; omega)).trans HX_w5.out).andThen HX_w6.out (fun i hi e => by have := hb_xb_; omega)).trans HX_w7.out).trans HX_w8.out).trans HX_w9.out).trans hxl.out).trans HX_we.out)⟩
        ·
          have hup : up s8 (2048 + cn) cn = s0 := HUP.out (by
            rcases hsv.out.1 rfl with h | ⟨x, hx, h⟩
            · exact HSM.out
            · exact .inr (.inr (fun h' => h (h' x hx))))
          have HU := Lib.hid hup
          clear hsv hup
          have hS0 : Ex (fun _ => False) wr wr.drew := (Ex.refl _ wr).drew
          refine wp_region_held_drew (S := fun W => Ex (fun _ => False) wr W) (by kernel_rfl) hS0 (fun _ => ?_)
          refine wpAnyH_take (i := 0) (oi := { dst := some 82, op := Go.Op.move (Go.Operand.tmp 3), type := 4, pos := "more.go:36", after := #[], guard := none }) (v := ?v251) rfl (by kernel_rfl) (by kernel_rfl) (by kernel_rfl) (fun _ _ _ h => h) (Or.inl ⟨by rfl, ?hy251⟩) (by assumption) ?rest251
          case hy251 => (intro w hSw; (try dsimp only at hSw); have ea0 := hSw.cell a0 id; have ea1 := hSw.cell a1 id; have ea2 := hSw.cell a2 id; have ea3 := hSw.cell a3 id; have ed0 := hSw.cell d0 id; have ed1 := hSw.cell d1 id; have ed2 := hSw.cell d2 id; have ed3 := hSw.cell d3 id; have ecxb_1 := hSw.cell cxb_1 id; go_simp <;> with_reducible rfl)
          try simp only [Act.put, List.setIfInBounds_toArray, List.set_cons_zero, List.set_cons_succ]
          refine wpAnyH_take (i := 1) (oi := { dst := some 83, op := Go.Op.move (Go.Operand.tmp 82), type := 4, pos := "more.go:36", after := #[{ on := 0, ground := Go.Ground.data }], guard := none }) (v := ?v252) rfl (by kernel_rfl) (by kernel_rfl) (by kernel_rfl) (fun _ _ _ h => h) (Or.inl ⟨by rfl, ?hy252⟩) (by assumption) ?rest252
          case hy252 => (intro w hSw; (try dsimp only at hSw); have ea0 := hSw.cell a0 id; have ea1 := hSw.cell a1 id; have ea2 := hSw.cell a2 id; have ea3 := hSw.cell a3 id; have ed0 := hSw.cell d0 id; have ed1 := hSw.cell d1 id; have ed2 := hSw.cell d2 id; have ed3 := hSw.cell d3 id; have ecxb_1 := hSw.cell cxb_1 id; go_simp <;> with_reducible rfl)
          try simp only [Act.put, List.setIfInBounds_toArray, List.set_cons_zero, List.set_cons_succ]
          refine wpAnyH_take (i := 2) (oi := { dst := some 84, op := Go.Op.move (Go.Operand.tmp 4), type := 23, pos := "more.go:36", after := #[{ on := 1, ground := Go.Ground.guard }], guard := some (1, true) }) (v := ?v253) rfl (by kernel_rfl) (by kernel_rfl) (by kernel_rfl) (fun _ _ _ h => h) (Or.inl ⟨by rfl, ?hy253⟩) (by assumption) ?rest253
          case hy253 => (intro w hSw; (try dsimp only at hSw); have ea0 := hSw.cell a0 id; have ea1 := hSw.cell a1 id; have ea2 := hSw.cell a2 id; have ea3 := hSw.cell a3 id; have ed0 := hSw.cell d0 id; have ed1 := hSw.cell d1 id; have ed2 := hSw.cell d2 id; have ed3 := hSw.cell d3 id; have ecxb_1 := hSw.cell cxb_1 id; go_simp <;> with_reducible rfl)
          try simp only [Act.put, List.setIfInBounds_toArray, List.set_cons_zero, List.set_cons_succ]
          refine wpAnyH_take (i := 3) (oi := { dst := some 85, op := Go.Op.slice 23 (Go.Operand.tmp 84) (some (Go.Operand.const (Go.Value.int Go.IntKind.i64 4))) none none, type := 23, pos := "more.go:36", after := #[{ on := 2, ground := Go.Ground.data }, { on := 1, ground := Go.Ground.guard }], guard := some (1, true) }) (v := ?v254) rfl (by kernel_rfl) (by kernel_rfl) (by kernel_rfl) (fun _ _ _ h => h) (Or.inl ⟨by rfl, ?hy254⟩) (by assumption) ?rest254
          case hy254 => (intro w hSw; (try dsimp only at hSw); have ea0 := hSw.cell a0 id; have ea1 := hSw.cell a1 id; have ea2 := hSw.cell a2 id; have ea3 := hSw.cell a3 id; have ed0 := hSw.cell d0 id; have ed1 := hSw.cell d1 id; have ed2 := hSw.cell d2 id; have ed3 := hSw.cell d3 id; have ecxb_1 := hSw.cell cxb_1 id; go_simp <;> with_reducible rfl)
          try simp only [Act.put, List.setIfInBounds_toArray, List.set_cons_zero, List.set_cons_succ]
          refine wpAnyH_take (i := 4) (oi := { dst := some 86, op := Go.Op.convert 23 9 (Go.Operand.tmp 85), type := 9, pos := "more.go:36", after := #[{ on := 3, ground := Go.Ground.data }, { on := 1, ground := Go.Ground.guard }], guard := some (1, true) }) (v := ?v255) rfl (by kernel_rfl) (by kernel_rfl) (by kernel_rfl) (fun _ _ _ h => h) (Or.inl ⟨by rfl, ?hy255⟩) (by assumption) ?rest255
          case hy255 => (intro w hSw; (try dsimp only at hSw); have ea0 := hSw.cell a0 id; have ea1 := hSw.cell a1 id; have ea2 := hSw.cell a2 id; have ea3 := hSw.cell a3 id; have ed0 := hSw.cell d0 id; have ed1 := hSw.cell d1 id; have ed2 := hSw.cell d2 id; have ed3 := hSw.cell d3 id; have ecxb_1 := hSw.cell cxb_1 id; have eq := (RB.keep R8l.out hSw (fun _ _ _ => id)).str (Pr := Try.prog) 23 9 5 Try.underlying23 Try.underlying5 Try.underlying9; go_simp <;> with_reducible rfl)
          try simp only [Act.put, List.setIfInBounds_toArray, List.set_cons_zero, List.set_cons_succ]
          refine wpAnyH_take (i := 5) (oi := { dst := some 87, op := Go.Op.move (Go.Operand.tmp 5), type := 23, pos := "more.go:36", after := #[{ on := 1, ground := Go.Ground.guard }], guard := some (1, true) }) (v := ?v256) rfl (by kernel_rfl) (by kernel_rfl) (by kernel_rfl) (fun _ _ _ h => h) (Or.inl ⟨by rfl, ?hy256⟩) (by assumption) ?rest256
          case hy256 => (intro w hSw; (try dsimp only at hSw); have ea0 := hSw.cell a0 id; have ea1 := hSw.cell a1 id; have ea2 := hSw.cell a2 id; have ea3 := hSw.cell a3 id; have ed0 := hSw.cell d0 id; have ed1 := hSw.cell d1 id; have ed2 := hSw.cell d2 id; have ed3 := hSw.cell d3 id; have ecxb_1 := hSw.cell cxb_1 id; go_simp <;> with_reducible rfl)
          try simp only [Act.put, List.setIfInBounds_toArray, List.set_cons_zero, List.set_cons_succ]
          refine wpAnyH_take (i := 6) (oi := { dst := some 88, op := Go.Op.slice 23 (Go.Operand.tmp 87) (some (Go.Operand.const (Go.Value.int Go.IntKind.i64 4))) none none, type := 23, pos := "more.go:36", after := #[{ on := 5, ground := Go.Ground.data }, { on := 1, ground := Go.Ground.guard }], guard := some (1, true) }) (v := ?v257) rfl (by kernel_rfl) (by kernel_rfl) (by kernel_rfl) (fun _ _ _ h => h) (Or.inl ⟨by rfl, ?hy257⟩) (by assumption) ?rest257
          case hy257 => (intro w hSw; (try dsimp only at hSw); have ea0 := hSw.cell a0 id; have ea1 := hSw.cell a1 id; have ea2 := hSw.cell a2 id; have ea3 := hSw.cell a3 id; have ed0 := hSw.cell d0 id; have ed1 := hSw.cell d1 id; have ed2 := hSw.cell d2 id; have ed3 := hSw.cell d3 id; have ecxb_1 := hSw.cell cxb_1 id; go_simp <;> with_reducible rfl)
          try simp only [Act.put, List.setIfInBounds_toArray, List.set_cons_zero, List.set_cons_succ]
          refine wpAnyH_take (i := 7) (oi := { dst := some 89, op := Go.Op.convert 23 9 (Go.Operand.tmp 88), type := 9, pos := "more.go:36", after := #[{ on := 6, ground := Go.Ground.data }, { on := 1, ground := Go.Ground.guard }], guard := some (1, true) }) (v := ?v258) rfl (by kernel_rfl) (by kernel_rfl) (by kernel_rfl) (fun _ _ _ h => h) (Or.inl ⟨by rfl, ?hy258⟩) (by assumption) ?rest258
          case hy258 => (intro w hSw; (try dsimp only at hSw); have ea0 := hSw.cell a0 id; have ea1 := hSw.cell a1 id; have ea2 := hSw.cell a2 id; have ea3 := hSw.cell a3 id; have ed0 := hSw.cell d0 id; have ed1 := hSw.cell d1 id; have ed2 := hSw.cell d2 id; have ed3 := hSw.cell d3 id; have ecxb_1 := hSw.cell cxb_1 id; have eq := (RB.keep R0l.out hSw (fun _ _ _ => id)).str (Pr := Try.prog) 23 9 5 Try.underlying23 Try.underlying5 Try.underlying9; go_simp <;> with_reducible rfl)
          try simp only [Act.put, List.setIfInBounds_toArray, List.set_cons_zero, List.set_cons_succ]
          refine wpAnyH_take (i := 8) (oi := { dst := some 90, op := Go.Op.binOp Go.BinOp.eql 9 (Go.Operand.tmp 86) (Go.Operand.tmp 89) 9, type := 4, pos := "more.go:36", after := #[{ on := 4, ground := Go.Ground.data }, { on := 7, ground := Go.Ground.data }, { on := 1, ground := Go.Ground.guard }], guard := some (1, true) }) (v := ?v259) rfl (by kernel_rfl) (by kernel_rfl) (by kernel_rfl) (fun _ _ _ h => h) (Or.inl ⟨by rfl, ?hy259⟩) (by assumption) ?rest259
          case hy259 => (intro w hSw; (try dsimp only at hSw); have ea0 := hSw.cell a0 id; have ea1 := hSw.cell a1 id; have ea2 := hSw.cell a2 id; have ea3 := hSw.cell a3 id; have ed0 := hSw.cell d0 id; have ed1 := hSw.cell d1 id; have ed2 := hSw.cell d2 id; have ed3 := hSw.cell d3 id; have ecxb_1 := hSw.cell cxb_1 id; go_simp <;> with_reducible rfl)
          try simp only [Act.put, List.setIfInBounds_toArray, List.set_cons_zero, List.set_cons_succ]
          refine wpAnyH_take (i := 9) (oi := { dst := some 91, op := Go.Op.pick (Go.Operand.tmp 83) (Go.Operand.tmp 90) (Go.Operand.const (Go.Value.bool false)), type := 4, pos := "more.go:36", after := #[{ on := 1, ground := Go.Ground.data }, { on := 8, ground := Go.Ground.data }], guard := none }) (v := ?v260) rfl (by kernel_rfl) (by kernel_rfl) (by kernel_rfl) (fun _ _ _ h => h) (Or.inl ⟨by rfl, ?hy260⟩) (by assumption) ?rest260
          case hy260 => (intro w hSw; (try dsimp only at hSw); have ea0 := hSw.cell a0 id; have ea1 := hSw.cell a1 id; have ea2 := hSw.cell a2 id; have ea3 := hSw.cell a3 id; have ed0 := hSw.cell d0 id; have ed1 := hSw.cell d1 id; have ed2 := hSw.cell d2 id; have ed3 := hSw.cell d3 id; have ecxb_1 := hSw.cell cxb_1 id; go_simp <;> with_reducible rfl)
          try simp only [Act.put, List.setIfInBounds_toArray, List.set_cons_zero, List.set_cons_succ]
          refine wpAnyH_take (i := 10) (oi := { dst := some 92, op := Go.Op.move (Go.Operand.tmp 91), type := 4, pos := "more.go:36", after := #[{ on := 9, ground := Go.Ground.data }, { on := 1, ground := Go.Ground.chain }], guard := none }) (v := ?v261) rfl (by kernel_rfl) (by kernel_rfl) (by kernel_rfl) (fun _ _ _ h => h) (Or.inl ⟨by rfl, ?hy261⟩) (by assumption) ?rest261
          case hy261 => (intro w hSw; (try dsimp only at hSw); have ea0 := hSw.cell a0 id; have ea1 := hSw.cell a1 id; have ea2 := hSw.cell a2 id; have ea3 := hSw.cell a3 id; have ed0 := hSw.cell d0 id; have ed1 := hSw.cell d1 id; have ed2 := hSw.cell d2 id; have ed3 := hSw.cell d3 id; have ecxb_1 := hSw.cell cxb_1 id; go_simp <;> with_reducible rfl)
          try simp only [Act.put, List.setIfInBounds_toArray, List.set_cons_zero, List.set_cons_succ]
          refine wpAnyH_take (i := 11) (oi := { dst := some 93, op := Go.Op.move (Go.Operand.tmp 4), type := 23, pos := "more.go:36", after := #[{ on := 10, ground := Go.Ground.guard }], guard := some (10, true) }) (v := ?v262) rfl (by kernel_rfl) (by kernel_rfl) (by kernel_rfl) (fun _ _ _ h => h) (Or.inl ⟨by rfl, ?hy262⟩) (by assumption) ?rest262
          case hy262 => (intro w hSw; (try dsimp only at hSw); have ea0 := hSw.cell a0 id; have ea1 := hSw.cell a1 id; have ea2 := hSw.cell a2 id; have ea3 := hSw.cell a3 id; have ed0 := hSw.cell d0 id; have ed1 := hSw.cell d1 id; have ed2 := hSw.cell d2 id; have ed3 := hSw.cell d3 id; have ecxb_1 := hSw.cell cxb_1 id; go_simp <;> with_reducible rfl)
          try simp only [Act.put, List.setIfInBounds_toArray, List.set_cons_zero, List.set_cons_succ]
          refine wpAnyH_take (i := 12) (oi := { dst := some 94, op := Go.Op.indexAddr 23 (Go.Operand.tmp 93) (Go.Operand.const (Go.Value.int Go.IntKind.i64 0)), type := 0, pos := "more.go:36", after := #[{ on := 11, ground := Go.Ground.data }, { on := 10, ground := Go.Ground.guard }], guard := some (10, true) }) (v := ?v263) rfl (by kernel_rfl) (by kernel_rfl) (by kernel_rfl) (fun _ _ _ h => h) (Or.inl ⟨by rfl, ?hy263⟩) (by assumption) ?rest263
          case hy263 => (intro w hSw; (try dsimp only at hSw); have ea0 := hSw.cell a0 id; have ea1 := hSw.cell a1 id; have ea2 := hSw.cell a2 id; have ea3 := hSw.cell a3 id; have ed0 := hSw.cell d0 id; have ed1 := hSw.cell d1 id; have ed2 := hSw.cell d2 id; have ed3 := hSw.cell d3 id; have ecxb_1 := hSw.cell cxb_1 id; go_simp <;> with_reducible rfl)
          try simp only [Act.put, List.setIfInBounds_toArray, List.set_cons_zero, List.set_cons_succ]
          refine wpAnyH_take (i := 13) (oi := { dst := some 95, op := Go.Op.load 5 (Go.Operand.tmp 94), type := 5, pos := "more.go:36", after := #[{ on := 12, ground := Go.Ground.data }, { on := 10, ground := Go.Ground.guard }], guard := some (10, true) }) (v := ?v264) rfl (by kernel_rfl) (by kernel_rfl) (by kernel_rfl) (fun _ _ _ h => h) (Or.inl ⟨by rfl, ?hy264⟩) (by assumption) ?rest264
          case hy264 => (intro w hSw; (try dsimp only at hSw); have ea0 := hSw.cell a0 id; have ea1 := hSw.cell a1 id; have ea2 := hSw.cell a2 id; have ea3 := hSw.cell a3 id; have ed0 := hSw.cell d0 id; have ed1 := hSw.cell d1 id; have ed2 := hSw.cell d2 id; have ed3 := hSw.cell d3 id; have ecxb_1 := hSw.cell cxb_1 id; go_simp <;> with_reducible rfl)
          try simp only [Act.put, List.setIfInBounds_toArray, List.set_cons_zero, List.set_cons_succ]
          refine wpAnyH_take (i := 14) (oi := { dst := some 96, op := Go.Op.binOp Go.BinOp.eql 5 (Go.Operand.tmp 95) (Go.Operand.const (Go.Value.int Go.IntKind.u8 8)) 5, type := 4, pos := "more.go:36", after := #[{ on := 13, ground := Go.Ground.data }, { on := 10, ground := Go.Ground.guard }], guard := some (10, true) }) (v := ?v265) rfl (by kernel_rfl) (by kernel_rfl) (by kernel_rfl) (fun _ _ _ h => h) (Or.inl ⟨by rfl, ?hy265⟩) (by assumption) ?rest265
          case hy265 => (intro w hSw; (try dsimp only at hSw); have ea0 := hSw.cell a0 id; have ea1 := hSw.cell a1 id; have ea2 := hSw.cell a2 id; have ea3 := hSw.cell a3 id; have ed0 := hSw.cell d0 id; have ed1 := hSw.cell d1 id; have ed2 := hSw.cell d2 id; have ed3 := hSw.cell d3 id; have ecxb_1 := hSw.cell cxb_1 id; go_simp <;> with_reducible rfl)
          try simp only [Act.put, List.setIfInBounds_toArray, List.set_cons_zero, List.set_cons_succ]
          refine wpAnyH_take (i := 15) (oi := { dst := some 97, op := Go.Op.pick (Go.Operand.tmp 92) (Go.Operand.tmp 96) (Go.Operand.const (Go.Value.bool false)), type := 4, pos := "more.go:36", after := #[{ on := 10, ground := Go.Ground.data }, { on := 14, ground := Go.Ground.data }], guard := none }) (v := ?v266) rfl (by kernel_rfl) (by kernel_rfl) (by kernel_rfl) (fun _ _ _ h => h) (Or.inl ⟨by rfl, ?hy266⟩) (by assumption) ?rest266
          case hy266 => (intro w hSw; (try dsimp only at hSw); have ea0 := hSw.cell a0 id; have ea1 := hSw.cell a1 id; have ea2 := hSw.cell a2 id; have ea3 := hSw.cell a3 id; have ed0 := hSw.cell d0 id; have ed1 := hSw.cell d1 id; have ed2 := hSw.cell d2 id; have ed3 := hSw.cell d3 id; have ecxb_1 := hSw.cell cxb_1 id; go_simp <;> with_reducible rfl)
          try simp only [Act.put, List.setIfInBounds_toArray, List.set_cons_zero, List.set_cons_succ]
          refine wpAnyH_take (i := 16) (oi := { dst := some 98, op := Go.Op.move (Go.Operand.tmp 97), type := 4, pos := "more.go:36", after := #[{ on := 15, ground := Go.Ground.data }, { on := 10, ground := Go.Ground.chain }], guard := none }) (v := ?v267) rfl (by kernel_rfl) (by kernel_rfl) (by kernel_rfl) (fun _ _ _ h => h) (Or.inl ⟨by rfl, ?hy267⟩) (by assumption) ?rest267
          case hy267 => (intro w hSw; (try dsimp only at hSw); have ea0 := hSw.cell a0 id; have ea1 := hSw.cell a1 id; have ea2 := hSw.cell a2 id; have ea3 := hSw.cell a3 id; have ed0 := hSw.cell d0 id; have ed1 := hSw.cell d1 id; have ed2 := hSw.cell d2 id; have ed3 := hSw.cell d3 id; have ecxb_1 := hSw.cell cxb_1 id; go_simp <;> with_reducible rfl)
          try simp only [Act.put, List.setIfInBounds_toArray, List.set_cons_zero, List.set_cons_succ]
          refine wpAnyH_take (i := 17) (oi := { dst := some 99, op := Go.Op.move (Go.Operand.tmp 5), type := 23, pos := "more.go:36", after := #[{ on := 16, ground := Go.Ground.guard }], guard := some (16, true) }) (v := ?v268) rfl (by kernel_rfl) (by kernel_rfl) (by kernel_rfl) (fun _ _ _ h => h) (Or.inl ⟨by rfl, ?hy268⟩) (by assumption) ?rest268
          case hy268 => (intro w hSw; (try dsimp only at hSw); have ea0 := hSw.cell a0 id; have ea1 := hSw.cell a1 id; have ea2 := hSw.cell a2 id; have ea3 := hSw.cell a3 id; have ed0 := hSw.cell d0 id; have ed1 := hSw.cell d1 id; have ed2 := hSw.cell d2 id; have ed3 := hSw.cell d3 id; have ecxb_1 := hSw.cell cxb_1 id; go_simp <;> with_reducible rfl)
          try simp only [Act.put, List.setIfInBounds_toArray, List.set_cons_zero, List.set_cons_succ]
          refine wpAnyH_take (i := 18) (oi := { dst := some 100, op := Go.Op.indexAddr 23 (Go.Operand.tmp 99) (Go.Operand.const (Go.Value.int Go.IntKind.i64 0)), type := 0, pos := "more.go:36", after := #[{ on := 17, ground := Go.Ground.data }, { on := 16, ground := Go.Ground.guard }], guard := some (16, true) }) (v := ?v269) rfl (by kernel_rfl) (by kernel_rfl) (by kernel_rfl) (fun _ _ _ h => h) (Or.inl ⟨by rfl, ?hy269⟩) (by assumption) ?rest269
          case hy269 => (intro w hSw; (try dsimp only at hSw); have ea0 := hSw.cell a0 id; have ea1 := hSw.cell a1 id; have ea2 := hSw.cell a2 id; have ea3 := hSw.cell a3 id; have ed0 := hSw.cell d0 id; have ed1 := hSw.cell d1 id; have ed2 := hSw.cell d2 id; have ed3 := hSw.cell d3 id; have ecxb_1 := hSw.cell cxb_1 id; go_simp <;> with_reducible rfl)
          try simp only [Act.put, List.setIfInBounds_toArray, List.set_cons_zero, List.set_cons_succ]
          refine wpAnyH_take (i := 19) (oi := { dst := some 101, op := Go.Op.load 5 (Go.Operand.tmp 100), type := 5, pos := "more.go:36", after := #[{ on := 18, ground := Go.Ground.data }, { on := 16, ground := Go.Ground.guard }], guard := some (16, true) }) (v := ?v270) rfl (by kernel_rfl) (by kernel_rfl) (by kernel_rfl) (fun _ _ _ h => h) (Or.inl ⟨by rfl, ?hy270⟩) (by assumption) ?rest270
          case hy270 => (intro w hSw; (try dsimp only at hSw); have ea0 := hSw.cell a0 id; have ea1 := hSw.cell a1 id; have ea2 := hSw.cell a2 id; have ea3 := hSw.cell a3 id; have ed0 := hSw.cell d0 id; have ed1 := hSw.cell d1 id; have ed2 := hSw.cell d2 id; have ed3 := hSw.cell d3 id; have ecxb_1 := hSw.cell cxb_1 id; go_simp <;> with_reducible rfl)
          try simp only [Act.put, List.setIfInBounds_toArray, List.set_cons_zero, List.set_cons_succ]
          refine wpAnyH_take (i := 20) (oi := { dst := some 102, op := Go.Op.binOp Go.BinOp.eql 5 (Go.Operand.tmp 101) (Go.Operand.const (Go.Value.int Go.IntKind.u8 0)) 5, type := 4, pos := "more.go:36", after := #[{ on := 19, ground := Go.Ground.data }, { on := 16, ground := Go.Ground.guard }], guard := some (16, true) }) (v := ?v271) rfl (by kernel_rfl) (by kernel_rfl) (by kernel_rfl) (fun _ _ _ h => h) (Or.inl ⟨by rfl, ?hy271⟩) (by assumption) ?rest271
          case hy271 => (intro w hSw; (try dsimp only at hSw); have ea0 := hSw.cell a0 id; have ea1 := hSw.cell a1 id; have ea2 := hSw.cell a2 id; have ea3 := hSw.cell a3 id; have ed0 := hSw.cell d0 id; have ed1 := hSw.cell d1 id; have ed2 := hSw.cell d2 id; have ed3 := hSw.cell d3 id; have ecxb_1 := hSw.cell cxb_1 id; go_simp <;> with_reducible rfl)
          try simp only [Act.put, List.setIfInBounds_toArray, List.set_cons_zero, List.set_cons_succ]
          refine wpAnyH_take (i := 21) (oi := { dst := some 103, op := Go.Op.pick (Go.Operand.tmp 98) (Go.Operand.tmp 102) (Go.Operand.const (Go.Value.bool false)), type := 4, pos := "more.go:36", after := #[{ on := 16, ground := Go.Ground.data }, { on := 20, ground := Go.Ground.data }], guard := none }) (v := ?v272) rfl (by kernel_rfl) (by kernel_rfl) (by kernel_rfl) (fun _ _ _ h => h) (Or.inl ⟨by rfl, ?hy272⟩) (by assumption) ?rest272
          case hy272 => (intro w hSw; (try dsimp only at hSw); have ea0 := hSw.cell a0 id; have ea1 := hSw.cell a1 id; have ea2 := hSw.cell a2 id; have ea3 := hSw.cell a3 id; have ed0 := hSw.cell d0 id; have ed1 := hSw.cell d1 id; have ed2 := hSw.cell d2 id; have ed3 := hSw.cell d3 id; have ecxb_1 := hSw.cell cxb_1 id; go_simp <;> with_reducible rfl)
          try simp only [Act.put, List.setIfInBounds_toArray, List.set_cons_zero, List.set_cons_succ]
          refine wpAnyH_take (i := 22) (oi := { dst := some 104, op := Go.Op.move (Go.Operand.tmp 103), type := 4, pos := "more.go:36", after := #[{ on := 21, ground := Go.Ground.data }, { on := 16, ground := Go.Ground.chain }], guard := none }) (v := ?v273) rfl (by kernel_rfl) (by kernel_rfl) (by kernel_rfl) (fun _ _ _ h => h) (Or.inl ⟨by rfl, ?hy273⟩) (by assumption) ?rest273
          case hy273 => (intro w hSw; (try dsimp only at hSw); have ea0 := hSw.cell a0 id; have ea1 := hSw.cell a1 id; have ea2 := hSw.cell a2 id; have ea3 := hSw.cell a3 id; have ed0 := hSw.cell d0 id; have ed1 := hSw.cell d1 id; have ed2 := hSw.cell d2 id; have ed3 := hSw.cell d3 id; have ecxb_1 := hSw.cell cxb_1 id; go_simp <;> with_reducible rfl)
          try simp only [Act.put, List.setIfInBounds_toArray, List.set_cons_zero, List.set_cons_succ]
          refine wpAnyH_take (i := 23) (oi := { dst := some 105, op := Go.Op.move (Go.Operand.tmp 4), type := 23, pos := "more.go:36", after := #[{ on := 22, ground := Go.Ground.guard }], guard := some (22, true) }) (v := ?v274) rfl (by kernel_rfl) (by kernel_rfl) (by kernel_rfl) (fun _ _ _ h => h) (Or.inl ⟨by rfl, ?hy274⟩) (by assumption) ?rest274
          case hy274 => (intro w hSw; (try dsimp only at hSw); have ea0 := hSw.cell a0 id; have ea1 := hSw.cell a1 id; have ea2 := hSw.cell a2 id; have ea3 := hSw.cell a3 id; have ed0 := hSw.cell d0 id; have ed1 := hSw.cell d1 id; have ed2 := hSw.cell d2 id; have ed3 := hSw.cell d3 id; have ecxb_1 := hSw.cell cxb_1 id; go_simp <;> with_reducible rfl)
          try simp only [Act.put, List.setIfInBounds_toArray, List.set_cons_zero, List.set_cons_succ]
          refine wpAnyH_take (i := 24) (oi := { dst := some 106, op := Go.Op.indexAddr 23 (Go.Operand.tmp 105) (Go.Operand.const (Go.Value.int Go.IntKind.i64 1)), type := 0, pos := "more.go:36", after := #[{ on := 23, ground := Go.Ground.data }, { on := 22, ground := Go.Ground.guard }], guard := some (22, true) }) (v := ?v275) rfl (by kernel_rfl) (by kernel_rfl) (by kernel_rfl) (fun _ _ _ h => h) (Or.inl ⟨by rfl, ?hy275⟩) (by assumption) ?rest275
          case hy275 => (intro w hSw; (try dsimp only at hSw); have ea0 := hSw.cell a0 id; have ea1 := hSw.cell a1 id; have ea2 := hSw.cell a2 id; have ea3 := hSw.cell a3 id; have ed0 := hSw.cell d0 id; have ed1 := hSw.cell d1 id; have ed2 := hSw.cell d2 id; have ed3 := hSw.cell d3 id; have ecxb_1 := hSw.cell cxb_1 id; go_simp <;> with_reducible rfl)
          try simp only [Act.put, List.setIfInBounds_toArray, List.set_cons_zero, List.set_cons_succ]
          refine wpAnyH_take (i := 25) (oi := { dst := some 107, op := Go.Op.load 5 (Go.Operand.tmp 106), type := 5, pos := "more.go:36", after := #[{ on := 24, ground := Go.Ground.data }, { on := 22, ground := Go.Ground.guard }], guard := some (22, true) }) (v := ?v276) rfl (by kernel_rfl) (by kernel_rfl) (by kernel_rfl) (fun _ _ _ h => h) (Or.inl ⟨by rfl, ?hy276⟩) (by assumption) ?rest276
          case hy276 => (intro w hSw; (try dsimp only at hSw); have ea0 := hSw.cell a0 id; have ea1 := hSw.cell a1 id; have ea2 := hSw.cell a2 id; have ea3 := hSw.cell a3 id; have ed0 := hSw.cell d0 id; have ed1 := hSw.cell d1 id; have ed2 := hSw.cell d2 id; have ed3 := hSw.cell d3 id; have ecxb_1 := hSw.cell cxb_1 id; go_simp <;> with_reducible rfl)
          try simp only [Act.put, List.setIfInBounds_toArray, List.set_cons_zero, List.set_cons_succ]
          refine wpAnyH_take (i := 26) (oi := { dst := some 108, op := Go.Op.move (Go.Operand.tmp 5), type := 23, pos := "more.go:36", after := #[{ on := 22, ground := Go.Ground.guard }], guard := some (22, true) }) (v := ?v277) rfl (by kernel_rfl) (by kernel_rfl) (by kernel_rfl) (fun _ _ _ h => h) (Or.inl ⟨by rfl, ?hy277⟩) (by assumption) ?rest277
          case hy277 => (intro w hSw; (try dsimp only at hSw); have ea0 := hSw.cell a0 id; have ea1 := hSw.cell a1 id; have ea2 := hSw.cell a2 id; have ea3 := hSw.cell a3 id; have ed0 := hSw.cell d0 id; have ed1 := hSw.cell d1 id; have ed2 := hSw.cell d2 id; have ed3 := hSw.cell d3 id; have ecxb_1 := hSw.cell cxb_1 id; go_simp <;> with_reducible rfl)
          try simp only [Act.put, List.setIfInBounds_toArray, List.set_cons_zero, List.set_cons_succ]
          refine wpAnyH_take (i := 27) (oi := { dst := some 109, op := Go.Op.indexAddr 23 (Go.Operand.tmp 108) (Go.Operand.const (Go.Value.int Go.IntKind.i64 1)), type := 0, pos := "more.go:36", after := #[{ on := 26, ground := Go.Ground.data }, { on := 22, ground := Go.Ground.guard }], guard := some (22, true) }) (v := ?v278) rfl (by kernel_rfl) (by kernel_rfl) (by kernel_rfl) (fun _ _ _ h => h) (Or.inl ⟨by rfl, ?hy278⟩) (by assumption) ?rest278
          case hy278 => (intro w hSw; (try dsimp only at hSw); have ea0 := hSw.cell a0 id; have ea1 := hSw.cell a1 id; have ea2 := hSw.cell a2 id; have ea3 := hSw.cell a3 id; have ed0 := hSw.cell d0 id; have ed1 := hSw.cell d1 id; have ed2 := hSw.cell d2 id; have ed3 := hSw.cell d3 id; have ecxb_1 := hSw.cell cxb_1 id; go_simp <;> with_reducible rfl)
          try simp only [Act.put, List.setIfInBounds_toArray, List.set_cons_zero, List.set_cons_succ]
          refine wpAnyH_take (i := 28) (oi := { dst := some 110, op := Go.Op.load 5 (Go.Operand.tmp 109), type := 5, pos := "more.go:36", after := #[{ on := 27, ground := Go.Ground.data }, { on := 22, ground := Go.Ground.guard }], guard := some (22, true) }) (v := ?v279) rfl (by kernel_rfl) (by kernel_rfl) (by kernel_rfl) (fun _ _ _ h => h) (Or.inl ⟨by rfl, ?hy279⟩) (by assumption) ?rest279
          case hy279 => (intro w hSw; (try dsimp only at hSw); have ea0 := hSw.cell a0 id; have ea1 := hSw.cell a1 id; have ea2 := hSw.cell a2 id; have ea3 := hSw.cell a3 id; have ed0 := hSw.cell d0 id; have ed1 := hSw.cell d1 id; have ed2 := hSw.cell d2 id; have ed3 := hSw.cell d3 id; have ecxb_1 := hSw.cell cxb_1 id; go_simp <;> with_reducible rfl)
          try simp only [Act.put, List.setIfInBounds_toArray, List.set_cons_zero, List.set_cons_succ]
          refine wpAnyH_take (i := 29) (oi := { dst := some 111, op := Go.Op.binOp Go.BinOp.eql 5 (Go.Operand.tmp 107) (Go.Operand.tmp 110) 5, type := 4, pos := "more.go:36", after := #[{ on := 25, ground := Go.Ground.data }, { on := 28, ground := Go.Ground.data }, { on := 22, ground := Go.Ground.guard }], guard := some (22, true) }) (v := ?v280) rfl (by kernel_rfl) (by kernel_rfl) (by kernel_rfl) (fun _ _ _ h => h) (Or.inl ⟨by rfl, ?hy280⟩) (by assumption) ?rest280
          case hy280 => (intro w hSw; (try dsimp only at hSw); have ea0 := hSw.cell a0 id; have ea1 := hSw.cell a1 id; have ea2 := hSw.cell a2 id; have ea3 := hSw.cell a3 id; have ed0 := hSw.cell d0 id; have ed1 := hSw.cell d1 id; have ed2 := hSw.cell d2 id; have ed3 := hSw.cell d3 id; have ecxb_1 := hSw.cell cxb_1 id; go_simp <;> with_reducible rfl)
          try simp only [Act.put, List.setIfInBounds_toArray, List.set_cons_zero, List.set_cons_succ]
          refine wpAnyH_take (i := 30) (oi := { dst := some 112, op := Go.Op.pick (Go.Operand.tmp 104) (Go.Operand.tmp 111) (Go.Operand.const (Go.Value.bool false)), type := 4, pos := "more.go:36", after := #[{ on := 22, ground := Go.Ground.data }, { on := 29, ground := Go.Ground.data }], guard := none }) (v := ?v281) rfl (by kernel_rfl) (by kernel_rfl) (by kernel_rfl) (fun _ _ _ h => h) (Or.inl ⟨by rfl, ?hy281⟩) (by assumption) ?rest281
          case hy281 => (intro w hSw; (try dsimp only at hSw); have ea0 := hSw.cell a0 id; have ea1 := hSw.cell a1 id; have ea2 := hSw.cell a2 id; have ea3 := hSw.cell a3 id; have ed0 := hSw.cell d0 id; have ed1 := hSw.cell d1 id; have ed2 := hSw.cell d2 id; have ed3 := hSw.cell d3 id; have ecxb_1 := hSw.cell cxb_1 id; go_simp <;> with_reducible rfl)
          try simp only [Act.put, List.setIfInBounds_toArray, List.set_cons_zero, List.set_cons_succ]
          refine wpAnyH_take (i := 31) (oi := { dst := some 113, op := Go.Op.move (Go.Operand.tmp 112), type := 4, pos := "more.go:36", after := #[{ on := 30, ground := Go.Ground.data }, { on := 22, ground := Go.Ground.chain }], guard := none }) (v := ?v282) rfl (by kernel_rfl) (by kernel_rfl) (by kernel_rfl) (fun _ _ _ h => h) (Or.inl ⟨by rfl, ?hy282⟩) (by assumption) ?rest282
          case hy282 => (intro w hSw; (try dsimp only at hSw); have ea0 := hSw.cell a0 id; have ea1 := hSw.cell a1 id; have ea2 := hSw.cell a2 id; have ea3 := hSw.cell a3 id; have ed0 := hSw.cell d0 id; have ed1 := hSw.cell d1 id; have ed2 := hSw.cell d2 id; have ed3 := hSw.cell d3 id; have ecxb_1 := hSw.cell cxb_1 id; go_simp <;> with_reducible rfl)
          try simp only [Act.put, List.setIfInBounds_toArray, List.set_cons_zero, List.set_cons_succ]
          refine wpAnyH_take (i := 32) (oi := { dst := some 114, op := Go.Op.move (Go.Operand.tmp 9), type := 4, pos := "more.go:36", after := #[{ on := 31, ground := Go.Ground.guard }], guard := some (31, true) }) (v := ?v283) rfl (by kernel_rfl) (by kernel_rfl) (by kernel_rfl) (fun _ _ _ h => h) (Or.inl ⟨by rfl, ?hy283⟩) (by assumption) ?rest283
          case hy283 => (intro w hSw; (try dsimp only at hSw); have ea0 := hSw.cell a0 id; have ea1 := hSw.cell a1 id; have ea2 := hSw.cell a2 id; have ea3 := hSw.cell a3 id; have ed0 := hSw.cell d0 id; have ed1 := hSw.cell d1 id; have ed2 := hSw.cell d2 id; have ed3 := hSw.cell d3 id; have ecxb_1 := hSw.cell cxb_1 id; go_simp <;> with_reducible rfl)
          try simp only [Act.put, List.setIfInBounds_toArray, List.set_cons_zero, List.set_cons_succ]
          refine wpAnyH_take (i := 33) (oi := { dst := some 115, op := Go.Op.unOp Go.UnOp.not 4 (Go.Operand.tmp 114), type := 4, pos := "more.go:36", after := #[{ on := 32, ground := Go.Ground.data }, { on := 31, ground := Go.Ground.guard }], guard := some (31, true) }) (v := ?v284) rfl (by kernel_rfl) (by kernel_rfl) (by kernel_rfl) (fun _ _ _ h => h) (Or.inl ⟨by rfl, ?hy284⟩) (by assumption) ?rest284
          case hy284 => (intro w hSw; (try dsimp only at hSw); have ea0 := hSw.cell a0 id; have ea1 := hSw.cell a1 id; have ea2 := hSw.cell a2 id; have ea3 := hSw.cell a3 id; have ed0 := hSw.cell d0 id; have ed1 := hSw.cell d1 id; have ed2 := hSw.cell d2 id; have ed3 := hSw.cell d3 id; have ecxb_1 := hSw.cell cxb_1 id; go_simp <;> with_reducible rfl)
          try simp only [Act.put, List.setIfInBounds_toArray, List.set_cons_zero, List.set_cons_succ]
          refine wpAnyH_take (i := 34) (oi := { dst := some 116, op := Go.Op.move (Go.Operand.tmp 115), type := 4, pos := "more.go:36", after := #[{ on := 33, ground := Go.Ground.data }, { on := 31, ground := Go.Ground.chain }, { on := 31, ground := Go.Ground.guard }], guard := some (31, true) }) (v := ?v285) rfl (by kernel_rfl) (by kernel_rfl) (by kernel_rfl) (fun _ _ _ h => h) (Or.inl ⟨by rfl, ?hy285⟩) (by assumption) ?rest285
          case hy285 => (intro w hSw; (try dsimp only at hSw); have ea0 := hSw.cell a0 id; have ea1 := hSw.cell a1 id; have ea2 := hSw.cell a2 id; have ea3 := hSw.cell a3 id; have ed0 := hSw.cell d0 id; have ed1 := hSw.cell d1 id; have ed2 := hSw.cell d2 id; have ed3 := hSw.cell d3 id; have ecxb_1 := hSw.cell cxb_1 id; go_simp <;> with_reducible rfl)
          try simp only [Act.put, List.setIfInBounds_toArray, List.set_cons_zero, List.set_cons_succ]
          refine wpAnyH_take (i := 35) (oi := { dst := some 117, op := Go.Op.move (Go.Operand.tmp 6), type := 32, pos := "more.go:36", after := #[{ on := 34, ground := Go.Ground.guard }], guard := some (34, false) }) (v := ?v286) rfl (by kernel_rfl) (by kernel_rfl) (by kernel_rfl) (fun _ _ _ h => h) (Or.inl ⟨by rfl, ?hy286⟩) (by assumption) ?rest286
          case hy286 => (intro w hSw; (try dsimp only at hSw); have ea0 := hSw.cell a0 id; have ea1 := hSw.cell a1 id; have ea2 := hSw.cell a2 id; have ea3 := hSw.cell a3 id; have ed0 := hSw.cell d0 id; have ed1 := hSw.cell d1 id; have ed2 := hSw.cell d2 id; have ed3 := hSw.cell d3 id; have ecxb_1 := hSw.cell cxb_1 id; go_simp <;> with_reducible rfl)
          try simp only [Act.put, List.setIfInBounds_toArray, List.set_cons_zero, List.set_cons_succ]
          refine wpAnyH_take (i := 36) (oi := { dst := some 118, op := Go.Op.move (Go.Operand.tmp 8), type := 32, pos := "more.go:36", after := #[{ on := 34, ground := Go.Ground.guard }], guard := some (34, false) }) (v := ?v287) rfl (by kernel_rfl) (by kernel_rfl) (by kernel_rfl) (fun _ _ _ h => h) (Or.inl ⟨by rfl, ?hy287⟩) (by assumption) ?rest287
          case hy287 => (intro w hSw; (try dsimp only at hSw); have ea0 := hSw.cell a0 id; have ea1 := hSw.cell a1 id; have ea2 := hSw.cell a2 id; have ea3 := hSw.cell a3 id; have ed0 := hSw.cell d0 id; have ed1 := hSw.cell d1 id; have ed2 := hSw.cell d2 id; have ed3 := hSw.cell d3 id; have ecxb_1 := hSw.cell cxb_1 id; go_simp <;> with_reducible rfl)
          try simp only [Act.put, List.setIfInBounds_toArray, List.set_cons_zero, List.set_cons_succ]
          refine wpAnyH_take (i := 37) (oi := { dst := some 119, op := Go.Op.fieldAddr 25 (Go.Operand.tmp 1) 1, type := 0, pos := "more.go:36", after := #[{ on := 34, ground := Go.Ground.guard }], guard := some (34, false) }) (v := ?v288) rfl (by kernel_rfl) (by kernel_rfl) (by kernel_rfl) (fun _ _ _ h => h) (Or.inl ⟨by rfl, ?hy288⟩) (by assumption) ?rest288
          case hy288 => (intro w hSw; (try dsimp only at hSw); have ea0 := hSw.cell a0 id; have ea1 := hSw.cell a1 id; have ea2 := hSw.cell a2 id; have ea3 := hSw.cell a3 id; have ed0 := hSw.cell d0 id; have ed1 := hSw.cell d1 id; have ed2 := hSw.cell d2 id; have ed3 := hSw.cell d3 id; have ecxb_1 := hSw.cell cxb_1 id; go_simp <;> with_reducible rfl)
          try simp only [Act.put, List.setIfInBounds_toArray, List.set_cons_zero, List.set_cons_succ]
          refine wpAnyH_take (i := 38) (oi := { dst := some 120, op := Go.Op.load 5 (Go.Operand.tmp 119), type := 5, pos := "more.go:36", after := #[{ on := 37, ground := Go.Ground.data }, { on := 34, ground := Go.Ground.guard }], guard := some (34, false) }) (v := ?v289) rfl (by kernel_rfl) (by kernel_rfl) (by kernel_rfl) (fun _ _ _ h => h) (Or.inl ⟨by rfl, ?hy289⟩) (by assumption) ?rest289
          case hy289 => (intro w hSw; (try dsimp only at hSw); have ea0 := hSw.cell a0 id; have ea1 := hSw.cell a1 id; have ea2 := hSw.cell a2 id; have ea3 := hSw.cell a3 id; have ed0 := hSw.cell d0 id; have ed1 := hSw.cell d1 id; have ed2 := hSw.cell d2 id; have ed3 := hSw.cell d3 id; have ecxb_1 := hSw.cell cxb_1 id; go_simp <;> with_reducible rfl)
          try simp only [Act.put, List.setIfInBounds_toArray, List.set_cons_zero, List.set_cons_succ]
          refine wpAnyH_take (i := 39) (oi := { dst := some 121, op := Go.Op.convert 5 32 (Go.Operand.tmp 120), type := 32, pos := "more.go:36", after := #[{ on := 38, ground := Go.Ground.data }, { on := 34, ground := Go.Ground.guard }], guard := some (34, false) }) (v := ?v290) rfl (by kernel_rfl) (by kernel_rfl) (by kernel_rfl) (fun _ _ _ h => h) (Or.inl ⟨by rfl, ?hy290⟩) (by assumption) ?rest290
          case hy290 => (intro w hSw; (try dsimp only at hSw); have ea0 := hSw.cell a0 id; have ea1 := hSw.cell a1 id; have ea2 := hSw.cell a2 id; have ea3 := hSw.cell a3 id; have ed0 := hSw.cell d0 id; have ed1 := hSw.cell d1 id; have ed2 := hSw.cell d2 id; have ed3 := hSw.cell d3 id; have ecxb_1 := hSw.cell cxb_1 id; go_simp <;> with_reducible rfl)
          try simp only [Act.put, List.setIfInBounds_toArray, List.set_cons_zero, List.set_cons_succ]
          refine wpAnyH_take (i := 41) (oi := { dst := some 123, op := Go.Op.move (Go.Operand.tmp 7), type := 32, pos := "more.go:36", after := #[{ on := 34, ground := Go.Ground.guard }], guard := some (34, false) }) (v := ?v291) rfl (by kernel_rfl) (by kernel_rfl) (by kernel_rfl) (fun _ _ _ h => h) (Or.inl ⟨by rfl, ?hy291⟩) (by assumption) ?rest291
          case hy291 => (intro w hSw; (try dsimp only at hSw); have ea0 := hSw.cell a0 id; have ea1 := hSw.cell a1 id; have ea2 := hSw.cell a2 id; have ea3 := hSw.cell a3 id; have ed0 := hSw.cell d0 id; have ed1 := hSw.cell d1 id; have ed2 := hSw.cell d2 id; have ed3 := hSw.cell d3 id; have ecxb_1 := hSw.cell cxb_1 id; go_simp <;> with_reducible rfl)
          try simp only [Act.put, List.setIfInBounds_toArray, List.set_cons_zero, List.set_cons_succ]
          refine wpAnyH_ready (rs := [40]) (by kernel_rfl) (by simp) ?_
          refine AllReadyH.cons (o := { dst := some 122, op := Go.Op.call { callee := Go.Callee.value (Go.Operand.func 12), args := #[Go.Operand.tmp 117, Go.Operand.tmp 118, Go.Operand.tmp 121], argTypes := #[32, 32, 32] }, type := 32, pos := "more.go:36", after := #[{ on := 35, ground := Go.Ground.data }, { on := 36, ground := Go.Ground.data }, { on := 39, ground := Go.Ground.data }, { on := 34, ground := Go.Ground.chain }, { on := 34, ground := Go.Ground.guard }], guard := some (34, false) }) rfl (fun K hK => ?_) AllReadyH.nil
          go_simp
          refine (update_int (s8 : Int) (2048 + (cn : Int)) (cn : Int) (by omega) (by omega) (by omega) _).mono ?_
          rintro e we ⟨rfl, hwe⟩
          have hS1 : Ex (fun _ => False) wr we := by rw [← hwe]; exact hS0
          rw [show ((2048 : Int) + (cn : Int)).toNat = 2048 + cn by omega, Int.toNat_natCast, Int.toNat_natCast, HU.out]
          refine hK.out _ _ hS1 (fun _ => ?_)
          refine wpAnyH_take (i := 42) (oi := { dst := some 124, op := Go.Op.binOp Go.BinOp.eql 32 (Go.Operand.tmp 122) (Go.Operand.tmp 123) 32, type := 4, pos := "more.go:36", after := #[{ on := 40, ground := Go.Ground.data }, { on := 41, ground := Go.Ground.data }, { on := 34, ground := Go.Ground.guard }], guard := some (34, false) }) (v := ?v292) rfl (by kernel_rfl) (by kernel_rfl) (by kernel_rfl) (fun _ _ _ h => h) (Or.inl ⟨by rfl, ?hy292⟩) (by assumption) ?rest292
          case hy292 => (intro w hSw; (try dsimp only at hSw); have ea0 := hSw.cell a0 id; have ea1 := hSw.cell a1 id; have ea2 := hSw.cell a2 id; have ea3 := hSw.cell a3 id; have ed0 := hSw.cell d0 id; have ed1 := hSw.cell d1 id; have ed2 := hSw.cell d2 id; have ed3 := hSw.cell d3 id; have ecxb_1 := hSw.cell cxb_1 id; go_simp <;> with_reducible rfl)
          try simp only [Act.put, List.setIfInBounds_toArray, List.set_cons_zero, List.set_cons_succ]
          refine wpAnyH_take (i := 43) (oi := { dst := some 125, op := Go.Op.pick (Go.Operand.tmp 116) (Go.Operand.const (Go.Value.bool true)) (Go.Operand.tmp 124), type := 4, pos := "more.go:36", after := #[{ on := 34, ground := Go.Ground.data }, { on := 42, ground := Go.Ground.data }, { on := 31, ground := Go.Ground.guard }], guard := some (31, true) }) (v := ?v293) rfl (by kernel_rfl) (by kernel_rfl) (by kernel_rfl) (fun _ _ _ h => h) (Or.inl ⟨by rfl, ?hy293⟩) (by assumption) ?rest293
          case hy293 => (intro w hSw; (try dsimp only at hSw); have ea0 := hSw.cell a0 id; have ea1 := hSw.cell a1 id; have ea2 := hSw.cell a2 id; have ea3 := hSw.cell a3 id; have ed0 := hSw.cell d0 id; have ed1 := hSw.cell d1 id; have ed2 := hSw.cell d2 id; have ed3 := hSw.cell d3 id; have ecxb_1 := hSw.cell cxb_1 id; go_simp <;> with_reducible rfl)
          try simp only [Act.put, List.setIfInBounds_toArray, List.set_cons_zero, List.set_cons_succ]
          refine wpAnyH_take (i := 44) (oi := { dst := some 126, op := Go.Op.pick (Go.Operand.tmp 113) (Go.Operand.tmp 125) (Go.Operand.const (Go.Value.bool false)), type := 4, pos := "more.go:36", after := #[{ on := 31, ground := Go.Ground.data }, { on := 43, ground := Go.Ground.data }], guard := none }) (v := ?v294) rfl (by kernel_rfl) (by kernel_rfl) (by kernel_rfl) (fun _ _ _ h => h) (Or.inl ⟨by rfl, ?hy294⟩) (by assumption) ?rest294
          case hy294 => (intro w hSw; (try dsimp only at hSw); have ea0 := hSw.cell a0 id; have ea1 := hSw.cell a1 id; have ea2 := hSw.cell a2 id; have ea3 := hSw.cell a3 id; have ed0 := hSw.cell d0 id; have ed1 := hSw.cell d1 id; have ed2 := hSw.cell d2 id; have ed3 := hSw.cell d3 id; have ecxb_1 := hSw.cell cxb_1 id; go_simp <;> with_reducible rfl)
          try simp only [Act.put, List.setIfInBounds_toArray, List.set_cons_zero, List.set_cons_succ]
          refine wpAnyH_take (i := 45) (oi := { dst := some 2, op := Go.Op.assign (Go.Operand.tmp 126), type := 4, pos := "more.go:36", after := #[{ on := 44, ground := Go.Ground.data }, { on := 40, ground := Go.Ground.chain }, { on := 0, ground := Go.Ground.phase }, { on := 1, ground := Go.Ground.phase }, { on := 2, ground := Go.Ground.phase }, { on := 3, ground := Go.Ground.phase }, { on := 4, ground := Go.Ground.phase }, { on := 5, ground := Go.Ground.phase }, { on := 6, ground := Go.Ground.phase }, { on := 7, ground := Go.Ground.phase }, { on := 8, ground := Go.Ground.phase }, { on := 9, ground := Go.Ground.phase }, { on := 10, ground := Go.Ground.phase }, { on := 11, ground := Go.Ground.phase }, { on := 12, ground := Go.Ground.phase }, { on := 13, ground := Go.Ground.phase }, { on := 14, ground := Go.Ground.phase }, { on := 15, ground := Go.Ground.phase }, { on := 16, ground := Go.Ground.phase }, { on := 17, ground := Go.Ground.phase }, { on := 18, ground := Go.Ground.phase }, { on := 19, ground := Go.Ground.phase }, { on := 20, ground := Go.Ground.phase }, { on := 21, ground := Go.Ground.phase }, { on := 22, ground := Go.Ground.phase }, { on := 23, ground := Go.Ground.phase }, { on := 24, ground := Go.Ground.phase }, { on := 25, ground := Go.Ground.phase }, { on := 26, ground := Go.Ground.phase }, { on := 27, ground := Go.Ground.phase }, { on := 28, ground := Go.Ground.phase }, { on := 29, ground := Go.Ground.phase }, { on := 30, ground := Go.Ground.phase }, { on := 31, ground := Go.Ground.phase }, { on := 32, ground := Go.Ground.phase }, { on := 33, ground := Go.Ground.phase }, { on := 34, ground := Go.Ground.phase }, { on := 35, ground := Go.Ground.phase }, { on := 36, ground := Go.Ground.phase }, { on := 37, ground := Go.Ground.phase }, { on := 38, ground := Go.Ground.phase }, { on := 39, ground := Go.Ground.phase }, { on := 40, ground := Go.Ground.phase }, { on := 41, ground := Go.Ground.phase }, { on := 42, ground := Go.Ground.phase }, { on := 43, ground := Go.Ground.phase }, { on := 44, ground := Go.Ground.phase }], guard := none }) (v := ?v295) rfl (by kernel_rfl) (by kernel_rfl) (by kernel_rfl) (fun _ _ _ h => h) (Or.inl ⟨by rfl, ?hy295⟩) (by assumption) ?rest295
          case hy295 => (intro w hSw; (try dsimp only at hSw); have ea0 := hSw.cell a0 id; have ea1 := hSw.cell a1 id; have ea2 := hSw.cell a2 id; have ea3 := hSw.cell a3 id; have ed0 := hSw.cell d0 id; have ed1 := hSw.cell d1 id; have ed2 := hSw.cell d2 id; have ed3 := hSw.cell d3 id; have ecxb_1 := hSw.cell cxb_1 id; go_simp <;> with_reducible rfl)
          try simp only [Act.put, List.setIfInBounds_toArray, List.set_cons_zero, List.set_cons_succ]
          refine wpAnyH_done (by kernel_rfl) ?_ _
          have hx := hS1
          clear hS0 hS1
          have HX_we := Lib.hid hx
          clear hx
          go_wp2_with fail
          go_ret
          exact ⟨rfl, ((((((((((HX_w1.out.trans HX_w2.out).andThen HX_w3.out (fun i hi e => by have := hb_xb_; omega)).andThen HX_w4.out (fun i hi e => by have := hb_xb_; omega)).trans HX_w5.out).andThen HX_w6.out (fun i hi e => by have := hb_xb_; omega)).trans HX_w7.out).trans HX_w8.out).trans HX_w9.out).trans hxl.out).trans HX_we.out)⟩
end Go.Proofs.Ytbmjkcocnmfpaaa
