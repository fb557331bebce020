/-
  The walk of Ipv4Limits. By an AI agent.
-/
import Derived.Test.YtfcfpkhcpijkfaaDoorShown05
import Derived.Test.YtfcfpkhcpijkfaaDoorStr
import Derived.OwnWalk
namespace Go.Proofs.YtfcfpkhcpijkfaaDoor
open Go.RowKit

set_option maxRecDepth 100000 in
set_option maxHeartbeats 8000000 in
theorem limits05_any (off more : Int) (w : World) (hg : ET w) :
    Calls Tryd.prog 14 #[.int .i64 off, .int .i64 more] w fun e w' => e = .returned (.bool true) ∧ Ex (fun _ => False) w w' := by
  obtain ⟨i0, hi, hz0, hz1, hz2⟩ := info_parts Tryd.info5
  have HG := Lib.hid hg
  have a1 := and_i64 off
  have a2 := and_i64 more
  obtain ⟨n1, hn1⟩ : ∃ n : Nat, off % 65536 = (n : Int) := ⟨(off % 65536).toNat, by omega⟩
  obtain ⟨n2, hn2⟩ : ∃ n : Nat, more % 65536 = (n : Int) := ⟨(more % 65536).toNat, by omega⟩
  rw [hn1] at a1
  rw [hn2] at a2
  obtain ⟨o, ho⟩ : ∃ o, o = n1 % 65515 := ⟨_, rfl⟩
  obtain ⟨m, hm⟩ : ∃ m, m = n2 % 41 := ⟨_, rfl⟩
  have ho1 : o ≤ 65514 := by omega
  have hm1 : m ≤ 40 := by omega
  have b1 : (n1 : Int) % 65515 = (o : Int) := by rw [ho]; omega
  have b2 : (n2 : Int) % 41 = (m : Int) := by rw [hm]; omega
  have b3 : (n1 : Int).tmod 65515 = (o : Int) := by rw [Int.tmod_eq_emod_of_nonneg (by omega)]; exact b1
  have b4 : (n2 : Int).tmod 41 = (m : Int) := by rw [Int.tmod_eq_emod_of_nonneg (by omega)]; exact b2
  obtain ⟨n, hn⟩ : ∃ n : Nat, (if (65515 : Int) - (o : Int) + (m : Int) - 20 < 0 then (0 : Int) else 65515 - (o : Int) + (m : Int) - 20) = (n : Int) := ⟨(if (65515 : Int) - (o : Int) + (m : Int) - 20 < 0 then (0 : Int) else 65515 - (o : Int) + (m : Int) - 20).toNat, by split <;> omega⟩
  have hn3 : n ≤ 65535 := by split at hn <;> omega
  clear hg hn1 hn2 ho hm
  go_enter Tryd.func14, Tryd.ntmps14
  go_wp2_with fail
  refine (shown5_any w HG.out).mono ?_
  rintro e w2 ⟨rfl, hx⟩
  have HX_w2 := Lib.hid hx
  clear hx
  go_upto_region 5 with (at_make; refine wpList_make_full _ rfl (.tmp 24) (.tmp 24) 22 rfl w2.heap.size 5 i0 (.int .u8 0) 1 Tryd.underlying22 hi hz0 hz1 .i64 .i64 (n : Int) (n : Int) n rfl rfl (by omega) (by omega) (by rw [hz2]; omega) (by simp only [maxLen]; omega) (Nat.le_refl _) ?_; intro w3 hown3 hg3)
  clear a1 a2 b1 b2 b3 b4
  obtain ⟨zb, hzb⟩ : ∃ zb, zb = w2.heap.size := ⟨_, rfl⟩
  rw [← hzb] at hown3
  try simp only [← hzb]
  have hb_zb : w2.heap.size ≤ zb := by omega
  clear hzb
  have hob : OB w3 zb (.slice (some ⟨zb, 0, none⟩) n n) (List.replicate n 0) := by
    refine ⟨by simp; omega, ?_⟩
    rw [List.length_replicate]
    have e : (madeCells (Value.int .u8 0).cells (n * 1)).toList = (List.replicate n (0 : UInt8)).map u8v := by
      rw [show (Value.int .u8 0).cells = #[Value.int .u8 0] from rfl, Nat.mul_one, toList_madeCells_one, List.map_replicate]
      rfl
    rw [← e]
    exact hown3
  have hx : Ex (fun _ => False) w2 w3 := (Ex.refl _ w2).grown hg3 (fun k h => by cases h)
  obtain ⟨Z, hZ⟩ : ∃ Z, Z = List.replicate n (0 : UInt8) := ⟨_, rfl⟩
  have hZl : Z.length = n := by rw [hZ, List.length_replicate]
  rw [← hZ] at hob
  have HZL := Lib.hid hZl
  have HN := Lib.hid hn
  clear hown3 hg3 hZ hZl hn
  have HX_w3 := Lib.hid hx
  clear hx
  have HOZ := Lib.hid hob
  clear hob
  have hx : Ex (fun _ => False) w3 (w3.alloc (.cells #[.int .u8 0, .int .u16 0, .bool false, .bool false, .int .i64 (o : Int), .int .u8 0, .int .u8 0, .int .u32 0, .int .u32 0, .slice (some ⟨zb, 0, none⟩) n n] 51)) := (Ex.refl _ w3).alloc _
  have hb : (w3.alloc (.cells #[.int .u8 0, .int .u16 0, .bool false, .bool false, .int .i64 (o : Int), .int .u8 0, .int .u8 0, .int .u32 0, .int .u32 0, .slice (some ⟨zb, 0, none⟩) n n] 51)).heap[w3.heap.size]? = some (.cells #[.int .u8 0, .int .u16 0, .bool false, .bool false, .int .i64 (o : Int), .int .u8 0, .int .u8 0, .int .u32 0, .int .u32 0, .slice (some ⟨zb, 0, none⟩) n n] 51) := heap_alloc_new w3 _
  obtain ⟨bp, hbp⟩ : ∃ bp, bp = w3.heap.size := ⟨_, rfl⟩
  have hb_bp : w3.heap.size ≤ bp := by omega
  rw [← hbp] at hb
  try simp only [← hbp]
  generalize w3.alloc (.cells #[.int .u8 0, .int .u16 0, .bool false, .bool false, .int .i64 (o : Int), .int .u8 0, .int .u8 0, .int .u32 0, .int .u32 0, .slice (some ⟨zb, 0, none⟩) n n] 51) = w4 at hx hb ⊢
  clear hbp
  have HX_w4 := Lib.hid hx
  clear hx
  have B_bp := Lib.hid hb
  clear hb
  have cbp0 := row_cell (k := 0) (v := .int .u8 0) B_bp.out rfl
  have cbp1 := row_cell (k := 1) (v := .int .u16 0) B_bp.out rfl
  have cbp2 := row_cell (k := 2) (v := .bool false) B_bp.out rfl
  have cbp3 := row_cell (k := 3) (v := .bool false) B_bp.out rfl
  have cbp4 := row_cell (k := 4) (v := .int .i64 (o : Int)) B_bp.out rfl
  have cbp5 := row_cell (k := 5) (v := .int .u8 0) B_bp.out rfl
  have cbp6 := row_cell (k := 6) (v := .int .u8 0) B_bp.out rfl
  have cbp7 := row_cell (k := 7) (v := .int .u32 0) B_bp.out rfl
  have cbp8 := row_cell (k := 8) (v := .int .u32 0) B_bp.out rfl
  have cbp9 := row_cell (k := 9) (v := .slice (some ⟨zb, 0, none⟩) n n) B_bp.out rfl
  have hright := right_any (⟨0, 0, false, false, (o : Int), 0, 0, 0, 0, Z⟩ : Pk) (some ⟨zb, 0, none⟩) n w4 (by show Z.length ≤ _; rw [HZL.out]; omega)
  rw [show (⟨0, 0, false, false, (o : Int), 0, 0, 0, 0, Z⟩ : Pk).b.length = n from HZL.out] at hright
  have HRIGHT := Lib.hid hright
  clear hright
  go_wp2_with fail
  refine HRIGHT.out.mono ?_
  rintro e w5 ⟨hx, hcase⟩
  clear HRIGHT cbp0 cbp1 cbp2 cbp3 cbp4 cbp5 cbp6 cbp7 cbp8 cbp9
  have HX_w5 := Lib.hid hx
  clear hx
  have hrt : (⟨0, 0, false, false, (o : Int), 0, 0, 0, 0, Z⟩ : Pk).right = if o % 8 ≠ 0 then 1 else if 65535 < 20 + o + n then 7 else 0 := by
    have hz := HZL.out
    unfold Pk.right
    simp only [hz]
    by_cases h8 : o % 8 = 0
    · rw [if_neg (by simp; omega), if_neg (show ¬ (o % 8 ≠ 0) by omega)]
      by_cases hbig : 65535 < 20 + o + n
      · rw [if_pos (by omega), if_pos hbig]
      · rw [if_neg (by omega), if_neg hbig]
    · rw [if_pos (by omega), if_pos h8]
  have HRT := Lib.hid hrt
  clear hrt
  have hobz := (OB.keep HOZ.out (HX_w4.out.trans HX_w5.out) (fun _ _ _ _ => id)).rb.any
  have HBZ := Lib.hid hobz
  clear hobz
  have okp : (⟨0, 0, false, false, (o : Int), 0, 0, 0, 0, Z⟩ : Pk).ok := by refine ⟨?_, ?_, ?_, ?_, ?_, ?_, ?_⟩ <;> simp only <;> omega
  have HOK := Lib.hid okp
  clear okp
  by_cases h8 : o % 8 ≠ 0
  · by_cases hbig : 65535 < 20 + o + n
    ·
      have hk : (⟨0, 0, false, false, (o : Int), 0, 0, 0, 0, Z⟩ : Pk).right = 1 := by rw [HRT.out]; rw [if_pos h8]
      have HK := Lib.hid hk
      clear hk
      obtain ⟨v5, rfl, he⟩ : ∃ v, e = .returned v ∧ EC w5 (fun j => w4.heap.size ≤ j) [lay5] v 1 := by
        rw [HK.out] at hcase
        rcases hcase with ⟨h, _⟩ | ⟨_, h⟩
        · cases h
        · exact h
      obtain ⟨ty5, y5, rfl⟩ := he.shape
      have HE5 := Lib.hid he
      clear he hcase
      have g1 : 65535 < 20 + (o : Int) + (n : Int) := by omega
      have g2 : (((o : Int) % 8) != 0) = true := by rw [bne_iff_ne]; omega
      replace B_bp := Lib.hid ((HX_w5.out.block bp (row_lt B_bp.out) id).trans B_bp.out)
      have cbp0 := row_cell (k := 0) (v := .int .u8 0) B_bp.out rfl
      have cbp1 := row_cell (k := 1) (v := .int .u16 0) B_bp.out rfl
      have cbp2 := row_cell (k := 2) (v := .bool false) B_bp.out rfl
      have cbp3 := row_cell (k := 3) (v := .bool false) B_bp.out rfl
      have cbp4 := row_cell (k := 4) (v := .int .i64 (o : Int)) B_bp.out rfl
      have cbp5 := row_cell (k := 5) (v := .int .u8 0) B_bp.out rfl
      have cbp6 := row_cell (k := 6) (v := .int .u8 0) B_bp.out rfl
      have cbp7 := row_cell (k := 7) (v := .int .u32 0) B_bp.out rfl
      have cbp8 := row_cell (k := 8) (v := .int .u32 0) B_bp.out rfl
      have cbp9 := row_cell (k := 9) (v := .slice (some ⟨zb, 0, none⟩) n n) B_bp.out rfl
      have hpb := pbytes_any _ (⟨0, 0, false, false, (o : Int), 0, 0, 0, 0, Z⟩ : Pk) (some ⟨zb, 0, none⟩) n w5 HOK.out (by rw [show (⟨0, 0, false, false, (o : Int), 0, 0, 0, 0, Z⟩ : Pk).b.length = n from HZL.out]; exact HBZ.out) (by show Z.length ≤ _; rw [HZL.out]; omega)
      rw [show (⟨0, 0, false, false, (o : Int), 0, 0, 0, 0, Z⟩ : Pk).b.length = n from HZL.out] at hpb
      have HPB := Lib.hid hpb
      clear hpb
      go_wp2_with fail
      refine HPB.out.mono ?_
      rintro e w6 ⟨hx, hcase⟩
      clear HPB cbp0 cbp1 cbp2 cbp3 cbp4 cbp5 cbp6 cbp7 cbp8 cbp9
      have HX_w6 := Lib.hid hx
      clear hx
      obtain ⟨v6, rfl, he⟩ : ∃ v, e = .returned (.tuple #[.slice none 0 0, v]) ∧ EC w6 (fun j => w5.heap.size ≤ j) [lay5] v 1 := by
        rw [HK.out] at hcase
        rcases hcase with ⟨_, h⟩ | ⟨h, _⟩
        · exact h
        · cases h
      obtain ⟨ty6, y6, rfl⟩ := he.shape
      have HE6 := Lib.hid he
      clear he hcase
      go_wp2_with fail
      refine (code_any _ _ 1 _ w6 (EC.keep HX_w6.out (fun _ _ => id) HE5.out) (HG.out.keep ((((HX_w2.out.trans HX_w3.out).trans HX_w4.out).trans HX_w5.out).trans HX_w6.out) id)).mono ?_
      rintro e w7 ⟨rfl, hx⟩
      have HX_w7 := Lib.hid hx
      clear hx
      go_wp2_with fail
      refine (code_any _ _ 1 _ w7 (EC.keep HX_w7.out (fun _ _ => id) HE6.out) (HG.out.keep (((((HX_w2.out.trans HX_w3.out).trans HX_w4.out).trans HX_w5.out).trans HX_w6.out).trans HX_w7.out) id)).mono ?_
      rintro e w8 ⟨rfl, hx⟩
      have HX_w8 := Lib.hid hx
      clear hx
      go_wp2_with fail
      go_ret
      exact ⟨rfl, ((((((HX_w2.out.trans HX_w3.out).trans HX_w4.out).trans HX_w5.out).trans HX_w6.out).trans HX_w7.out).trans HX_w8.out)⟩
    ·
      have hk : (⟨0, 0, false, false, (o : Int), 0, 0, 0, 0, Z⟩ : Pk).right = 1 := by rw [HRT.out]; rw [if_pos h8]
      have HK := Lib.hid hk
      clear hk
      obtain ⟨v5, rfl, he⟩ : ∃ v, e = .returned v ∧ EC w5 (fun j => w4.heap.size ≤ j) [lay5] v 1 := by
        rw [HK.out] at hcase
        rcases hcase with ⟨h, _⟩ | ⟨_, h⟩
        · cases h
        · exact h
      obtain ⟨ty5, y5, rfl⟩ := he.shape
      have HE5 := Lib.hid he
      clear he hcase
      have g1 : ¬ 65535 < 20 + (o : Int) + (n : Int) := by omega
      have g2 : (((o : Int) % 8) != 0) = true := by rw [bne_iff_ne]; omega
      replace B_bp := Lib.hid ((HX_w5.out.block bp (row_lt B_bp.out) id).trans B_bp.out)
      have cbp0 := row_cell (k := 0) (v := .int .u8 0) B_bp.out rfl
      have cbp1 := row_cell (k := 1) (v := .int .u16 0) B_bp.out rfl
      have cbp2 := row_cell (k := 2) (v := .bool false) B_bp.out rfl
      have cbp3 := row_cell (k := 3) (v := .bool false) B_bp.out rfl
      have cbp4 := row_cell (k := 4) (v := .int .i64 (o : Int)) B_bp.out rfl
      have cbp5 := row_cell (k := 5) (v := .int .u8 0) B_bp.out rfl
      have cbp6 := row_cell (k := 6) (v := .int .u8 0) B_bp.out rfl
      have cbp7 := row_cell (k := 7) (v := .int .u32 0) B_bp.out rfl
      have cbp8 := row_cell (k := 8) (v := .int .u32 0) B_bp.out rfl
      have cbp9 := row_cell (k := 9) (v := .slice (some ⟨zb, 0, none⟩) n n) B_bp.out rfl
      have hpb := pbytes_any _ (⟨0, 0, false, false, (o : Int), 0, 0, 0, 0, Z⟩ : Pk) (some ⟨zb, 0, none⟩) n w5 HOK.out (by rw [show (⟨0, 0, false, false, (o : Int), 0, 0, 0, 0, Z⟩ : Pk).b.length = n from HZL.out]; exact HBZ.out) (by show Z.length ≤ _; rw [HZL.out]; omega)
      rw [show (⟨0, 0, false, false, (o : Int), 0, 0, 0, 0, Z⟩ : Pk).b.length = n from HZL.out] at hpb
      have HPB := Lib.hid hpb
      clear hpb
      go_wp2_with fail
      refine HPB.out.mono ?_
      rintro e w6 ⟨hx, hcase⟩
      clear HPB cbp0 cbp1 cbp2 cbp3 cbp4 cbp5 cbp6 cbp7 cbp8 cbp9
      have HX_w6 := Lib.hid hx
      clear hx
      obtain ⟨v6, rfl, he⟩ : ∃ v, e = .returned (.tuple #[.slice none 0 0, v]) ∧ EC w6 (fun j => w5.heap.size ≤ j) [lay5] v 1 := by
        rw [HK.out] at hcase
        rcases hcase with ⟨_, h⟩ | ⟨h, _⟩
        · exact h
        · cases h
      obtain ⟨ty6, y6, rfl⟩ := he.shape
      have HE6 := Lib.hid he
      clear he hcase
      go_wp2_with fail
      refine (code_any _ _ 1 _ w6 (EC.keep HX_w6.out (fun _ _ => id) HE5.out) (HG.out.keep ((((HX_w2.out.trans HX_w3.out).trans HX_w4.out).trans HX_w5.out).trans HX_w6.out) id)).mono ?_
      rintro e w7 ⟨rfl, hx⟩
      have HX_w7 := Lib.hid hx
      clear hx
      go_wp2_with fail
      refine (code_any _ _ 1 _ w7 (EC.keep HX_w7.out (fun _ _ => id) HE6.out) (HG.out.keep (((((HX_w2.out.trans HX_w3.out).trans HX_w4.out).trans HX_w5.out).trans HX_w6.out).trans HX_w7.out) id)).mono ?_
      rintro e w8 ⟨rfl, hx⟩
      have HX_w8 := Lib.hid hx
      clear hx
      go_wp2_with fail
      go_ret
      exact ⟨rfl, ((((((HX_w2.out.trans HX_w3.out).trans HX_w4.out).trans HX_w5.out).trans HX_w6.out).trans HX_w7.out).trans HX_w8.out)⟩
  · by_cases hbig : 65535 < 20 + o + n
    ·
      have hk : (⟨0, 0, false, false, (o : Int), 0, 0, 0, 0, Z⟩ : Pk).right = 7 := by rw [HRT.out]; rw [if_neg (by omega), if_pos hbig]
      have HK := Lib.hid hk
      clear hk
      obtain ⟨v5, rfl, he⟩ : ∃ v, e = .returned v ∧ EC w5 (fun j => w4.heap.size ≤ j) [lay5] v 7 := by
        rw [HK.out] at hcase
        rcases hcase with ⟨h, _⟩ | ⟨_, h⟩
        · cases h
        · exact h
      obtain ⟨ty5, y5, rfl⟩ := he.shape
      have HE5 := Lib.hid he
      clear he hcase
      have g1 : 65535 < 20 + (o : Int) + (n : Int) := by omega
      have g2 : (((o : Int) % 8) != 0) = false := by rw [Bool.eq_false_iff, Ne, bne_iff_ne]; omega
      clear h8
      replace B_bp := Lib.hid ((HX_w5.out.block bp (row_lt B_bp.out) id).trans B_bp.out)
      have cbp0 := row_cell (k := 0) (v := .int .u8 0) B_bp.out rfl
      have cbp1 := row_cell (k := 1) (v := .int .u16 0) B_bp.out rfl
      have cbp2 := row_cell (k := 2) (v := .bool false) B_bp.out rfl
      have cbp3 := row_cell (k := 3) (v := .bool false) B_bp.out rfl
      have cbp4 := row_cell (k := 4) (v := .int .i64 (o : Int)) B_bp.out rfl
      have cbp5 := row_cell (k := 5) (v := .int .u8 0) B_bp.out rfl
      have cbp6 := row_cell (k := 6) (v := .int .u8 0) B_bp.out rfl
      have cbp7 := row_cell (k := 7) (v := .int .u32 0) B_bp.out rfl
      have cbp8 := row_cell (k := 8) (v := .int .u32 0) B_bp.out rfl
      have cbp9 := row_cell (k := 9) (v := .slice (some ⟨zb, 0, none⟩) n n) B_bp.out rfl
      have hpb := pbytes_any _ (⟨0, 0, false, false, (o : Int), 0, 0, 0, 0, Z⟩ : Pk) (some ⟨zb, 0, none⟩) n w5 HOK.out (by rw [show (⟨0, 0, false, false, (o : Int), 0, 0, 0, 0, Z⟩ : Pk).b.length = n from HZL.out]; exact HBZ.out) (by show Z.length ≤ _; rw [HZL.out]; omega)
      rw [show (⟨0, 0, false, false, (o : Int), 0, 0, 0, 0, Z⟩ : Pk).b.length = n from HZL.out] at hpb
      have HPB := Lib.hid hpb
      clear hpb
      go_wp2_with fail
      refine HPB.out.mono ?_
      rintro e w6 ⟨hx, hcase⟩
      clear HPB cbp0 cbp1 cbp2 cbp3 cbp4 cbp5 cbp6 cbp7 cbp8 cbp9
      have HX_w6 := Lib.hid hx
      clear hx
      obtain ⟨v6, rfl, he⟩ : ∃ v, e = .returned (.tuple #[.slice none 0 0, v]) ∧ EC w6 (fun j => w5.heap.size ≤ j) [lay5] v 7 := by
        rw [HK.out] at hcase
        rcases hcase with ⟨_, h⟩ | ⟨h, _⟩
        · exact h
        · cases h
      obtain ⟨ty6, y6, rfl⟩ := he.shape
      have HE6 := Lib.hid he
      clear he hcase
      go_wp2_with fail
      refine (code_any _ _ 7 _ w6 (EC.keep HX_w6.out (fun _ _ => id) HE5.out) (HG.out.keep ((((HX_w2.out.trans HX_w3.out).trans HX_w4.out).trans HX_w5.out).trans HX_w6.out) id)).mono ?_
      rintro e w7 ⟨rfl, hx⟩
      have HX_w7 := Lib.hid hx
      clear hx
      go_wp2_with fail
      refine (code_any _ _ 7 _ w7 (EC.keep HX_w7.out (fun _ _ => id) HE6.out) (HG.out.keep (((((HX_w2.out.trans HX_w3.out).trans HX_w4.out).trans HX_w5.out).trans HX_w6.out).trans HX_w7.out) id)).mono ?_
      rintro e w8 ⟨rfl, hx⟩
      have HX_w8 := Lib.hid hx
      clear hx
      go_wp2_with fail
      go_ret
      exact ⟨rfl, ((((((HX_w2.out.trans HX_w3.out).trans HX_w4.out).trans HX_w5.out).trans HX_w6.out).trans HX_w7.out).trans HX_w8.out)⟩
    ·
      have hk : (⟨0, 0, false, false, (o : Int), 0, 0, 0, 0, Z⟩ : Pk).right = 0 := by rw [HRT.out]; rw [if_neg (by omega), if_neg hbig]
      have HK := Lib.hid hk
      clear hk
      obtain rfl : e = .returned .nilIface := by
        rcases hcase with ⟨_, h⟩ | ⟨h, _⟩
        · exact h
        · exact absurd HK.out h
      clear hcase
      have g1 : ¬ 65535 < 20 + (o : Int) + (n : Int) := by omega
      have g2 : (((o : Int) % 8) != 0) = false := by rw [Bool.eq_false_iff, Ne, bne_iff_ne]; omega
      clear h8
      replace B_bp := Lib.hid ((HX_w5.out.block bp (row_lt B_bp.out) id).trans B_bp.out)
      have cbp0 := row_cell (k := 0) (v := .int .u8 0) B_bp.out rfl
      have cbp1 := row_cell (k := 1) (v := .int .u16 0) B_bp.out rfl
      have cbp2 := row_cell (k := 2) (v := .bool false) B_bp.out rfl
      have cbp3 := row_cell (k := 3) (v := .bool false) B_bp.out rfl
      have cbp4 := row_cell (k := 4) (v := .int .i64 (o : Int)) B_bp.out rfl
      have cbp5 := row_cell (k := 5) (v := .int .u8 0) B_bp.out rfl
      have cbp6 := row_cell (k := 6) (v := .int .u8 0) B_bp.out rfl
      have cbp7 := row_cell (k := 7) (v := .int .u32 0) B_bp.out rfl
      have cbp8 := row_cell (k := 8) (v := .int .u32 0) B_bp.out rfl
      have cbp9 := row_cell (k := 9) (v := .slice (some ⟨zb, 0, none⟩) n n) B_bp.out rfl
      have hpb := pbytes_any _ (⟨0, 0, false, false, (o : Int), 0, 0, 0, 0, Z⟩ : Pk) (some ⟨zb, 0, none⟩) n w5 HOK.out (by rw [show (⟨0, 0, false, false, (o : Int), 0, 0, 0, 0, Z⟩ : Pk).b.length = n from HZL.out]; exact HBZ.out) (by show Z.length ≤ _; rw [HZL.out]; omega)
      rw [show (⟨0, 0, false, false, (o : Int), 0, 0, 0, 0, Z⟩ : Pk).b.length = n from HZL.out] at hpb
      have HPB := Lib.hid hpb
      clear hpb
      go_wp2_with fail
      refine HPB.out.mono ?_
      rintro e w6 ⟨hx, hcase⟩
      clear HPB cbp0 cbp1 cbp2 cbp3 cbp4 cbp5 cbp6 cbp7 cbp8 cbp9
      have HX_w6 := Lib.hid hx
      clear hx
      obtain ⟨A6, c6, rfl⟩ : ∃ A' c', e = .returned (.tuple #[.slice (some A') (20 + n) c', .nilIface]) := by
        rcases hcase with ⟨h, _⟩ | ⟨_, A', c', h, _⟩
        · exact absurd HK.out h
        · rw [pb_len, show (⟨0, 0, false, false, (o : Int), 0, 0, 0, 0, Z⟩ : Pk).b.length = n from HZL.out] at h
          exact ⟨A', c', h⟩
      clear hcase
      go_wp2_with fail
      refine (code_nil w6).mono ?_
      rintro e w7 ⟨rfl, rfl⟩
      go_wp2_with fail
      refine (code_nil w6).mono ?_
      rintro e w7 ⟨rfl, rfl⟩
      have cb9 := row_cell (k := 9) (v := .slice (some ⟨zb, 0, none⟩) n n) ((HX_w6.out.block bp (row_lt B_bp.out) id).trans B_bp.out) rfl
      go_wp2_with fail
      go_ret
      exact ⟨rfl, ((((HX_w2.out.trans HX_w3.out).trans HX_w4.out).trans HX_w5.out).trans HX_w6.out)⟩
end Go.Proofs.YtfcfpkhcpijkfaaDoor
