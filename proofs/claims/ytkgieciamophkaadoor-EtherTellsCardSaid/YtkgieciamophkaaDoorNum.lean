/-
  The contracts of octets.Reader: Bytes, Rest, U8, U16, U32. By an AI agent.
-/
import Derived.Test.YtkgieciamophkaaDoorTake
import Derived.Test.YtkgieciamophkaaDoorSumMath
namespace Go.Proofs.YtkgieciamophkaaDoor
open Go.RowKit

theorem rbytes_neg (p : Nat) (n : Int) (w : World) (hn : n < 0) :
    Calls Tryd.prog 28 #[.pointer (some ⟨p, 0, none⟩), .int .i64 n] w fun e w' => ∃ v, e = .returned (.tuple #[.slice none 0 0, v]) ∧ EC w' (fun j => j = w.heap.size) [lay1] v 1 ∧ Ex (fun _ => False) w w' := by
  go_enter Tryd.func28, Tryd.ntmps28
  go_wp2_with fail
  refine (wrong1_any 1 w).mono ?_
  rintro e w' ⟨v, rfl, he, hx⟩
  have HE := Lib.hid he
  have HX := Lib.hid hx
  clear he hx
  go_wp2_with fail
  go_ret2
  exact ⟨v, rfl, HE.out, HX.out⟩
theorem rbytes_few (p g o : Nat) (l : List UInt8) (n : Int) (w : World) (h : RD w p g o l) (hn : (l.length : Int) < n) :
    Calls Tryd.prog 28 #[.pointer (some ⟨p, 0, none⟩), .int .i64 n] w fun e w' => ∃ v, e = .returned (.tuple #[.slice none 0 0, v]) ∧ EC w' (fun j => j = w.heap.size) [lay1] v 2 ∧ Ex (fun _ => False) w w' := by
  have h0 : ¬ n < 0 := by omega
  go_enter Tryd.func28, Tryd.ntmps28
  go_wp2_with fail
  refine (take_few p g o l n w h hn).mono ?_
  rintro e w' ⟨v, rfl, he, hx⟩
  have HE := Lib.hid he
  have HX := Lib.hid hx
  clear he hx
  go_wp2_with fail
  go_ret2
  exact ⟨v, rfl, HE.out, HX.out⟩
theorem rbytes_any (p g o : Nat) (l : List UInt8) (n : Nat) (w : World) (h : RD w p g o l) (hn : n ≤ l.length) :
    Calls Tryd.prog 28 #[.pointer (some ⟨p, 0, none⟩), .int .i64 (n : Int)] w fun e w' => ∃ u, e = .returned (.tuple #[u, .nilIface]) ∧ Took w p g o l n u w' := by
  go_enter Tryd.func28, Tryd.ntmps28
  go_wp2_with fail
  refine (take_any p g o l n w h hn).mono ?_
  rintro e w' ⟨u, rfl, ht⟩
  have HT := Lib.hid ht
  clear ht
  go_wp2_with fail
  go_ret2
  exact ⟨u, rfl, HT.out⟩
theorem rest_any (p g o : Nat) (l : List UInt8) (w : World) (h : RD w p g o l) :
    Calls Tryd.prog 26 #[.pointer (some ⟨p, 0, none⟩)] w fun e w' => ∃ u, e = .returned u ∧ Took w p g o l l.length u w' := by
  have h0 := h
  obtain ⟨A, c, h1, h2, h3, h4, h5, h6, h7, h8⟩ := h
  clear h2 h6 h7 h8
  go_enter Tryd.func26, Tryd.ntmps26
  go_wp2_with fail
  refine (take_any p g o l l.length w h0 (Nat.le_refl _)).mono ?_
  rintro e w' ⟨u, rfl, ht⟩
  have HT := Lib.hid ht
  clear ht
  go_wp2_with fail
  go_ret
  exact ⟨u, rfl, HT.out⟩

/-- the number of bytes, the highest first -/
def nb (l : List UInt8) : Nat := l.foldl (fun n b => n * 256 + b.toNat) 0
theorem nb_next (l : List UInt8) (i : Nat) (h : i < l.length) : nb (l.take (i + 1)) = nb (l.take i) * 256 + l[i].toNat := by
  rw [take_next l i h, nb, List.foldl_append]; rfl
theorem nb_from (l : List UInt8) : ∀ a : Nat, l.foldl (fun n b => n * 256 + b.toNat) a < (a + 1) * 256 ^ l.length := by
  induction l with
  | nil => intro a; simp
  | cons b r ih =>
    intro a
    have h1 := ih (a * 256 + b.toNat)
    have h2 := b.toNat_lt
    have h3 : (a * 256 + b.toNat + 1) * 256 ^ r.length ≤ ((a + 1) * 256) * 256 ^ r.length := Nat.mul_le_mul_right _ (by omega)
    rw [List.foldl_cons, List.length_cons, Nat.pow_succ, Nat.mul_comm (256 ^ r.length) 256, ← Nat.mul_assoc]
    omega
theorem nb_lt (l : List UInt8) : nb l < 256 ^ l.length := by
  have := nb_from l 0
  simpa [nb] using this
theorem or_add (x c : Nat) (hc : c < 256) : x * 256 ||| c = x * 256 + c := by
  have := Nat.two_pow_add_eq_or_of_lt (i := 8) (b := c) (by simpa using hc) x
  rw [Nat.mul_comm x 256]
  simpa using this.symm
theorem or_u32 (x c : Nat) (hx : x < 16777216) (hc : c < 256) (a b : Int) (ha : a = (x : Int) * 256) (hb : b = (c : Int)) : Go.bits .or .u32 a b = (x : Int) * 256 + (c : Int) := by
  subst ha hb
  have key : (BitVec.ofInt 32 ((x : Int) * 256) ||| BitVec.ofInt 32 (c : Int)).toNat = x * 256 + c := by
    rw [BitVec.toNat_or, BitVec.toNat_ofInt, BitVec.toNat_ofInt, show (((x : Int) * 256) % ((2 ^ 32 : Nat) : Int)).toNat = x * 256 by omega, show ((c : Int) % ((2 ^ 32 : Nat) : Int)).toNat = c by omega, or_add x c hc]
  show IntKind.u32.wrap ((BitVec.ofInt 32 ((x : Int) * 256) ||| BitVec.ofInt 32 (c : Int)).toNat : Nat) = _
  rw [key, IntKind.wrap_u32]
  omega
theorem nb_small (m : List UInt8) (j k B : Nat) (h : j ≤ k) (hB : 256 ^ k = B) : nb (m.take j) < B := by
  subst hB
  exact Nat.lt_of_lt_of_le (nb_lt _) (Nat.pow_le_pow_right (by decide) (Nat.le_trans (List.length_take_le _ _) h))

set_option maxHeartbeats 1000000 in
theorem number4_any (p g o : Nat) (l : List UInt8) (w : World) (h : RD w p g o l) (hn : 4 ≤ l.length) :
    Calls Tryd.prog 42 #[.pointer (some ⟨p, 0, none⟩), .int .i64 4] w fun e w' => e = .returned (.tuple #[.int .u32 (nb (l.take 4) : Int), .nilIface]) ∧ RD w' p g (o + 4) (l.drop 4) ∧ Ex (fun j => j = p) w w' := by
  go_enter Tryd.func42, Tryd.ntmps42
  go_wp2_with fail
  refine (take_any p g o l 4 w h hn).mono ?_
  rintro e w1 ⟨u, rfl, A, rfl, hA, hrb, hrd, hx⟩
  have HD := Lib.hid hrd
  have HX := Lib.hid hx
  obtain ⟨m, hm, hml⟩ : ∃ m, l.take 4 = m ∧ m.length = 4 := ⟨_, rfl, by simp; omega⟩
  rw [hm] at hrb
  have HM := Lib.hid hm
  obtain ⟨_, A', c', e, hc, hcell⟩ := hrb
  injection e with e1 e2 e3
  subst e1
  have HC := Lib.hid hcell
  have HL := Lib.hid hml
  clear hrd hx hA hcell hm hml e2 e3 hc
  go_wp2
  go_loop [4, 8, 17] (fun n c i => ∃ j : Nat, j ≤ 4 ∧ i = .int .i64 (j : Int) ∧ n = .int .u32 (nb (m.take j) : Int)) (fun _ _ i => 4 - (intOf i).toNat)
  case atStart => exact ⟨0, by omega, rfl, rfl⟩
  case round =>
    obtain ⟨j, hj, rfl, rfl⟩ := hrel
    by_cases hlt : j < 4
    · have hjm : j < m.length := by rw [HL.out]; exact hlt
      obtain ⟨b, off, rfl, rfl, hc⟩ := HC.out j hjm
      have hb := m[j].toNat_lt
      have hs := nb_small m j 3 16777216 (by omega) (by decide)
      have hnx := Lib.hid (nb_next m j hjm)
      have ho := or_u32 (nb (m.take j)) m[j].toNat (by omega) hb
      go_wp2_with fail
      refine ⟨⟨j + 1, by omega, by go_num, ?_⟩, by simp [intOf]; omega⟩
      rw [hnx.out]
      congr 1
    · obtain rfl : j = 4 := by omega
      go_wp2
      go_ret2
      refine ⟨?_, by simpa using HD.out, HX.out⟩
      rw [HM.out, List.take_of_length_le (by rw [HL.out]; exact Nat.le_refl _)]
      rfl
theorem ru32_any (p g o : Nat) (l : List UInt8) (w : World) (h : RD w p g o l) (hn : 4 ≤ l.length) :
    Calls Tryd.prog 17 #[.pointer (some ⟨p, 0, none⟩)] w fun e w' => e = .returned (.tuple #[.int .u32 (nb (l.take 4) : Int), .nilIface]) ∧ RD w' p g (o + 4) (l.drop 4) ∧ Ex (fun j => j = p) w w' := by
  go_enter Tryd.func17, Tryd.ntmps17
  go_wp2_with fail
  refine (number4_any p g o l w h hn).mono ?_
  rintro e w1 ⟨rfl, h1, h2⟩
  have H1 := Lib.hid h1
  have H2 := Lib.hid h2
  clear h1 h2
  go_wp2_with fail
  go_ret2
  exact ⟨rfl, H1.out, H2.out⟩
theorem number4_few (p g o : Nat) (l : List UInt8) (w : World) (h : RD w p g o l) (hn : l.length < 4) :
    Calls Tryd.prog 42 #[.pointer (some ⟨p, 0, none⟩), .int .i64 4] w fun e w' => ∃ v, e = .returned (.tuple #[.int .u32 0, v]) ∧ EC w' (fun j => j = w.heap.size) [lay1] v 2 ∧ Ex (fun _ => False) w w' := by
  go_enter Tryd.func42, Tryd.ntmps42
  go_wp2_with fail
  refine (take_few p g o l 4 w h (by omega)).mono ?_
  rintro e w1 ⟨v, rfl, he, hx⟩
  have HE := Lib.hid he
  have HX := Lib.hid hx
  clear he hx
  go_wp2
  refine wp_loop_rounds 1 ?_
  rw [rounds_succ]
  go_wp2
  go_ret2
  exact ⟨v, rfl, HE.out, HX.out⟩
theorem ru32_few (p g o : Nat) (l : List UInt8) (w : World) (h : RD w p g o l) (hn : l.length < 4) :
    Calls Tryd.prog 17 #[.pointer (some ⟨p, 0, none⟩)] w fun e w' => ∃ v, e = .returned (.tuple #[.int .u32 0, v]) ∧ EC w' (fun j => j = w.heap.size) [lay1] v 2 ∧ Ex (fun _ => False) w w' := by
  go_enter Tryd.func17, Tryd.ntmps17
  go_wp2_with fail
  refine (number4_few p g o l w h hn).mono ?_
  rintro e w1 ⟨v, rfl, h1, h2⟩
  have H1 := Lib.hid h1
  have H2 := Lib.hid h2
  clear h1 h2
  go_wp2_with fail
  go_ret2
  exact ⟨v, rfl, H1.out, H2.out⟩

set_option maxHeartbeats 1000000 in
theorem number2_any (p g o : Nat) (l : List UInt8) (w : World) (h : RD w p g o l) (hn : 2 ≤ l.length) :
    Calls Tryd.prog 43 #[.pointer (some ⟨p, 0, none⟩), .int .i64 2] w fun e w' => e = .returned (.tuple #[.int .u16 (nb (l.take 2) : Int), .nilIface]) ∧ RD w' p g (o + 2) (l.drop 2) ∧ Ex (fun j => j = p) w w' := by
  go_enter Tryd.func43, Tryd.ntmps43
  go_wp2_with fail
  refine (take_any p g o l 2 w h hn).mono ?_
  rintro e w1 ⟨u, rfl, A, rfl, hA, hrb, hrd, hx⟩
  have HD := Lib.hid hrd
  have HX := Lib.hid hx
  obtain ⟨m, hm, hml⟩ : ∃ m, l.take 2 = m ∧ m.length = 2 := ⟨_, rfl, by simp; omega⟩
  rw [hm] at hrb
  have HM := Lib.hid hm
  obtain ⟨_, A', c', e, hc, hcell⟩ := hrb
  injection e with e1 e2 e3
  subst e1
  have HC := Lib.hid hcell
  have HL := Lib.hid hml
  clear hrd hx hA hcell hm hml e2 e3 hc
  go_wp2
  go_loop [4, 8, 17] (fun n c i => ∃ j : Nat, j ≤ 2 ∧ i = .int .i64 (j : Int) ∧ n = .int .u16 (nb (m.take j) : Int)) (fun _ _ i => 2 - (intOf i).toNat)
  case atStart => exact ⟨0, by omega, rfl, rfl⟩
  case round =>
    obtain ⟨j, hj, rfl, rfl⟩ := hrel
    by_cases hlt : j < 2
    · have hjm : j < m.length := by rw [HL.out]; exact hlt
      obtain ⟨b, off, rfl, rfl, hc⟩ := HC.out j hjm
      have hb := m[j].toNat_lt
      have hs := nb_small m j 1 256 (by omega) (by decide)
      have hnx := Lib.hid (nb_next m j hjm)
      have ho := or_u32 (nb (m.take j)) m[j].toNat (by omega) hb
      go_wp2_with fail
      refine ⟨⟨j + 1, by omega, by go_num, ?_⟩, by simp [intOf]; omega⟩
      rw [hnx.out]
      congr 1
    · obtain rfl : j = 2 := by omega
      go_wp2
      go_ret2
      refine ⟨?_, by simpa using HD.out, HX.out⟩
      rw [HM.out, List.take_of_length_le (by rw [HL.out]; exact Nat.le_refl _)]
      rfl
theorem ru16_any (p g o : Nat) (l : List UInt8) (w : World) (h : RD w p g o l) (hn : 2 ≤ l.length) :
    Calls Tryd.prog 18 #[.pointer (some ⟨p, 0, none⟩)] w fun e w' => e = .returned (.tuple #[.int .u16 (nb (l.take 2) : Int), .nilIface]) ∧ RD w' p g (o + 2) (l.drop 2) ∧ Ex (fun j => j = p) w w' := by
  go_enter Tryd.func18, Tryd.ntmps18
  go_wp2_with fail
  refine (number2_any p g o l w h hn).mono ?_
  rintro e w1 ⟨rfl, h1, h2⟩
  have H1 := Lib.hid h1
  have H2 := Lib.hid h2
  clear h1 h2
  go_wp2_with fail
  go_ret2
  exact ⟨rfl, H1.out, H2.out⟩
theorem number2_few (p g o : Nat) (l : List UInt8) (w : World) (h : RD w p g o l) (hn : l.length < 2) :
    Calls Tryd.prog 43 #[.pointer (some ⟨p, 0, none⟩), .int .i64 2] w fun e w' => ∃ v, e = .returned (.tuple #[.int .u16 0, v]) ∧ EC w' (fun j => j = w.heap.size) [lay1] v 2 ∧ Ex (fun _ => False) w w' := by
  go_enter Tryd.func43, Tryd.ntmps43
  go_wp2_with fail
  refine (take_few p g o l 2 w h (by omega)).mono ?_
  rintro e w1 ⟨v, rfl, he, hx⟩
  have HE := Lib.hid he
  have HX := Lib.hid hx
  clear he hx
  go_wp2
  refine wp_loop_rounds 1 ?_
  rw [rounds_succ]
  go_wp2
  go_ret2
  exact ⟨v, rfl, HE.out, HX.out⟩
theorem ru16_few (p g o : Nat) (l : List UInt8) (w : World) (h : RD w p g o l) (hn : l.length < 2) :
    Calls Tryd.prog 18 #[.pointer (some ⟨p, 0, none⟩)] w fun e w' => ∃ v, e = .returned (.tuple #[.int .u16 0, v]) ∧ EC w' (fun j => j = w.heap.size) [lay1] v 2 ∧ Ex (fun _ => False) w w' := by
  go_enter Tryd.func18, Tryd.ntmps18
  go_wp2_with fail
  refine (number2_few p g o l w h hn).mono ?_
  rintro e w1 ⟨v, rfl, h1, h2⟩
  have H1 := Lib.hid h1
  have H2 := Lib.hid h2
  clear h1 h2
  go_wp2_with fail
  go_ret2
  exact ⟨v, rfl, H1.out, H2.out⟩

set_option maxHeartbeats 1000000 in
theorem number1_any (p g o : Nat) (l : List UInt8) (w : World) (h : RD w p g o l) (hn : 1 ≤ l.length) :
    Calls Tryd.prog 44 #[.pointer (some ⟨p, 0, none⟩), .int .i64 1] w fun e w' => e = .returned (.tuple #[.int .u8 (nb (l.take 1) : Int), .nilIface]) ∧ RD w' p g (o + 1) (l.drop 1) ∧ Ex (fun j => j = p) w w' := by
  go_enter Tryd.func44, Tryd.ntmps44
  go_wp2_with fail
  refine (take_any p g o l 1 w h hn).mono ?_
  rintro e w1 ⟨u, rfl, A, rfl, hA, hrb, hrd, hx⟩
  have HD := Lib.hid hrd
  have HX := Lib.hid hx
  obtain ⟨m, hm, hml⟩ : ∃ m, l.take 1 = m ∧ m.length = 1 := ⟨_, rfl, by simp; omega⟩
  rw [hm] at hrb
  have HM := Lib.hid hm
  obtain ⟨_, A', c', e, hc, hcell⟩ := hrb
  injection e with e1 e2 e3
  subst e1
  have HC := Lib.hid hcell
  have HL := Lib.hid hml
  clear hrd hx hA hcell hm hml e2 e3 hc
  go_wp2
  go_loop [4, 8, 17] (fun n c i => ∃ j : Nat, j ≤ 1 ∧ i = .int .i64 (j : Int) ∧ n = .int .u8 (nb (m.take j) : Int)) (fun _ _ i => 1 - (intOf i).toNat)
  case atStart => exact ⟨0, by omega, rfl, rfl⟩
  case round =>
    obtain ⟨j, hj, rfl, rfl⟩ := hrel
    by_cases hlt : j < 1
    · have hjm : j < m.length := by rw [HL.out]; exact hlt
      obtain ⟨b, off, rfl, rfl, hc⟩ := HC.out j hjm
      have hb := m[j].toNat_lt
      have hs := nb_small m j 0 1 (by omega) (by decide)
      have hnx := Lib.hid (nb_next m j hjm)
      have ho := or_u32 (nb (m.take j)) m[j].toNat (by omega) hb
      go_wp2_with fail
      refine ⟨⟨j + 1, by omega, by go_num, ?_⟩, by simp [intOf]; omega⟩
      rw [hnx.out]
      congr 1
    · obtain rfl : j = 1 := by omega
      go_wp2
      go_ret2
      refine ⟨?_, by simpa using HD.out, HX.out⟩
      rw [HM.out, List.take_of_length_le (by rw [HL.out]; exact Nat.le_refl _)]
      rfl
theorem ru8_any (p g o : Nat) (l : List UInt8) (w : World) (h : RD w p g o l) (hn : 1 ≤ l.length) :
    Calls Tryd.prog 19 #[.pointer (some ⟨p, 0, none⟩)] w fun e w' => e = .returned (.tuple #[.int .u8 (nb (l.take 1) : Int), .nilIface]) ∧ RD w' p g (o + 1) (l.drop 1) ∧ Ex (fun j => j = p) w w' := by
  go_enter Tryd.func19, Tryd.ntmps19
  go_wp2_with fail
  refine (number1_any p g o l w h hn).mono ?_
  rintro e w1 ⟨rfl, h1, h2⟩
  have H1 := Lib.hid h1
  have H2 := Lib.hid h2
  clear h1 h2
  go_wp2_with fail
  go_ret2
  exact ⟨rfl, H1.out, H2.out⟩
theorem number1_few (p g o : Nat) (l : List UInt8) (w : World) (h : RD w p g o l) (hn : l.length < 1) :
    Calls Tryd.prog 44 #[.pointer (some ⟨p, 0, none⟩), .int .i64 1] w fun e w' => ∃ v, e = .returned (.tuple #[.int .u8 0, v]) ∧ EC w' (fun j => j = w.heap.size) [lay1] v 2 ∧ Ex (fun _ => False) w w' := by
  go_enter Tryd.func44, Tryd.ntmps44
  go_wp2_with fail
  refine (take_few p g o l 1 w h (by omega)).mono ?_
  rintro e w1 ⟨v, rfl, he, hx⟩
  have HE := Lib.hid he
  have HX := Lib.hid hx
  clear he hx
  go_wp2
  refine wp_loop_rounds 1 ?_
  rw [rounds_succ]
  go_wp2
  go_ret2
  exact ⟨v, rfl, HE.out, HX.out⟩
theorem ru8_few (p g o : Nat) (l : List UInt8) (w : World) (h : RD w p g o l) (hn : l.length < 1) :
    Calls Tryd.prog 19 #[.pointer (some ⟨p, 0, none⟩)] w fun e w' => ∃ v, e = .returned (.tuple #[.int .u8 0, v]) ∧ EC w' (fun j => j = w.heap.size) [lay1] v 2 ∧ Ex (fun _ => False) w w' := by
  go_enter Tryd.func19, Tryd.ntmps19
  go_wp2_with fail
  refine (number1_few p g o l w h hn).mono ?_
  rintro e w1 ⟨v, rfl, h1, h2⟩
  have H1 := Lib.hid h1
  have H2 := Lib.hid h2
  clear h1 h2
  go_wp2_with fail
  go_ret2
  exact ⟨v, rfl, H1.out, H2.out⟩
end Go.Proofs.YtkgieciamophkaaDoor
