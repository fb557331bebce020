/-
  The reference's Text and Reader.Take. By an AI agent.
-/
import Derived.Test.YtkgieciamophkaaDoorOct
import Derived.Deep.QuietTactic
import Derived.BigQuiet
namespace Go.Proofs.YtkgieciamophkaaDoor
open Go.RowKit

theorem text_any (n : Int) (k : Nat) (h0 : 0 ≤ n) (h1 : n < 4294967296) (_hk : k ≤ 1000) (w : World) :
    Calls Tryd.prog 24 #[.int .u32 n, .int .i64 (k : Int)] w fun e w' => e = .returned (.string (bs (txt n k))) ∧ Ex (fun _ => False) w w' := by
  go_enter Tryd.func24, Tryd.ntmps24
  go_wp2
  have hx0 : Ex (fun _ => False) w w := Ex.refl _ w
  go_loopw [0, 5, 6] (fun v s i wr => ∃ (m : Int) (t : List UInt8) (j : Nat), 0 ≤ m ∧ m < 4294967296 ∧ v = .int .u32 m ∧ s = .string (bs t) ∧ i = .int .i64 (j : Int) ∧ j ≤ k ∧ t.length = j ∧ Hid (txt n k = txt m (k - j) ++ t) ∧ Ex (fun _ => False) w wr) (fun _ _ i _ => k - (intOf i).toNat)
  case atStart => exact ⟨n, [], 0, h0, h1, rfl, rfl, rfl, by omega, rfl, by show txt n k = txt n k ++ []; simp, hx0⟩
  case round =>
    clear hx0
    obtain ⟨m, t, j, hm0, hm1, rfl, rfl, rfl, hj, ht, hh, hex⟩ := hrel
    by_cases hlt : j < k
    · have hcv := (RB.made wr [by8 m] #[.int .u8 (m % 256)] 5 (by simp [u8v_by8]) (by simp) 1 1 rfl (Nat.le_refl _) rfl).str (Pr := Tryd.prog) 23 9 5 Tryd.underlying23 Tryd.underlying5 Tryd.underlying9
      have hb1 := bs_append [by8 m] t
      have hz1 := bs_size [by8 m]
      have hz2 := bs_size t
      subst ht
      have hl : (by8 m :: t).length = t.length + 1 := rfl
      go_wp2
      go_roundw
      case rel =>
        refine ⟨m / 256, by8 m :: t, t.length + 1, by omega, by omega, rfl, rfl, by go_num, by omega, rfl, ?_, hex.alloc _⟩
        show txt n k = _
        rw [hh.out, show k - t.length = (k - (t.length + 1)) + 1 from by omega]
        simp [txt]
      case measure => simp [intOf]; omega
    · obtain rfl : j = k := by omega
      go_wp2
      go_ret
      refine ⟨?_, hex⟩
      show Ending.returned (.string (bs t)) = _
      rw [hh.out]; simp [txt]

theorem bs_take (l : List UInt8) (n : Nat) : (bs l).extract 0 n = bs (l.take n) := by
  apply ByteArray.ext
  simp [bs, ByteArray.data_extract]
theorem bs_drop (l : List UInt8) (n : Nat) : (bs l).extract n l.length = bs (l.drop n) := by
  apply ByteArray.ext
  simp only [bs, ByteArray.data_extract, List.extract_toArray, List.extract_eq_take_drop]
  rw [List.take_of_length_le (by simp)]
set_option maxRecDepth 100000 in
theorem rtake_neg (p : Nat) (n : Int) (w : World) (hn : n < 0) :
    Calls Tryd.prog 31 #[.pointer (some ⟨p, 0, none⟩), .int .i64 n] w fun e w' => e = .returned (.tuple #[.string ⟨#[]⟩, .string ⟨#[111, 99, 116, 101, 116, 115, 58, 32, 101, 114, 114, 111, 114, 32, 49]⟩]) ∧ w = w' := by
  go_enter Tryd.func31, Tryd.ntmps31
  go_wp2_with fail
  go_ret2
  exact ⟨rfl, rfl⟩
set_option maxRecDepth 100000 in
theorem rtake_few (p : Nat) (l : List UInt8) (n : Int) (w : World) (h1 : w.cell? ⟨p, 0, none⟩ = some (.string (bs l))) (hn : (l.length : Int) < n) :
    Calls Tryd.prog 31 #[.pointer (some ⟨p, 0, none⟩), .int .i64 n] w fun e w' => e = .returned (.tuple #[.string ⟨#[]⟩, .string ⟨#[111, 99, 116, 101, 116, 115, 58, 32, 101, 114, 114, 111, 114, 32, 50]⟩]) ∧ w = w' := by
  have hz := bs_size l
  go_enter Tryd.func31, Tryd.ntmps31
  go_wp2_with fail
  go_ret2
  exact ⟨rfl, rfl⟩
set_option maxRecDepth 100000 in
theorem rtake_any (p : Nat) (l : List UInt8) (n : Nat) (w : World) (h1 : w.cell? ⟨p, 0, none⟩ = some (.string (bs l))) (h2 : w.frozen? ⟨p, 0, none⟩ = false) (hn : n ≤ l.length) :
    Calls Tryd.prog 31 #[.pointer (some ⟨p, 0, none⟩), .int .i64 (n : Int)] w fun e w' => e = .returned (.tuple #[.string (bs (l.take n)), .string ⟨#[]⟩]) ∧ w' = w.setCell ⟨p, 0, none⟩ (.string (bs (l.drop n))) := by
  have hz := bs_size l
  have hni : (n : Int) ≤ (l.length : Int) := by omega
  go_enter Tryd.func31, Tryd.ntmps31
  go_wp2_with fail
  go_ret2
  rw [bs_take, bs_drop]
  exact ⟨rfl, rfl⟩
end Go.Proofs.YtkgieciamophkaaDoor
