/-
  The walk of sum.Pseudo. By an AI agent.
-/
import Derived.Test.YtfcfpkhcpijkfaaDoorSum
namespace Go.Proofs.YtfcfpkhcpijkfaaDoor
open Go.RowKit

theorem Tryd.info5 : (Tryd.prog.info? 5).map (fun i => (i.zero, i.size, i.bytes)) = some (some (.int .u8 0), 1, 1) := by kernel_rfl

def four (x : Int) : List UInt8 := [by8 (x / 16777216), by8 (x / 65536), by8 (x / 256), by8 x]
def psd (s d p n : Int) : List UInt8 := four s ++ four d ++ [0, by8 p, by8 (n / 256), by8 n]
theorem psd_len (s d p n : Int) : (psd s d p n).length = 12 := rfl

set_option maxRecDepth 100000 in
set_option maxHeartbeats 400000 in
theorem pseudo_any (s d p n : Int) (hs : 0 ≤ s ∧ s < 4294967296) (hd : 0 ≤ d ∧ d < 4294967296) (hp : 0 ≤ p ∧ p < 256) (hn : -9223372036854775808 ≤ n ∧ n ≤ 9223372036854775807) (w : World) :
    Calls Tryd.prog 43 #[.int .u32 s, .int .u32 d, .int .u8 p, .int .i64 n] w fun e w' => ∃ v, e = .returned v ∧ OB w' w.heap.size v (psd s d p n) ∧ Ex (fun _ => False) w w' := by
  obtain ⟨i0, hi, hz0, hz1, hz2⟩ := info_parts Tryd.info5
  have ix0 : ∀ w, (Instr.index 113 (.agg #[.int .u32 s, .int .u32 d]) (.int .i64 0)).run Tryd.prog w = .ok (.int .u32 s) w := fun _ => by kernel_rfl
  have ix1 : ∀ w, (Instr.index 113 (.agg #[.int .u32 s, .int .u32 d]) (.int .i64 1)).run Tryd.prog w = .ok (.int .u32 d) w := fun _ => by kernel_rfl
  obtain ⟨hs0, hs1⟩ := hs
  obtain ⟨hd0, hd1⟩ := hd
  obtain ⟨hp0, hp1⟩ := hp
  obtain ⟨hn0, hn1⟩ := hn
  go_enter Tryd.func43, Tryd.ntmps43
  go_wp2_with (at_make; refine wpList_make_own _ rfl _ _ 22 rfl w.heap.size 5 i0 (.int .u8 0) 1 Tryd.underlying22 hi hz0 hz1 _ _ 12 12 rfl rfl rfl (by rw [hz2]; decide) (by decide) (Nat.le_refl _) ?_; intro w1 hown1 hg1)
  have hob : OB w1 w.heap.size (.slice (some ⟨w.heap.size, 0, none⟩) 0 12) [] := ⟨by simp, hown1⟩
  have hex : Ex (fun _ => False) w w1 := (Ex.refl _ w).grown hg1 (fun k h => by cases h)
  clear hown1 hg1
  have hl0 : Hid (([] : List UInt8) = ([four s, four d].take 0).flatten) := rfl
  go_loopw [9, 16] (fun v i wr => ∃ (k : Nat) (l : List UInt8), k ≤ 2 ∧ i = .int .i64 (k : Int) ∧ Hid (l = ([four s, four d].take k).flatten) ∧ OB wr w.heap.size v l ∧ Ex (fun _ => False) w wr) (fun _ i _ => 2 - (intOf i).toNat)
  case atStart => exact ⟨0, [], by omega, rfl, hl0, hob, hex⟩
  case round =>
    clear hob hex hl0
    obtain ⟨k, l, hk, rfl, hl, hob, hex⟩ := hrel
    obtain ⟨A, c, rfl⟩ := hob.shape
    have hll : l.length ≤ 8 := by rw [hl.out]; have : k = 0 ∨ k = 1 ∨ k = 2 := by omega
                                  rcases this with rfl | rfl | rfl <;> simp [four]
    by_cases hlt : k < 2
    · obtain ⟨x, hx, hx0, hx1, hlx⟩ : ∃ x, (∀ w, (Instr.index 113 (.agg #[.int .u32 s, .int .u32 d]) (.int .i64 (k : Int))).run Tryd.prog w = .ok (.int .u32 x) w) ∧ 0 ≤ x ∧ x < 4294967296 ∧ Hid (l ++ four x = ([four s, four d].take (k + 1)).flatten) := by
        have : k = 0 ∨ k = 1 := by omega
        rcases this with rfl | rfl
        · exact ⟨s, ix0, hs0, hs1, by rw [hl.out]; simp [Hid]⟩
        · exact ⟨d, ix1, hd0, hd1, by rw [hl.out]; simp [Hid]⟩
      clear ix0 ix1
      have hsz := hex.size
      go_wp2_with (at_builtin; refine wpList_append_ob i0 22 Tryd.underlying22 hi hz0 hz1 hz2 rfl (.tmp 19) (.tmp 31) rfl w.heap.size _ l rfl _ (.slice (some ⟨wr.heap.size, 0, none⟩) 4 4) (four x) rfl (hob.alloc _) (RB.made wr (four x) _ _ (by simp [four, u8v_by8]; omega) (by simp [four]) _ _ rfl (Nat.le_refl _) rfl) ?c1 ?c2 ?_; (case c1 => simp [four]; omega); (case c2 => simp; omega); intro A2 c2 w2 ho2 hg2 hn2 hb2)
      go_roundw
      case rel => exact ⟨k + 1, _, by omega, by go_num, hlx, ho2, (hex.alloc _).grown hg2 (fun j hj => .inr (hob.lt j hj).1)⟩
      case measure => simp [intOf]; omega
    · obtain rfl : k = 2 := by omega
      have hsz := hex.size
      have hl2 : l = four s ++ four d := by rw [hl.out]; simp
      clear hl
      subst hl2
      go_wp2_with (at_builtin; refine wpList_append_ob i0 22 Tryd.underlying22 hi hz0 hz1 hz2 rfl (.tmp 34) (.tmp 41) rfl w.heap.size _ (four s ++ four d) rfl _ (.slice (some ⟨wr.heap.size, 0, none⟩) 4 4) [0, by8 p, by8 (n / 256), by8 n] rfl (hob.alloc _) (RB.made wr [0, by8 p, by8 (n / 256), by8 n] _ _ (by simp [u8v_by8]; exact ⟨rfl, by omega⟩) (by simp) _ _ rfl (Nat.le_refl _) rfl) ?c1 ?c2 ?_; (case c1 => simp [four]); (case c2 => simp; omega); intro A2 c2 w2 ho2 hg2 hn2 hb2)
      go_ret
      exact ⟨_, rfl, ho2, (hex.alloc _).grown hg2 (fun j hj => .inr (hob.lt j hj).1)⟩
end Go.Proofs.YtfcfpkhcpijkfaaDoor
