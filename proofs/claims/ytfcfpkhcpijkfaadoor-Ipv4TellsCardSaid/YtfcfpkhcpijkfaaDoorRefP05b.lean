/-
  The contract of the reference's Parse of a packet, every way. By an AI agent.
-/
import Derived.Test.YtfcfpkhcpijkfaaDoorRefP05x
import Derived.Test.YtfcfpkhcpijkfaaDoorRefP05y
namespace Go.Proofs.YtfcfpkhcpijkfaaDoor
open Go.RowKit

theorem txs : bs (etx ([lay5, lay1]) 2) = ⟨#[105, 112, 118, 52, 58, 32, 111, 99, 116, 101, 116, 115, 58, 32, 101, 114, 114, 111, 114, 32, 50]⟩ := by decide
theorem ty12 : bs (etx [lay5] 12) = ⟨#[105, 112, 118, 52, 58, 32, 101, 114, 114, 111, 114, 32, 49, 50]⟩ := by decide
theorem ty3 : bs (etx [lay5] 3) = ⟨#[105, 112, 118, 52, 58, 32, 101, 114, 114, 111, 114, 32, 51]⟩ := by decide
theorem ty11 : bs (etx [lay5] 11) = ⟨#[105, 112, 118, 52, 58, 32, 101, 114, 114, 111, 114, 32, 49, 49]⟩ := by decide
theorem ty2 : bs (etx [lay5] 2) = ⟨#[105, 112, 118, 52, 58, 32, 101, 114, 114, 111, 114, 32, 50]⟩ := by decide
theorem ty4 : bs (etx [lay5] 4) = ⟨#[105, 112, 118, 52, 58, 32, 101, 114, 114, 111, 114, 32, 52]⟩ := by decide
/-- the packet that the reference's Parse gives -/
def rpk (l : List UInt8) : Pk := if perr l = none then ppk l else zpk
/-- what the reference's Parse says -/
def rsays (l : List UInt8) : ByteArray := match perr l with
  | none => ⟨#[]⟩
  | some (r, k) => bs (etx r k)
theorem right_three (p : Pk) : p.right = 0 ∨ p.right = 1 ∨ p.right = 7 := by
  unfold Pk.right
  split
  · exact Or.inr (Or.inl rfl)
  · split
    · exact Or.inr (Or.inr rfl)
    · exact Or.inl rfl
theorem rp_err {l : List UInt8} {r : List (List UInt8)} {k : Nat} (h : perr l = some (r, k)) {t : ByteArray} (ht : bs (etx r k) = t) :
    (.tuple #[rpv (rpk l), .string (rsays l)] : Value) = .tuple #[.agg #[.int .u32 0, .int .u32 0, .bool false, .bool false, .int .i64 0, .int .u32 0, .int .u32 0, .int .u32 0, .int .u32 0, .string ⟨#[]⟩], .string t] := by
  have e1 : rpk l = zpk := by unfold rpk; rw [h]; rfl
  have e2 : rsays l = t := by unfold rsays; rw [h]; exact ht
  rw [e1, e2, rzpk]
theorem perr_s {l : List UInt8} (h : l.length < 20) : perr l = some ([lay5, lay1], 2) := if_pos h
theorem perr_c {l : List UInt8} (h : 20 ≤ l.length) {k : Nat} (hk : (Hd.of l).chk (su (l.take 20)) l.length = k) (h0 : k ≠ 0) : perr l = some ([lay5], k) := by
  unfold perr
  rw [if_neg (by omega), hk, if_pos h0]
set_option maxRecDepth 100000 in
theorem rparse_any (l : List UInt8) (w : World) (hl : l.length ≤ 1000000) :
    Calls Tryd.prog 25 #[.string (bs l)] w fun e w' => e = .returned (.tuple #[rpv (rpk l), .string (rsays l)]) ∧ Ex (fun _ => False) w w' := by
  by_cases h20 : l.length < 20
  · rw [rp_err (perr_s h20) txs]
    exact rparse_short l w hl h20
  have h20 : 20 ≤ l.length := by omega
  by_cases gn : (Hd.of l).vi / 16 ≠ 4
  · rw [rp_err (perr_c h20 (k := 12) (by unfold Hd.chk; rw [if_pos gn]) (by decide)) ty12]
    exact rparse_0 l w hl h20  gn
  have g1 : (Hd.of l).vi / 16 = 4 := by omega
  clear gn
  by_cases gn : (Hd.of l).vi % 16 < 5
  · rw [rp_err (perr_c h20 (k := 3) (by unfold Hd.chk; rw [if_neg (show ¬ ((Hd.of l).vi / 16 ≠ 4) by omega), if_pos gn]) (by decide)) ty3]
    exact rparse_1 l w hl h20 g1 gn
  have g2 : 5 ≤ (Hd.of l).vi % 16 := by omega
  clear gn
  by_cases gn : 5 < (Hd.of l).vi % 16
  · rw [rp_err (perr_c h20 (k := 11) (by unfold Hd.chk; rw [if_neg (show ¬ ((Hd.of l).vi / 16 ≠ 4) by omega), if_neg (show ¬ ((Hd.of l).vi % 16 < 5) by omega), if_pos gn]) (by decide)) ty11]
    exact rparse_2 l w hl h20 g1 g2 gn
  have g3 : (Hd.of l).vi % 16 ≤ 5 := by omega
  clear gn
  by_cases gn : (Hd.of l).size < 20
  · rw [rp_err (perr_c h20 (k := 3) (by unfold Hd.chk; rw [if_neg (show ¬ ((Hd.of l).vi / 16 ≠ 4) by omega), if_neg (show ¬ ((Hd.of l).vi % 16 < 5) by omega), if_neg (show ¬ (5 < (Hd.of l).vi % 16) by omega), if_pos gn]) (by decide)) ty3]
    exact rparse_3 l w hl h20 g1 g2 g3 gn
  have g4 : 20 ≤ (Hd.of l).size := by omega
  clear gn
  by_cases gn : (l.length : Int) < (Hd.of l).size
  · rw [rp_err (perr_c h20 (k := 2) (by unfold Hd.chk; rw [if_neg (show ¬ ((Hd.of l).vi / 16 ≠ 4) by omega), if_neg (show ¬ ((Hd.of l).vi % 16 < 5) by omega), if_neg (show ¬ (5 < (Hd.of l).vi % 16) by omega), if_neg (show ¬ ((Hd.of l).size < 20) by omega), if_pos gn]) (by decide)) ty2]
    exact rparse_4 l w hl h20 g1 g2 g3 g4 gn
  have g5 : (Hd.of l).size ≤ (l.length : Int) := by omega
  clear gn
  by_cases gn : su (l.take 20) ≠ 0
  · rw [rp_err (perr_c h20 (k := 4) (by unfold Hd.chk; rw [if_neg (show ¬ ((Hd.of l).vi / 16 ≠ 4) by omega), if_neg (show ¬ ((Hd.of l).vi % 16 < 5) by omega), if_neg (show ¬ (5 < (Hd.of l).vi % 16) by omega), if_neg (show ¬ ((Hd.of l).size < 20) by omega), if_neg (show ¬ ((l.length : Int) < (Hd.of l).size) by omega), if_pos gn]) (by decide)) ty4]
    exact rparse_5 l w hl h20 g1 g2 g3 g4 g5 gn
  have g6 : su (l.take 20) = 0 := by omega
  clear gn
  by_cases gn : 32768 ≤ (Hd.of l).bits
  · rw [rp_err (perr_c h20 (k := 3) (by unfold Hd.chk; rw [if_neg (show ¬ ((Hd.of l).vi / 16 ≠ 4) by omega), if_neg (show ¬ ((Hd.of l).vi % 16 < 5) by omega), if_neg (show ¬ (5 < (Hd.of l).vi % 16) by omega), if_neg (show ¬ ((Hd.of l).size < 20) by omega), if_neg (show ¬ ((l.length : Int) < (Hd.of l).size) by omega), if_neg (show ¬ (su (l.take 20) ≠ 0) by omega), if_pos gn]) (by decide)) ty3]
    exact rparse_6 l w hl h20 g1 g2 g3 g4 g5 g6 gn
  have hc : (Hd.of l).chk (su (l.take 20)) l.length = 0 := by unfold Hd.chk; rw [if_neg (show ¬ ((Hd.of l).vi / 16 ≠ 4) by omega), if_neg (show ¬ ((Hd.of l).vi % 16 < 5) by omega), if_neg (show ¬ (5 < (Hd.of l).vi % 16) by omega), if_neg (show ¬ ((Hd.of l).size < 20) by omega), if_neg (show ¬ ((l.length : Int) < (Hd.of l).size) by omega), if_neg (show ¬ (su (l.take 20) ≠ 0) by omega), if_neg gn]
  have gm : (Hd.of l).bits < 32768 := by omega
  have hp : perr l = if (ppk l).right ≠ 0 then some ([lay5], 3) else none := by
    unfold perr
    rw [if_neg (by omega), hc, if_neg (by decide)]
  obtain hr | hr | hr := right_three (ppk l)
  · have e0 : perr l = none := by rw [hp, hr]; rfl
    have e1 : rpk l = ppk l := if_pos e0
    have e2 : rsays l = ⟨#[]⟩ := by unfold rsays; rw [e0]
    rw [e1, e2]
    exact rparse_8 l w hl h20 g1 g2 g3 g4 g5 g6 gm hr
  · rw [rp_err (hp.trans (by rw [hr]; rfl)) ty3]
    exact rparse_71 l w hl h20 g1 g2 g3 g4 g5 g6 gm hr
  · rw [rp_err (hp.trans (by rw [hr]; rfl)) ty3]
    exact rparse_77 l w hl h20 g1 g2 g3 g4 g5 g6 gm hr
end Go.Proofs.YtfcfpkhcpijkfaaDoor
