/-
  From what a call is handed to what the walks speak of: slices of bytes, and slices of these. By an AI agent.
-/
import Derived.Test.YtkgieciamophkaaDoorBy
import Derived.OpenShut
import Derived.Deep.Matrix
import Derived.ChangeOld
import Derived.Below
namespace Go.Proofs.YtkgieciamophkaaDoor
open Go.RowKit Go.ChangeShapes

theorem byte_of_wf {n : Int} (h : (Lit.int .u8 n).wf = true) : ((by8 n).toNat : Int) = n := by
  have hb : 0 ≤ n ∧ n ≤ 255 := by simpa [Lit.wf, IntKind.min, IntKind.max, IntKind.signed, IntKind.bits] using h
  rw [by8_toNat]
  omega

theorem rb_of_ints {w : World} {a : Addr} {len cap : Nat} {zs : List Int} (hl : len ≤ cap) (hm : cap ≤ maxLen) (hz : zs.length = cap) (hc : ∀ i, i < zs.length → w.cell? (a.add i) = some (.int .u8 (zs.getD i 0)))
    (hw : ∀ n ∈ zs, (Lit.int .u8 n).wf = true) : ∃ l, RB w (fun _ => True) (.slice (some a) len cap) l := by
  have hlen : ((zs.take len).map by8).length = len := by simp; omega
  refine ⟨(zs.take len).map by8, by rw [hlen]; simp only [maxLen] at hm; omega, some a, cap, by rw [hlen], by omega, fun i hi => ?_⟩
  obtain ⟨b, off, rfl, hcell⟩ := Go.ints_at hc (by omega)
  refine ⟨b, off, rfl, trivial, ?_⟩
  rw [hcell i (by omega)]
  have hi' : i < zs.length := by omega
  have := byte_of_wf (hw zs[i] (List.getElem_mem _))
  simp [List.getD_eq_getElem?_getD, hi', this]

def by16 (x : Int) : UInt16 := UInt16.ofNat (x % 65536).toNat
theorem word_of_wf {n : Int} (h : (Lit.int .u16 n).wf = true) : ((by16 n).toNat : Int) = n := by
  have hb : 0 ≤ n ∧ n ≤ 65535 := by simpa [Lit.wf, IntKind.min, IntKind.max, IntKind.signed, IntKind.bits] using h
  unfold by16
  rw [UInt16.toNat_ofNat']
  omega
theorem rw_of_ints {w : World} {a : Addr} {len cap : Nat} {zs : List Int} (hl : len ≤ cap) (hm : cap ≤ maxLen) (hz : zs.length = cap) (hc : ∀ i, i < zs.length → w.cell? (a.add i) = some (.int .u16 (zs.getD i 0)))
    (hw : ∀ n ∈ zs, (Lit.int .u16 n).wf = true) : ∃ l, RW w (fun _ => True) (.slice (some a) len cap) l := by
  have hlen : ((zs.take len).map by16).length = len := by simp; omega
  refine ⟨(zs.take len).map by16, by rw [hlen]; simp only [maxLen] at hm; omega, some a, cap, by rw [hlen], by omega, fun i hi => ?_⟩
  obtain ⟨b, off, rfl, hcell⟩ := Go.ints_at hc (by omega)
  refine ⟨b, off, rfl, trivial, ?_⟩
  rw [hcell i (by omega)]
  have hi' : i < zs.length := by omega
  have := word_of_wf (hw zs[i] (List.getElem_mem _))
  simp [List.getD_eq_getElem?_getD, hi', this]
theorem rw_none (w : World) : RW w (fun _ => True) (.slice none 0 0) [] := ⟨by simp, none, 0, rfl, by simp, fun i h => by simp at h⟩
theorem rb_none (w : World) : RB w (fun _ => True) (.slice none 0 0) [] := RB.nil w _

theorem rb2_of_rows {w : World} {a : Addr} {len cap : Nat} {A : Nat → Option Addr} {L C : Nat → Nat} {Z : Nat → List Int} (hl : len ≤ cap) (hm : cap ≤ maxLen)
    (h : ∀ r, r < cap → w.cell? (a.add r) = some (.slice (A r) (L r) (C r)) ∧ L r ≤ C r ∧ C r ≤ maxLen ∧ (Z r).length = C r ∧ (∀ n ∈ Z r, (Lit.int .u8 n).wf = true) ∧ (A r = none → C r = 0) ∧
        ∀ a', A r = some a' → ∀ c, c < C r → w.cell? (a'.add c) = some (.int .u8 ((Z r).getD c 0))) : ∃ ls, RB2 w (fun _ => True) (.slice (some a) len cap) ls := by
  have each : ∀ r, r < cap → ∃ l, RB w (fun _ => True) (.slice (A r) (L r) (C r)) l := by
    intro r hr
    obtain ⟨_, h2, h3, h4, h5, h6, h7⟩ := h r hr
    cases hA : A r with
    | none =>
      have := h6 hA
      obtain ⟨e1, e2⟩ : L r = 0 ∧ C r = 0 := by omega
      rw [e1, e2]
      exact ⟨[], RB.nil w _⟩
    | some a' => exact rb_of_ints h2 h3 h4 (by rw [h4]; exact h7 a' hA) h5
  obtain ⟨f, hf⟩ := Go.Deep.choose_lt each
  refine ⟨(List.range len).map f, by simp only [maxLen] at hm; simp; omega, some a, cap, by simp, by simp; exact hl, fun i hi => ?_⟩
  have hi' : i < len := by simpa using hi
  obtain ⟨b, off, spot⟩ := a
  have hspot : spot = none := by simpa [Addr.add] using World.cell?_spot (h 0 (by omega)).1
  subst hspot
  refine ⟨b, off, _, rfl, trivial, by rw [← Go.WideShapes.add_plain]; exact (h i (by omega)).1, ?_⟩
  simpa using hf i (by omega)
end Go.Proofs.YtkgieciamophkaaDoor
