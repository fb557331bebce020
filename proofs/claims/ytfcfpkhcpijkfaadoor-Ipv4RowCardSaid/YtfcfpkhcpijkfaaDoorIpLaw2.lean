/-
  What is read and written again. No program in sight. By an AI agent.
-/
import Derived.Test.YtfcfpkhcpijkfaaDoorIpLaw
namespace Go.Proofs.YtfcfpkhcpijkfaaDoor
open Go.RowKit

theorem alike_law {l : List UInt8} (h : perr l = none) : 20 ≤ (pb (ppk l)).length ∧ (pb (ppk l)).length ≤ l.length ∧
    ((∀ i (hi : i < (pb (ppk l)).length), ∃ h2 : i < l.length, (pb (ppk l))[i] = l[i]) ∨
     ((∀ i (hi : i < (pb (ppk l)).length), i ≠ 10 → i ≠ 11 → ∃ h2 : i < l.length, (pb (ppk l))[i] = l[i]) ∧
       (∀ h : 10 < (pb (ppk l)).length, (pb (ppk l))[10] = 0) ∧ (∀ h : 11 < (pb (ppk l)).length, (pb (ppk l))[11] = 0) ∧ (∀ h : 10 < l.length, l[10] = 255) ∧ (∀ h : 11 < l.length, l[11] = 255))) := by
  obtain ⟨h20, ok, hr, hs, he, hl, ht⟩ := ppk_good h
  have hb := Hd.bytes_of h20
  have hok := Hd.of_ok l
  obtain ⟨_, _, _, _, _, _, _, hS, _, _⟩ := hok
  generalize hq : ppk l = q at *
  generalize hSS : (Hd.of l).sum = S at *
  have hb2 : (q.hd S).bytes = l.take 20 := by rw [he]; exact hb
  have e1 := hsum_add (q.hd S) (by show 0 ≤ S ∧ S ≤ 65535; exact hS)
  have e2 : ({ q.hd S with sum := 0 } : Hd) = q.hd 0 := rfl
  have e3 : (q.hd S).sum.toNat = S.toNat := rfl
  rw [e2, e3, hb2] at e1
  rw [su_zero, e1] at hs
  have e4 : q.sum = 65535 - fo (ac true (q.hd 0).bytes) := rfl
  have e5 := fo_rest (ac true (q.hd 0).bytes)
  have e6 := fo_le (ac true (q.hd 0).bytes)
  have e7 := Pk.sum_le q
  have hlen := pb_len q
  have hx : ∀ i (hi : i < (pb q).length), ∀ (y : List UInt8), l.take (20 + q.b.length) = y → ∀ (h : i < y.length), ∃ h2 : i < l.length, y[i] = l[i] := by
    intro i hi y hy h
    subst hy
    exact ⟨by omega, List.getElem_take⟩
  refine ⟨by omega, by omega, ?_⟩
  have hcase : S.toNat = q.sum ∨ (q.sum = 0 ∧ S = 65535) := by omega
  rcases hcase with hc | ⟨hc, hc2⟩
  · refine .inl fun i hi => ?_
    have hpb : l.take (20 + q.b.length) = pb q := by
      rw [ht, ← hb2, show S = (q.sum : Int) by omega]
      rfl
    exact hx i hi _ hpb hi
  · refine .inr ?_
    have hpb : l.take (20 + q.b.length) = ((pb q).set 10 255).set 11 255 := by
      rw [ht, ← hb2, hc2]
      show _ = (((q.hd (q.sum : Int)).bytes ++ q.b).set 10 255).set 11 255
      rw [hc]
      rfl
    have hz : pb q = (q.hd 0).bytes ++ q.b := by
      show (q.hd (q.sum : Int)).bytes ++ q.b = _
      rw [hc]
      rfl
    have hl10 : ∀ i (h1 : i < l.length), i < 20 + q.b.length → ∀ y : List UInt8, l.take (20 + q.b.length) = y → ∀ h2 : i < y.length, l[i] = y[i] := by
      intro i h1 h3 y hy h2
      subst hy
      exact List.getElem_take.symm
    refine ⟨fun i hi h10 h11 => ?_, ?_, ?_, ?_, ?_⟩
    · obtain ⟨h2, h3⟩ := hx i hi _ hpb (by rw [List.length_set, List.length_set]; exact hi)
      rw [List.getElem_set_ne (by omega), List.getElem_set_ne (by omega)] at h3
      exact ⟨h2, h3⟩
    · intro h
      have : ∀ (y : List UInt8) (h : 10 < y.length), y = (q.hd 0).bytes ++ q.b → y[10] = 0 := by
        intro y h e; subst e; rfl
      exact this _ h hz
    · intro h
      have : ∀ (y : List UInt8) (h : 11 < y.length), y = (q.hd 0).bytes ++ q.b → y[11] = 0 := by
        intro y h e; subst e; rfl
      exact this _ h hz
    · intro h
      rw [hl10 10 h (by omega) _ hpb (by rw [List.length_set, List.length_set]; omega), List.getElem_set_ne (by omega), List.getElem_set_self]
    · intro h
      rw [hl10 11 h (by omega) _ hpb (by rw [List.length_set, List.length_set]; omega), List.getElem_set_self]
end Go.Proofs.YtfcfpkhcpijkfaaDoor
