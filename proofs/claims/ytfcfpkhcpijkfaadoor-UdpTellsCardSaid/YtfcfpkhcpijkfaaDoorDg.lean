/-
  The datagrams of UDP: their bytes, and what bytes say. No program in sight. By an AI agent.
-/
import Derived.Test.YtfcfpkhcpijkfaaDoorWr06
import Derived.Test.YtfcfpkhcpijkfaaDoorIpLaw
import Derived.Test.YtfcfpkhcpijkfaaDoorPseudo
namespace Go.Proofs.YtfcfpkhcpijkfaaDoor
open Go.RowKit

/-- a datagram's parts -/
structure Dg where
  src : Int
  dst : Int
  pl : Bool
  b : List UInt8
def Dg.ok (d : Dg) : Prop := (0 ≤ d.src ∧ d.src ≤ 65535) ∧ (0 ≤ d.dst ∧ d.dst ≤ 65535)
def zdg : Dg := ⟨0, 0, false, []⟩
theorem zdg_ok : zdg.ok := by refine ⟨?_, ?_⟩ <;> decide
def Dg.hd (d : Dg) (s : Int) : List UInt8 := by8 (d.src / 256) :: by8 d.src :: by8 (d.dst / 256) :: by8 d.dst :: by8 ((8 + (d.b.length : Int)) / 256) :: by8 (8 + (d.b.length : Int)) :: by8 (s / 256) :: by8 s :: d.b
theorem Dg.hd_len (d : Dg) (s : Int) : (d.hd s).length = 8 + d.b.length := by simp [Dg.hd]; omega
/-- what stands ahead of a datagram in its sum -/
def Dg.ps (d : Dg) (s t : Int) : List UInt8 := psd s t 17 (8 + (d.b.length : Int))
def Dg.raw (d : Dg) (s t : Int) : Nat := su (d.ps s t ++ d.hd 0)
def Dg.sum (d : Dg) (s t : Int) : Nat := if d.raw s t = 0 then 65535 else d.raw s t
/-- a datagram's bytes -/
def db (d : Dg) (s t : Int) : List UInt8 := if d.pl = true then d.hd 0 else d.hd (d.sum s t : Int)
theorem db_len (d : Dg) (s t : Int) : (db d s t).length = 8 + d.b.length := by unfold db; split <;> exact Dg.hd_len _ _
theorem Dg.raw_le (d : Dg) (s t : Int) : d.raw s t ≤ 65535 := su_le _
theorem Dg.sum_le (d : Dg) (s t : Int) : d.sum s t ≤ 65535 := by have := d.raw_le s t; unfold Dg.sum; split <;> omega
theorem Dg.sum_pos (d : Dg) (s t : Int) : 0 < d.sum s t := by unfold Dg.sum; split <;> omega
theorem dtwo_by8 (s : Int) (h0 : 0 ≤ s) (h1 : s ≤ 65535) : ((by8 (s / 256)).toNat * 256 + (by8 s).toNat : Nat) = s.toNat := by
  have a := by8_toNat (s / 256)
  have b := by8_toNat s
  omega
theorem ac_8 (a b c d e f g h : UInt8) (T : List UInt8) : ac true (a :: b :: c :: d :: e :: f :: g :: h :: T) = a.toNat * 256 + (b.toNat + (c.toNat * 256 + (d.toNat + (e.toNat * 256 + (f.toNat + (g.toNat * 256 + (h.toNat + ac true T))))))) := rfl
set_option maxRecDepth 20000 in
theorem Dg.hd_acs (d : Dg) (s : Int) (h0 : 0 ≤ s) (h1 : s ≤ 65535) : ac true (d.hd s) = ac true (d.hd 0) + s.toNat := by
  have h := dtwo_by8 s h0 h1
  have e : (by8 0).toNat = 0 := by decide
  have e' : (by8 (0 / 256)).toNat = 0 := by decide
  unfold Dg.hd
  rw [ac_8, ac_8, e, e']
  generalize (by8 (d.src / 256)).toNat = a1
  generalize (by8 d.src).toNat = a2
  generalize (by8 (d.dst / 256)).toNat = a3
  generalize (by8 d.dst).toNat = a4
  generalize (by8 ((8 + (d.b.length : Int)) / 256)).toNat = a5
  generalize (by8 (8 + (d.b.length : Int))).toNat = a6
  generalize (by8 (s / 256)).toNat = a7 at h ⊢
  generalize (by8 s).toNat = a8 at h ⊢
  generalize ac true d.b = R
  omega
theorem psd_ac (s t p n : Int) (X : List UInt8) : ac true (psd s t p n ++ X) = ac true (psd s t p n) + ac true X := by
  rw [ac_append, hi_even _ _ (by rw [psd_len])]
set_option maxRecDepth 20000 in
theorem psd_swap (s t p n : Int) : ac true (psd s t p n) = ac true (psd t s p n) := by
  have h : ∀ (a b c d e f g h : UInt8) (T : List UInt8), ac true (a :: b :: c :: d :: e :: f :: g :: h :: T) = a.toNat * 256 + (b.toNat + (c.toNat * 256 + (d.toNat + (e.toNat * 256 + (f.toNat + (g.toNat * 256 + (h.toNat + ac true T))))))) := ac_8
  unfold psd four
  simp only [List.cons_append, List.nil_append]
  rw [h, h]
  generalize (by8 (s / 16777216)).toNat = a1
  generalize (by8 (s / 65536)).toNat = a2
  generalize (by8 (s / 256)).toNat = a3
  generalize (by8 s).toNat = a4
  generalize (by8 (t / 16777216)).toNat = a5
  generalize (by8 (t / 65536)).toNat = a6
  generalize (by8 (t / 256)).toNat = a7
  generalize (by8 t).toNat = a8
  generalize ac true _ = R
  omega
theorem su_swap (s t p n : Int) (X : List UInt8) : su (psd s t p n ++ X) = su (psd t s p n ++ X) := by
  unfold su
  rw [psd_ac, psd_ac, psd_swap]
/-- with its own sum a datagram sums to nothing -/
theorem dsum_ok (d : Dg) (s t : Int) : su (d.ps s t ++ d.hd (d.sum s t : Int)) = 0 := by
  have h2 := d.sum_le s t
  have h3 := fo_rest (ac true (d.ps s t ++ d.hd 0))
  have h4 := fo_le (ac true (d.ps s t ++ d.hd 0))
  have h6 := fo_zero (ac true (d.ps s t ++ d.hd 0))
  have h5 : ac true (d.ps s t ++ d.hd (d.sum s t : Int)) = ac true (d.ps s t ++ d.hd 0) + d.sum s t := by
    unfold Dg.ps
    rw [psd_ac, psd_ac, d.hd_acs (d.sum s t : Int) (by omega) (by omega)]
    omega
  have e3 : d.raw s t = 65535 - fo (ac true (d.ps s t ++ d.hd 0)) := rfl
  rw [su_zero, h5]
  unfold Dg.sum
  split <;> omega
/-- what bytes say of a datagram's size, and its sum -/
def dsz (l : List UInt8) : Nat := nb [l.getD 4 0, l.getD 5 0]
def dsm (l : List UInt8) : Nat := nb [l.getD 6 0, l.getD 7 0]
/-- the datagram that bytes are -/
def pd (l : List UInt8) : Dg := ⟨(nb [l.getD 0 0, l.getD 1 0] : Int), (nb [l.getD 2 0, l.getD 3 0] : Int), decide (dsm l = 0), (l.take (dsz l)).drop 8⟩
theorem pd_ok (l : List UInt8) : (pd l).ok := ⟨⟨by simp only [pd]; omega, nb2_le _ _⟩, ⟨by simp only [pd]; omega, nb2_le _ _⟩⟩
/-- what is wrong with bytes -/
def uerr (l : List UInt8) (s t : Int) : Option (List (List UInt8) × Nat) :=
  if l.length < 8 then some ([lay6, lay1], 2)
  else if dsz l < 8 then some ([lay6], 3)
  else if l.length < dsz l then some ([lay6], 2)
  else if dsm l ≠ 0 ∧ su (psd s t 17 (dsz l : Int) ++ l.take (dsz l)) ≠ 0 then some ([lay6], 4) else none
theorem dsz_hd (d : Dg) (s : Int) (m : List UInt8) (h : d.b.length ≤ 65507) : dsz (d.hd s ++ m) = 8 + d.b.length := by
  have e := nb_txt2 (8 + (d.b.length : Int)) (by omega) (by omega)
  show nb [by8 ((8 + (d.b.length : Int)) / 256), by8 (8 + (d.b.length : Int))] = _
  omega
theorem dsm_hd (d : Dg) (s : Int) (m : List UInt8) (h0 : 0 ≤ s) (h1 : s ≤ 65535) : (dsm (d.hd s ++ m) : Int) = s := nb_txt2 s (by omega) (by omega)
theorem pd_hd {d : Dg} (ok : d.ok) (s : Int) (m : List UInt8) (h : d.b.length ≤ 65507) (h0 : 0 ≤ s) (h1 : s ≤ 65535) (hp : (s = 0) = (d.pl = true)) : pd (d.hd s ++ m) = d := by
  have e1 := dsz_hd d s m h
  have e2 := dsm_hd d s m h0 h1
  obtain ⟨src, dst, pl, b⟩ := d
  obtain ⟨h2, h3⟩ := ok
  simp only at h h2 h3 hp e1
  have f1 := nb_txt2 src (by omega) (by omega)
  have f2 := nb_txt2 dst (by omega) (by omega)
  have f3 : decide (dsm ((⟨src, dst, pl, b⟩ : Dg).hd s ++ m) = 0) = pl := by
    cases pl with
    | true => have : s = 0 := hp.mpr rfl; rw [decide_eq_true_eq]; omega
    | false => rw [decide_eq_false_iff_not]; intro h'; have : s = 0 := by omega
               rw [hp] at this; cases this
  have f4 : (((⟨src, dst, pl, b⟩ : Dg).hd s ++ m).take (8 + b.length)).drop 8 = b := by
    have hl := Dg.hd_len ⟨src, dst, pl, b⟩ s
    rw [List.take_append_of_le_length (Nat.le_of_eq hl.symm), List.take_of_length_le (Nat.le_of_eq hl)]
    rfl
  show Dg.mk (nb [by8 (src / 256), by8 src] : Int) (nb [by8 (dst / 256), by8 dst] : Int) (decide (dsm _ = 0)) (((_ : List UInt8).take (dsz _)).drop 8) = _
  rw [e1, f1, f2, f3, f4]
theorem hd_take (d : Dg) (s : Int) (m : List UInt8) : (d.hd s ++ m).take (8 + d.b.length) = d.hd s := by
  have hl := Dg.hd_len d s
  rw [List.take_append_of_le_length (Nat.le_of_eq hl.symm), List.take_of_length_le (Nat.le_of_eq hl)]
/-- what is written is read, by either end -/
theorem db_back {d : Dg} (ok : d.ok) (s t : Int) (h : d.b.length ≤ 65507) (m : List UInt8) : uerr (db d s t ++ m) s t = none ∧ uerr (db d s t ++ m) t s = none ∧ pd (db d s t ++ m) = d := by
  have hs := d.sum_le s t
  have hp := d.sum_pos s t
  cases hpl : d.pl with
  | true =>
    have e : db d s t = d.hd 0 := if_pos hpl
    have e1 := dsz_hd d 0 m h
    have e2 := dsm_hd d 0 m (by omega) (by omega)
    have hl := Dg.hd_len d 0
    have hu : ∀ s t, uerr (d.hd 0 ++ m) s t = none := fun s t => by
      unfold uerr
      rw [e1, if_neg (by rw [List.length_append, hl]; omega), if_neg (by omega), if_neg (by rw [List.length_append, hl]; omega), if_neg (by intro h'; exact h'.1 (by omega))]
    rw [e]
    exact ⟨hu s t, hu t s, pd_hd ok 0 m h (by omega) (by omega) (by rw [hpl]; simp)⟩
  | false =>
    have e : db d s t = d.hd (d.sum s t : Int) := if_neg (by rw [hpl]; simp)
    have e1 := dsz_hd d (d.sum s t : Int) m h
    have hl := Dg.hd_len d (d.sum s t : Int)
    have ht := hd_take d (d.sum s t : Int) m
    have hk := dsum_ok d s t
    unfold Dg.ps at hk
    have hk2 := hk
    rw [su_swap] at hk2
    have hu : ∀ s' t', su (psd s' t' 17 (8 + (d.b.length : Int)) ++ d.hd (d.sum s t : Int)) = 0 → uerr (d.hd (d.sum s t : Int) ++ m) s' t' = none := fun s' t' h' => by
      unfold uerr
      rw [e1, if_neg (by rw [List.length_append, hl]; omega), if_neg (by omega), if_neg (by rw [List.length_append, hl]; omega), ht]
      rw [show (((8 + d.b.length : Nat) : Int)) = 8 + (d.b.length : Int) by omega]
      rw [if_neg (by intro h''; exact h''.2 h')]
    rw [e]
    exact ⟨hu s t hk, hu t s hk2, pd_hd ok _ m h (by omega) (by omega) (by rw [hpl]; simp; omega)⟩
/-- bytes that are cut off -/
theorem db_cut {d : Dg} (s t s' t' : Int) (h : d.b.length ≤ 65507) (k : Nat) (hk : k < (db d s t).length) : ∃ r, (r = [lay6, lay1] ∨ r = [lay6]) ∧ uerr ((db d s t).take k) s' t' = some (r, 2) := by
  have hl := db_len d s t
  have hlt : ((db d s t).take k).length = k := by rw [List.length_take]; omega
  by_cases h8 : k < 8
  · exact ⟨_, .inl rfl, if_pos (by omega)⟩
  · refine ⟨_, .inr rfl, ?_⟩
    have e1 : dsz ((db d s t).take k) = 8 + d.b.length := by
      have : dsz ((db d s t).take k) = dsz (db d s t) := by
        unfold dsz
        simp only [List.getD_eq_getElem?_getD, List.getElem?_take]
        rw [if_pos (by omega), if_pos (by omega)]
      rw [this]
      unfold db
      split
      · have := dsz_hd d 0 [] h; rwa [List.append_nil] at this
      · have := dsz_hd d (d.sum s t : Int) [] h; rwa [List.append_nil] at this
    unfold uerr
    rw [e1, if_neg (by omega), if_neg (by omega), if_pos (by omega)]
theorem db_inj {d x : Dg} (hd : d.ok) (hx : x.ok) (s t : Int) (h : d.b.length ≤ 65507) (h' : x.b.length ≤ 65507) : db d s t = db x s t ↔ d = x := by
  have a := (db_back hd s t h []).2.2
  have b := (db_back hx s t h' []).2.2
  rw [List.append_nil] at a b
  exact ⟨fun e => by rw [← a, e, b], fun e => by rw [e]⟩
end Go.Proofs.YtfcfpkhcpijkfaaDoor
