/-
  The messages of ICMP: their bytes, and what bytes say. No program in sight. By an AI agent.
-/
import Derived.Test.YtbmjkcocnmfpaaaDoorIpLaw
namespace Go.Proofs.YtbmjkcocnmfpaaaDoor
open Go.RowKit

def lay7 : List UInt8 := [105, 99, 109, 112]
/-- a message's parts -/
structure Ms where
  ty : Int
  co : Int
  rest : Int
  b : List UInt8
/-- the ranges of a message's numbers -/
def Ms.ok (m : Ms) : Prop := (0 ≤ m.ty ∧ m.ty ≤ 255) ∧ (0 ≤ m.co ∧ m.co ≤ 255) ∧ (0 ≤ m.rest ∧ m.rest ≤ 4294967295)
def zms : Ms := ⟨0, 0, 0, []⟩
theorem zms_ok : zms.ok := by refine ⟨?_, ?_, ?_⟩ <;> decide
def Ms.hd (m : Ms) (s : Int) : List UInt8 := by8 m.ty :: by8 m.co :: by8 (s / 256) :: by8 s :: by8 (m.rest / 256 / 256 / 256) :: by8 (m.rest / 256 / 256) :: by8 (m.rest / 256) :: by8 m.rest :: m.b
def Ms.sum (m : Ms) : Nat := su (m.hd 0)
/-- a message's bytes -/
def mb (m : Ms) : List UInt8 := m.hd (m.sum : Int)
theorem Ms.hd_len (m : Ms) (s : Int) : (m.hd s).length = 8 + m.b.length := by simp [Ms.hd]; omega
theorem mb_len (m : Ms) : (mb m).length = 8 + m.b.length := m.hd_len _
theorem Ms.sum_le (m : Ms) : m.sum ≤ 65535 := su_le _
theorem two_by8 (s : Int) (h0 : 0 ≤ s) (h1 : s ≤ 65535) : ((by8 (s / 256)).toNat * 256 + (by8 s).toNat : Nat) = s.toNat := by
  have a := by8_toNat (s / 256)
  have b := by8_toNat s
  omega
theorem ac_four (a b c d : UInt8) (T : List UInt8) : ac true (a :: b :: c :: d :: T) = a.toNat * 256 + (b.toNat + (c.toNat * 256 + (d.toNat + ac true T))) := rfl
/-- the last six bytes of a message's head, and its own -/
def Ms.rt (m : Ms) : List UInt8 := by8 (m.rest / 256 / 256 / 256) :: by8 (m.rest / 256 / 256) :: by8 (m.rest / 256) :: by8 m.rest :: m.b
theorem Ms.hd_ac (m : Ms) (s : Int) : ac true (m.hd s) = (by8 m.ty).toNat * 256 + ((by8 m.co).toNat + ((by8 (s / 256)).toNat * 256 + ((by8 s).toNat + ac true m.rt))) := ac_four _ _ _ _ m.rt
set_option maxRecDepth 20000 in
theorem Ms.hd_ac0 (m : Ms) : ac true (m.hd 0) = (by8 m.ty).toNat * 256 + ((by8 m.co).toNat + ac true m.rt) := by
  have h := m.hd_ac 0
  have e : (by8 0).toNat = 0 := by decide
  have e' : (by8 (0 / 256)).toNat = 0 := by decide
  rw [h, e, e']
  omega
set_option maxRecDepth 20000 in
theorem Ms.hd_acs (m : Ms) (s : Int) (h0 : 0 ≤ s) (h1 : s ≤ 65535) : ac true (m.hd s) = ac true (m.hd 0) + s.toNat := by
  have h := two_by8 s h0 h1
  rw [m.hd_ac0, m.hd_ac s]
  generalize ac true m.rt = R
  generalize (by8 m.ty).toNat = a1
  generalize (by8 m.co).toNat = a2
  generalize (by8 (s / 256)).toNat = a3 at h ⊢
  generalize (by8 s).toNat = a4 at h ⊢
  omega
theorem mb_su (m : Ms) : su (mb m) = 0 := by
  have h2 := m.sum_le
  have h3 := fo_rest (ac true (m.hd 0))
  have h4 := fo_le (ac true (m.hd 0))
  have h5 := m.hd_acs (m.sum : Int) (by omega) (by omega)
  have h6 := fo_zero (ac true (m.hd 0))
  have e3 : m.sum = 65535 - fo (ac true (m.hd 0)) := rfl
  unfold mb
  rw [su_zero, h5]
  omega
/-- the message that bytes are -/
def pm (l : List UInt8) : Ms := ⟨((l.getD 0 0).toNat : Int), ((l.getD 1 0).toNat : Int), (nb [l.getD 4 0, l.getD 5 0, l.getD 6 0, l.getD 7 0] : Int), l.drop 8⟩
theorem pm_ok (l : List UInt8) : (pm l).ok := by
  have h0 := (l.getD 0 0).toNat_lt
  have h1 := (l.getD 1 0).toNat_lt
  refine ⟨?_, ?_, ?_⟩ <;> simp only [pm]
  · omega
  · omega
  · exact ⟨by omega, nb4_le _ _ _ _⟩
/-- what is wrong with bytes -/
def merr (l : List UInt8) : Option (List (List UInt8) × Nat) := if l.length < 8 then some ([lay7, lay1], 2) else if su l ≠ 0 then some ([lay7], 4) else none
theorem merr_mb (m : Ms) : merr (mb m) = none := by
  unfold merr
  rw [if_neg (by rw [mb_len]; omega), if_neg (by rw [mb_su]; decide)]
theorem pm_hd {m : Ms} (ok : m.ok) (s : Int) : pm (m.hd s) = m := by
  obtain ⟨ty, co, rest, b⟩ := m
  obtain ⟨h0, h1, h2⟩ := ok
  simp only at h0 h1 h2
  have e0 := by8_toNat ty
  have e1 := by8_toNat co
  have e2 := nb_txt4 rest (by omega) (by omega)
  show Ms.mk ((by8 ty).toNat : Int) ((by8 co).toNat : Int) (nb [by8 (rest / 256 / 256 / 256), by8 (rest / 256 / 256), by8 (rest / 256), by8 rest] : Int) b = _
  rw [e0, e1, e2, Int.emod_eq_of_lt (by omega) (by omega), Int.emod_eq_of_lt (by omega) (by omega)]
theorem pm_mb {m : Ms} (ok : m.ok) : pm (mb m) = m := pm_hd ok _
theorem mb_inj {m n : Ms} (hm : m.ok) (hn : n.ok) : mb m = mb n ↔ m = n := ⟨fun h => by rw [← pm_mb hm, h, pm_mb hn], fun h => by rw [h]⟩
theorem mb_spoilt (m : Ms) (k : Nat) (hk : k < (mb m).length) (y : UInt8) (hy : y ≠ 0) : merr ((mb m).set k ((mb m)[k] ^^^ y)) = some ([lay7], 4) := by
  unfold merr
  rw [if_neg (by rw [List.length_set, mb_len]; omega), if_pos (su_spoilt (mb m) k hk _ (mb_su m) (xor_ne _ _ hy))]
theorem mb_same (m : Ms) (k : Nat) (hk : k < (mb m).length) : (mb m).set k ((mb m)[k] ^^^ 0) = mb m := by
  rw [UInt8.xor_zero, List.set_getElem_self]
theorem merr_cut (l : List UInt8) (h : l.length < 8) : merr l = some ([lay7, lay1], 2) := if_pos h
/-- only noughts sum to nothing -/
theorem ac_none : ∀ (l : List UInt8) (h : Bool), ac h l = 0 ↔ ∀ x ∈ l, x = 0
  | [], _ => by simp [ac]
  | c :: r, h => by
    have ih := ac_none r (!h)
    have hc : c.toNat = 0 ↔ c = 0 := ⟨fun e => UInt8.toNat_inj.1 e, fun e => by rw [e]; rfl⟩
    simp only [ac, List.mem_cons, forall_eq_or_imp, ← ih, ← hc]
    cases h <;> simp <;> omega
set_option maxRecDepth 20000 in
/-- an answer's sum is the question's, updated -/
theorem replies_law {m : Ms} (ok : m.ok) (h : m.co ≠ 0 ∨ m.rest ≠ 0 ∨ ¬ ∀ x ∈ m.b, x = 0) :
    up (Ms.mk 8 m.co m.rest m.b).sum (2048 + m.co.toNat) m.co.toNat = (Ms.mk 0 m.co m.rest m.b).sum := by
  obtain ⟨ty, co, rest, b⟩ := m
  obtain ⟨_, h1, h2⟩ := ok
  simp only at h h1 h2
  have e1 := by8_toNat co
  obtain ⟨k, hk⟩ : ∃ k, k = ac true (Ms.mk ty co rest b).rt := ⟨_, rfl⟩
  have a8 : ac true ((Ms.mk 8 co rest b).hd 0) = k + (2048 + co.toNat) := by
    have e : (by8 8).toNat = 8 := by decide
    have h := (Ms.mk 8 co rest b).hd_ac0
    rw [h, hk]
    show (by8 8).toNat * 256 + ((by8 co).toNat + ac true (Ms.mk ty co rest b).rt) = _
    omega
  have a0 : ac true ((Ms.mk 0 co rest b).hd 0) = k + co.toNat := by
    have e : (by8 0).toNat = 0 := by decide
    have h := (Ms.mk 0 co rest b).hd_ac0
    rw [h, hk]
    show (by8 0).toNat * 256 + ((by8 co).toNat + ac true (Ms.mk ty co rest b).rt) = _
    omega
  unfold Ms.sum su
  rw [a8, a0]
  refine up_now k (2048 + co.toNat) co.toNat (by omega) ?_
  by_cases hc : co = 0
  · by_cases hr : rest = 0
    · have hb : ¬ ∀ x ∈ b, x = 0 := by
        rcases h with h | h | h
        · exact absurd hc h
        · exact absurd hr h
        · exact h
      have : k ≠ 0 := by
        intro h0
        rw [h0] at hk
        exact hb fun x hx => (ac_none _ true).1 hk.symm x (by simp [Ms.rt, hx])
      omega
    · have : k ≠ 0 := by
        intro h0
        rw [h0] at hk
        have hz := (ac_none _ true).1 hk.symm
        have e := nb_txt4 rest (by omega) (by omega)
        rw [hz (by8 (rest / 256 / 256 / 256)) (by simp [Ms.rt]), hz (by8 (rest / 256 / 256)) (by simp [Ms.rt]), hz (by8 (rest / 256)) (by simp [Ms.rt]), hz (by8 rest) (by simp [Ms.rt])] at e
        have : (nb [0, 0, 0, 0] : Nat) = 0 := by decide
        rw [this] at e
        exact hr e.symm
      omega
  · omega
/-- nobody is told what is wrong with a packet -/
def quiet (p : Pk) : Bool := decide (p.off ≠ 0) || (decide (p.pr = 1) && (decide (p.b.length = 0) || !(decide (p.b.getD 0 0 = 8) || decide (p.b.getD 0 0 = 0))))
/-- what Error says -/
def eerr (l : List UInt8) : Option (List (List UInt8) × Nat) := match perr l with
  | some (r, k) => some (lay7 :: r, k)
  | none => if quiet (ppk l) = true then some ([lay7], 8) else none
def ems (l : List UInt8) (ty co rest : Int) : Ms := ⟨ty, co, rest, l.take (20 + min (ppk l).b.length 8)⟩
end Go.Proofs.YtbmjkcocnmfpaaaDoor
