/-
  The packets of IPv4: their bytes, and what bytes say. No program in sight. By an AI agent.
-/
import Derived.Test.YtfcfpkhcpijkfaaDoorLem01
import Derived.Test.YtfcfpkhcpijkfaaDoorRead2
import Derived.Test.YtfcfpkhcpijkfaaDoorSumMath
namespace Go.Proofs.YtfcfpkhcpijkfaaDoor
open Go.RowKit

theorem nb_txt (k : Nat) : ∀ n : Int, 0 ≤ n → n < 256 ^ k → (nb (txt n k) : Int) = n := by
  induction k with
  | zero => intro n h0 h1; simp at h1; have : n = 0 := by omega
            subst this; rfl
  | succ k ih =>
    intro n h0 h1
    have h2 : n / 256 < 256 ^ k := by rw [Int.pow_succ] at h1; omega
    have h3 := ih (n / 256) (by omega) h2
    have h4 := by8_toNat n
    show (nb (txt (n / 256) k ++ [by8 n]) : Int) = n
    rw [nb_snoc, Int.natCast_add, Int.natCast_mul, h3, h4]
    clear h1 h2 h3 h4 ih
    omega
theorem nb_txt2 (n : Int) (h0 : 0 ≤ n) (h1 : n < 65536) : (nb [by8 (n / 256), by8 n] : Int) = n := nb_txt 2 n h0 (by simpa using h1)
theorem nb_txt4 (n : Int) (h0 : 0 ≤ n) (h1 : n < 4294967296) : (nb [by8 (n / 256 / 256 / 256), by8 (n / 256 / 256), by8 (n / 256), by8 n] : Int) = n := nb_txt 4 n h0 (by simpa using h1)
theorem nb2_le (a b : UInt8) : (nb [a, b] : Int) ≤ 65535 := by
  have := nb_lt [a, b]
  simp at this
  omega
theorem nb4_le (a b c d : UInt8) : (nb [a, b, c, d] : Int) ≤ 4294967295 := by
  have := nb_lt [a, b, c, d]
  simp at this
  omega
theorem twenty {l : List UInt8} (h : 20 ≤ l.length) : ∃ x0 x1 x2 x3 x4 x5 x6 x7 x8 x9 x10 x11 x12 x13 x14 x15 x16 x17 x18 x19 r, l = x0 :: x1 :: x2 :: x3 :: x4 :: x5 :: x6 :: x7 :: x8 :: x9 :: x10 :: x11 :: x12 :: x13 :: x14 :: x15 :: x16 :: x17 :: x18 :: x19 :: r := by
  obtain ⟨x0, l, rfl⟩ := List.exists_cons_of_length_pos (l := l) (by omega)
  obtain ⟨x1, l, rfl⟩ := List.exists_cons_of_length_pos (l := l) (by simp at h; omega)
  obtain ⟨x2, l, rfl⟩ := List.exists_cons_of_length_pos (l := l) (by simp at h; omega)
  obtain ⟨x3, l, rfl⟩ := List.exists_cons_of_length_pos (l := l) (by simp at h; omega)
  obtain ⟨x4, l, rfl⟩ := List.exists_cons_of_length_pos (l := l) (by simp at h; omega)
  obtain ⟨x5, l, rfl⟩ := List.exists_cons_of_length_pos (l := l) (by simp at h; omega)
  obtain ⟨x6, l, rfl⟩ := List.exists_cons_of_length_pos (l := l) (by simp at h; omega)
  obtain ⟨x7, l, rfl⟩ := List.exists_cons_of_length_pos (l := l) (by simp at h; omega)
  obtain ⟨x8, l, rfl⟩ := List.exists_cons_of_length_pos (l := l) (by simp at h; omega)
  obtain ⟨x9, l, rfl⟩ := List.exists_cons_of_length_pos (l := l) (by simp at h; omega)
  obtain ⟨x10, l, rfl⟩ := List.exists_cons_of_length_pos (l := l) (by simp at h; omega)
  obtain ⟨x11, l, rfl⟩ := List.exists_cons_of_length_pos (l := l) (by simp at h; omega)
  obtain ⟨x12, l, rfl⟩ := List.exists_cons_of_length_pos (l := l) (by simp at h; omega)
  obtain ⟨x13, l, rfl⟩ := List.exists_cons_of_length_pos (l := l) (by simp at h; omega)
  obtain ⟨x14, l, rfl⟩ := List.exists_cons_of_length_pos (l := l) (by simp at h; omega)
  obtain ⟨x15, l, rfl⟩ := List.exists_cons_of_length_pos (l := l) (by simp at h; omega)
  obtain ⟨x16, l, rfl⟩ := List.exists_cons_of_length_pos (l := l) (by simp at h; omega)
  obtain ⟨x17, l, rfl⟩ := List.exists_cons_of_length_pos (l := l) (by simp at h; omega)
  obtain ⟨x18, l, rfl⟩ := List.exists_cons_of_length_pos (l := l) (by simp at h; omega)
  obtain ⟨x19, l, rfl⟩ := List.exists_cons_of_length_pos (l := l) (by simp at h; omega)
  exact ⟨x0, x1, x2, x3, x4, x5, x6, x7, x8, x9, x10, x11, x12, x13, x14, x15, x16, x17, x18, x19, l, rfl⟩

def lay5 : List UInt8 := [105, 112, 118, 52]
/-- a packet's parts -/
structure Pk where
  tos : Int
  id : Int
  df : Bool
  mf : Bool
  off : Int
  ttl : Int
  pr : Int
  src : Int
  dst : Int
  b : List UInt8
/-- the ranges of a packet's numbers -/
def Pk.ok (p : Pk) : Prop := (0 ≤ p.tos ∧ p.tos ≤ 255) ∧ (0 ≤ p.id ∧ p.id ≤ 65535) ∧ (-9223372036854775808 ≤ p.off ∧ p.off ≤ 9223372036854775807) ∧ (0 ≤ p.ttl ∧ p.ttl ≤ 255) ∧ (0 ≤ p.pr ∧ p.pr ≤ 255) ∧ (0 ≤ p.src ∧ p.src ≤ 4294967295) ∧ (0 ≤ p.dst ∧ p.dst ≤ 4294967295)
/-- what is wrong with a packet; 0: nothing -/
def Pk.right (p : Pk) : Nat :=
  if p.off < 0 ∨ p.off % 8 ≠ 0 ∨ (p.mf = true ∧ (p.b.length = 0 ∨ p.b.length % 8 ≠ 0)) then 1 else if 65535 < p.off ∨ 65535 < 20 + p.off + (p.b.length : Int) then 7 else 0
def Pk.bits (p : Pk) : Int := p.off / 8 + (if p.df = true then 16384 else 0) + (if p.mf = true then 8192 else 0)
/-- the numbers of a head -/
structure Hd where
  vi : Int
  tos : Int
  size : Int
  id : Int
  bits : Int
  ttl : Int
  pr : Int
  sum : Int
  src : Int
  dst : Int
def Hd.bytes (h : Hd) : List UInt8 :=
  [by8 h.vi, by8 h.tos, by8 (h.size / 256), by8 h.size, by8 (h.id / 256), by8 h.id, by8 (h.bits / 256), by8 h.bits, by8 h.ttl, by8 h.pr, by8 (h.sum / 256), by8 h.sum,
   by8 (h.src / 256 / 256 / 256), by8 (h.src / 256 / 256), by8 (h.src / 256), by8 h.src, by8 (h.dst / 256 / 256 / 256), by8 (h.dst / 256 / 256), by8 (h.dst / 256), by8 h.dst]
def Hd.ok (h : Hd) : Prop := (0 ≤ h.vi ∧ h.vi ≤ 255) ∧ (0 ≤ h.tos ∧ h.tos ≤ 255) ∧ (0 ≤ h.size ∧ h.size ≤ 65535) ∧ (0 ≤ h.id ∧ h.id ≤ 65535) ∧ (0 ≤ h.bits ∧ h.bits ≤ 65535) ∧ (0 ≤ h.ttl ∧ h.ttl ≤ 255) ∧ (0 ≤ h.pr ∧ h.pr ≤ 255) ∧ (0 ≤ h.sum ∧ h.sum ≤ 65535) ∧ (0 ≤ h.src ∧ h.src ≤ 4294967295) ∧ (0 ≤ h.dst ∧ h.dst ≤ 4294967295)
/-- the numbers of the first twenty bytes -/
def Hd.of (l : List UInt8) : Hd :=
  ⟨((l.getD 0 0).toNat : Int), ((l.getD 1 0).toNat : Int), (nb [l.getD 2 0, l.getD 3 0] : Int), (nb [l.getD 4 0, l.getD 5 0] : Int), (nb [l.getD 6 0, l.getD 7 0] : Int), ((l.getD 8 0).toNat : Int), ((l.getD 9 0).toNat : Int), (nb [l.getD 10 0, l.getD 11 0] : Int),
   (nb [l.getD 12 0, l.getD 13 0, l.getD 14 0, l.getD 15 0] : Int), (nb [l.getD 16 0, l.getD 17 0, l.getD 18 0, l.getD 19 0] : Int)⟩
theorem Hd.of_ok (l : List UInt8) : (Hd.of l).ok := by
  have h0 := (l.getD 0 0).toNat_lt
  have h1 := (l.getD 1 0).toNat_lt
  have h8 := (l.getD 8 0).toNat_lt
  have h9 := (l.getD 9 0).toNat_lt
  refine ⟨?_, ?_, ?_, ?_, ?_, ?_, ?_, ?_, ?_, ?_⟩ <;> simp only [Hd.of]
  · omega
  · omega
  · exact ⟨by omega, nb2_le _ _⟩
  · exact ⟨by omega, nb2_le _ _⟩
  · exact ⟨by omega, nb2_le _ _⟩
  · omega
  · omega
  · exact ⟨by omega, nb2_le _ _⟩
  · exact ⟨by omega, nb4_le _ _ _ _⟩
  · exact ⟨by omega, nb4_le _ _ _ _⟩
theorem Hd.bytes_len (h : Hd) : h.bytes.length = 20 := rfl
theorem Hd.of_bytes {h : Hd} (ok : h.ok) (r : List UInt8) : Hd.of (h.bytes ++ r) = h := by
  obtain ⟨vi, tos, size, id, bits, ttl, pr, sum, src, dst⟩ := h
  obtain ⟨h0, h1, h2, h3, h4, h5, h6, h7, h8, h9⟩ := ok
  simp only at h0 h1 h2 h3 h4 h5 h6 h7 h8 h9
  have e0 := by8_toNat vi
  have e1 := by8_toNat tos
  have e2 := nb_txt2 size (by omega) (by omega)
  have e3 := nb_txt2 id (by omega) (by omega)
  have e4 := nb_txt2 bits (by omega) (by omega)
  have e5 := by8_toNat ttl
  have e6 := by8_toNat pr
  have e7 := nb_txt2 sum (by omega) (by omega)
  have e8 := nb_txt4 src (by omega) (by omega)
  have e9 := nb_txt4 dst (by omega) (by omega)
  show Hd.mk ((by8 vi).toNat : Int) ((by8 tos).toNat : Int) (nb [by8 (size / 256), by8 size] : Int) (nb [by8 (id / 256), by8 id] : Int) (nb [by8 (bits / 256), by8 bits] : Int) ((by8 ttl).toNat : Int) ((by8 pr).toNat : Int) (nb [by8 (sum / 256), by8 sum] : Int)
    (nb [by8 (src / 256 / 256 / 256), by8 (src / 256 / 256), by8 (src / 256), by8 src] : Int) (nb [by8 (dst / 256 / 256 / 256), by8 (dst / 256 / 256), by8 (dst / 256), by8 dst] : Int) = _
  rw [e0, e1, e2, e3, e4, e5, e6, e7, e8, e9, Int.emod_eq_of_lt (by omega) (by omega), Int.emod_eq_of_lt (by omega) (by omega), Int.emod_eq_of_lt (by omega) (by omega), Int.emod_eq_of_lt (by omega) (by omega)]
theorem Hd.bytes_of {l : List UInt8} (h : 20 ≤ l.length) : (Hd.of l).bytes = l.take 20 := by
  obtain ⟨x0, x1, x2, x3, x4, x5, x6, x7, x8, x9, x10, x11, x12, x13, x14, x15, x16, x17, x18, x19, r, rfl⟩ := twenty h
  have a : ∀ a b : UInt8, by8 ((nb [a, b] : Nat) / 256 : Int) = a ∧ by8 ((nb [a, b] : Nat) : Int) = b := fun a b => by
    have := txt2_nb a b
    simp only [txt, List.nil_append, List.cons_append, List.cons.injEq] at this
    exact ⟨this.1, this.2.1⟩
  have b : ∀ a b c d : UInt8, by8 ((nb [a, b, c, d] : Nat) / 256 / 256 / 256 : Int) = a ∧ by8 ((nb [a, b, c, d] : Nat) / 256 / 256 : Int) = b ∧ by8 ((nb [a, b, c, d] : Nat) / 256 : Int) = c ∧ by8 ((nb [a, b, c, d] : Nat) : Int) = d := fun a b c d => by
    have := txt4_nb a b c d
    simp only [txt, List.nil_append, List.cons_append, List.cons.injEq] at this
    exact ⟨this.1, this.2.1, this.2.2.1, this.2.2.2.1⟩
  show [by8 (x0.toNat : Int), by8 (x1.toNat : Int), by8 ((nb [x2, x3] : Nat) / 256 : Int), by8 ((nb [x2, x3] : Nat) : Int), by8 ((nb [x4, x5] : Nat) / 256 : Int), by8 ((nb [x4, x5] : Nat) : Int), by8 ((nb [x6, x7] : Nat) / 256 : Int), by8 ((nb [x6, x7] : Nat) : Int), by8 (x8.toNat : Int), by8 (x9.toNat : Int), by8 ((nb [x10, x11] : Nat) / 256 : Int), by8 ((nb [x10, x11] : Nat) : Int),
    by8 ((nb [x12, x13, x14, x15] : Nat) / 256 / 256 / 256 : Int), by8 ((nb [x12, x13, x14, x15] : Nat) / 256 / 256 : Int), by8 ((nb [x12, x13, x14, x15] : Nat) / 256 : Int), by8 ((nb [x12, x13, x14, x15] : Nat) : Int),
    by8 ((nb [x16, x17, x18, x19] : Nat) / 256 / 256 / 256 : Int), by8 ((nb [x16, x17, x18, x19] : Nat) / 256 / 256 : Int), by8 ((nb [x16, x17, x18, x19] : Nat) / 256 : Int), by8 ((nb [x16, x17, x18, x19] : Nat) : Int)] = [x0, x1, x2, x3, x4, x5, x6, x7, x8, x9, x10, x11, x12, x13, x14, x15, x16, x17, x18, x19]
  rw [by8_nat, by8_nat, by8_nat, by8_nat, (a x2 x3).1, (a x2 x3).2, (a x4 x5).1, (a x4 x5).2, (a x6 x7).1, (a x6 x7).2, (a x10 x11).1, (a x10 x11).2, (b x12 x13 x14 x15).1, (b x12 x13 x14 x15).2.1, (b x12 x13 x14 x15).2.2.1, (b x12 x13 x14 x15).2.2.2, (b x16 x17 x18 x19).1, (b x16 x17 x18 x19).2.1, (b x16 x17 x18 x19).2.2.1, (b x16 x17 x18 x19).2.2.2]

/-- what is wrong with a head of this sum, of so many bytes; 0: nothing -/
def Hd.chk (h : Hd) (s all : Nat) : Nat :=
  if h.vi / 16 ≠ 4 then 12 else if h.vi % 16 < 5 then 3 else if 5 < h.vi % 16 then 11 else if h.size < 20 then 3 else if (all : Int) < h.size then 2 else if s ≠ 0 then 4 else if 32768 ≤ h.bits then 3 else 0
def Hd.pk (h : Hd) (b : List UInt8) : Pk := ⟨h.tos, h.id, decide (h.bits / 16384 % 2 = 1), decide (h.bits / 8192 % 2 = 1), h.bits % 8192 * 8, h.ttl, h.pr, h.src, h.dst, b⟩
/-- the packet of bytes -/
def ppk (l : List UInt8) : Pk := (Hd.of l).pk ((l.take (Hd.of l).size.toNat).drop 20)
/-- what is wrong with bytes -/
def perr (l : List UInt8) : Option (List (List UInt8) × Nat) :=
  if l.length < 20 then some ([lay5, lay1], 2)
  else if (Hd.of l).chk (su (l.take 20)) l.length ≠ 0 then some ([lay5], (Hd.of l).chk (su (l.take 20)) l.length)
  else if (ppk l).right ≠ 0 then some ([lay5], 3) else none
/-- a packet's head with a sum -/
def Pk.hd (p : Pk) (s : Int) : Hd := ⟨69, p.tos, 20 + (p.b.length : Int), p.id, p.bits, p.ttl, p.pr, s, p.src, p.dst⟩
def Pk.sum (p : Pk) : Nat := su (p.hd 0).bytes
/-- a packet's bytes -/
def pb (p : Pk) : List UInt8 := (p.hd (p.sum : Int)).bytes ++ p.b
theorem pb_len (p : Pk) : (pb p).length = 20 + p.b.length := by simp [pb, Hd.bytes_len]

/-! ### laws -/
theorem Pk.right_zero {p : Pk} (h : p.right = 0) : 0 ≤ p.off ∧ p.off % 8 = 0 ∧ (p.mf = true → p.b.length ≠ 0 ∧ p.b.length % 8 = 0) ∧ p.off ≤ 65535 ∧ 20 + p.off + (p.b.length : Int) ≤ 65535 := by
  unfold Pk.right at h
  split at h
  · omega
  · split at h
    · omega
    · rename_i h1 h2
      rw [not_or, not_or] at h1
      rw [not_or] at h2
      refine ⟨by omega, by omega, fun hm => ?_, by omega, by omega⟩
      have := h1.2.2
      rw [not_and, not_or] at this
      have := this hm
      omega
theorem Pk.right_of {p : Pk} (h1 : 0 ≤ p.off) (h2 : p.off % 8 = 0) (h3 : p.mf = true → p.b.length ≠ 0 ∧ p.b.length % 8 = 0) (h5 : 20 + p.off + (p.b.length : Int) ≤ 65535) : p.right = 0 := by
  unfold Pk.right
  rw [if_neg, if_neg]
  · omega
  · intro h
    rcases h with h | h | ⟨h, k⟩
    · omega
    · omega
    · have := h3 h; omega
theorem Pk.bits_bd {p : Pk} (h : p.right = 0) : 0 ≤ p.bits ∧ p.bits ≤ 32767 := by
  obtain ⟨h1, h2, _, h4, _⟩ := Pk.right_zero h
  unfold Pk.bits
  split <;> split <;> omega
theorem Pk.hd_ok {p : Pk} (ok : p.ok) (h : p.right = 0) (s : Int) (hs : 0 ≤ s ∧ s ≤ 65535) : (p.hd s).ok := by
  obtain ⟨k0, k1, k2, k3, k4, k5, k6⟩ := ok
  have hb := Pk.bits_bd h
  obtain ⟨h1, h2, _, h4, h5⟩ := Pk.right_zero h
  refine ⟨?_, k0, ?_, k1, ?_, k3, k4, hs, k5, k6⟩
  · show (0 : Int) ≤ 69 ∧ (69 : Int) ≤ 255; omega
  · show (0 : Int) ≤ 20 + (p.b.length : Int) ∧ 20 + (p.b.length : Int) ≤ 65535; omega
  · show 0 ≤ p.bits ∧ p.bits ≤ 65535; omega
/-- a head's number in a sum -/
def Hd.tot (h : Hd) : Nat := ac true h.bytes
theorem hsum_add (h : Hd) (hs : 0 ≤ h.sum ∧ h.sum ≤ 65535) : ac true h.bytes = ac true { h with sum := 0 }.bytes + h.sum.toNat := by
  obtain ⟨vi, tos, size, id, bits, ttl, pr, sum, src, dst⟩ := h
  simp only at hs
  have e1 := by8_toNat (sum / 256)
  have e2 := by8_toNat sum
  have z1 : (by8 (0 / 256)).toNat = 0 := by decide
  have z2 : (by8 0).toNat = 0 := by decide
  have key : ∀ (A C : List UInt8) (x y : UInt8), A.length % 2 = 0 → ac true (A ++ ([x, y] ++ C)) = ac true A + (x.toNat * 256 + y.toNat) + ac true C := by
    intro A C x y hA
    rw [ac_append, hi_even _ _ hA, ac_append]
    simp only [ac, hi_cons, hi_nil, Bool.not_true, Bool.not_false, if_true, Bool.false_eq_true, if_false]
    omega
  have k1 := key [by8 vi, by8 tos, by8 (size / 256), by8 size, by8 (id / 256), by8 id, by8 (bits / 256), by8 bits, by8 ttl, by8 pr] [by8 (src / 256 / 256 / 256), by8 (src / 256 / 256), by8 (src / 256), by8 src, by8 (dst / 256 / 256 / 256), by8 (dst / 256 / 256), by8 (dst / 256), by8 dst] (by8 (sum / 256)) (by8 sum) (by simp)
  have k2 := key [by8 vi, by8 tos, by8 (size / 256), by8 size, by8 (id / 256), by8 id, by8 (bits / 256), by8 bits, by8 ttl, by8 pr] [by8 (src / 256 / 256 / 256), by8 (src / 256 / 256), by8 (src / 256), by8 src, by8 (dst / 256 / 256 / 256), by8 (dst / 256 / 256), by8 (dst / 256), by8 dst] (by8 (0 / 256)) (by8 0) (by simp)
  refine k1.trans (Eq.trans ?_ (congrArg (· + sum.toNat) k2.symm))
  rw [z1, z2]
  generalize ac true [by8 vi, by8 tos, by8 (size / 256), by8 size, by8 (id / 256), by8 id, by8 (bits / 256), by8 bits, by8 ttl, by8 pr] = X
  generalize ac true [by8 (src / 256 / 256 / 256), by8 (src / 256 / 256), by8 (src / 256), by8 src, by8 (dst / 256 / 256 / 256), by8 (dst / 256 / 256), by8 (dst / 256), by8 dst] = Y
  show X + ((by8 (sum / 256)).toNat * 256 + (by8 sum).toNat) + Y = X + (0 * 256 + 0) + Y + sum.toNat
  omega
theorem su_zero (l : List UInt8) : su l = 0 ↔ 0 < ac true l ∧ ac true l % 65535 = 0 := by
  unfold su
  have := fo_full (ac true l)
  have := fo_le (ac true l)
  constructor
  · intro h; exact (fo_full _).1 (by omega)
  · intro h; rw [(fo_full _).2 h]
theorem Pk.hd_pos (p : Pk) (s : Int) : 0 < ac true (p.hd s).bytes := by
  show 0 < (by8 69).toNat * 256 + _
  have : (by8 69).toNat = 69 := by decide
  rw [this]; omega
theorem Pk.sum_le (p : Pk) : p.sum ≤ 65534 := by
  have h1 := Pk.hd_pos p 0
  have h2 := fo_zero (ac true (p.hd 0).bytes)
  unfold Pk.sum su
  omega
theorem Pk.sum_ok (p : Pk) : su (p.hd (p.sum : Int)).bytes = 0 := by
  have h1 := Pk.hd_pos p 0
  have h2 := Pk.sum_le p
  have h3 := fo_rest (ac true (p.hd 0).bytes)
  have h4 := fo_le (ac true (p.hd 0).bytes)
  have h5 := hsum_add (p.hd (p.sum : Int)) ⟨by show (0 : Int) ≤ (p.sum : Int); omega, by show (p.sum : Int) ≤ 65535; omega⟩
  have e : ({ p.hd (p.sum : Int) with sum := 0 } : Hd) = p.hd 0 := rfl
  rw [e] at h5
  have e2 : (p.hd (p.sum : Int)).sum.toNat = p.sum := by show ((p.sum : Int)).toNat = _; omega
  rw [e2] at h5
  have e3 : p.sum = 65535 - fo (ac true (p.hd 0).bytes) := rfl
  rw [su_zero, h5]
  omega
theorem take20 (h : Hd) (r : List UInt8) : (h.bytes ++ r).take 20 = h.bytes := by
  rw [List.take_append_of_le_length (by rw [Hd.bytes_len]; omega), List.take_of_length_le (by rw [Hd.bytes_len]; omega)]
theorem Pk.pk_hd {p : Pk} (h : p.right = 0) (s : Int) : (p.hd s).pk p.b = p := by
  obtain ⟨tos, id, df, mf, off, ttl, pr, src, dst, b⟩ := p
  obtain ⟨h1, h2, _, h4, _⟩ := Pk.right_zero h
  simp only at h1 h2 h4
  have e1 : decide ((off / 8 + (if df = true then 16384 else 0) + (if mf = true then 8192 else 0)) / 16384 % 2 = 1) = df := by
    cases df <;> cases mf <;> simp <;> omega
  have e2 : decide ((off / 8 + (if df = true then 16384 else 0) + (if mf = true then 8192 else 0)) / 8192 % 2 = 1) = mf := by
    cases df <;> cases mf <;> simp <;> omega
  have e3 : (off / 8 + (if df = true then 16384 else 0) + (if mf = true then 8192 else 0)) % 8192 * 8 = off := by
    cases df <;> cases mf <;> simp <;> omega
  show Pk.mk tos id (decide ((off / 8 + (if df = true then 16384 else 0) + (if mf = true then 8192 else 0)) / 16384 % 2 = 1)) (decide ((off / 8 + (if df = true then 16384 else 0) + (if mf = true then 8192 else 0)) / 8192 % 2 = 1)) ((off / 8 + (if df = true then 16384 else 0) + (if mf = true then 8192 else 0)) % 8192 * 8) ttl pr src dst b = _
  rw [e1, e2, e3]
/-- what is written is read, whatever stands behind -/
theorem pb_back {p : Pk} (ok : p.ok) (h : p.right = 0) (m : List UInt8) : perr (pb p ++ m) = none ∧ ppk (pb p ++ m) = p := by
  have hs := Pk.sum_le p
  have hb := Pk.bits_bd h
  obtain ⟨h1, h2, _, h4, h5⟩ := Pk.right_zero h
  have e0 : Hd.of (pb p ++ m) = p.hd (p.sum : Int) := by
    unfold pb
    rw [List.append_assoc]
    exact Hd.of_bytes (Pk.hd_ok ok h _ ⟨by omega, by omega⟩) _
  have e1 : ((pb p ++ m).take (p.hd (p.sum : Int)).size.toNat).drop 20 = p.b := by
    have : (p.hd (p.sum : Int)).size.toNat = 20 + p.b.length := by show (20 + (p.b.length : Int)).toNat = _; omega
    rw [this, List.take_append_of_le_length (by rw [pb_len]; omega), List.take_of_length_le (by rw [pb_len]; omega)]
    exact List.drop_left' (Hd.bytes_len _)
  have e2 : ppk (pb p ++ m) = p := by
    unfold ppk
    rw [e0, e1]
    exact Pk.pk_hd h _
  refine ⟨?_, e2⟩
  have e3 : (pb p ++ m).take 20 = (p.hd (p.sum : Int)).bytes := by
    unfold pb
    rw [List.append_assoc]
    exact take20 _ _
  unfold perr
  rw [if_neg (by rw [List.length_append, pb_len]; omega), e2, h, e0, e3, Pk.sum_ok]
  have e4 : (p.hd (p.sum : Int)).chk 0 (pb p ++ m).length = 0 := by
    have hl : (pb p ++ m).length = 20 + p.b.length + m.length := by rw [List.length_append, pb_len]
    rw [hl]
    unfold Hd.chk
    show (if (69 : Int) / 16 ≠ 4 then 12 else if (69 : Int) % 16 < 5 then 3 else if (5 : Int) < 69 % 16 then 11 else if 20 + (p.b.length : Int) < 20 then 3 else if ((20 + p.b.length + m.length : Nat) : Int) < 20 + (p.b.length : Int) then 2 else if (0 : Nat) ≠ 0 then 4 else if 32768 ≤ p.bits then 3 else 0) = 0
    rw [if_neg (by decide), if_neg (by decide), if_neg (by decide), if_neg (by omega), if_neg (by omega), if_neg (by decide), if_neg (by omega)]
  rw [e4]
  rfl
theorem pb_inj {p q : Pk} (okp : p.ok) (okq : q.ok) (hp : p.right = 0) (hq : q.right = 0) (h : pb p = pb q) : p = q := by
  have h1 := (pb_back okp hp []).2
  have h2 := (pb_back okq hq []).2
  rw [h, h2] at h1
  exact h1.symm
theorem Hd.chk_zero {h : Hd} {s all : Nat} (e : h.chk s all = 0) : h.vi / 16 = 4 ∧ h.vi % 16 = 5 ∧ 20 ≤ h.size ∧ h.size ≤ (all : Int) ∧ s = 0 ∧ h.bits < 32768 := by
  unfold Hd.chk at e
  repeat' split at e
  all_goals omega
/-- what is read -/
theorem ppk_good {l : List UInt8} (h : perr l = none) : 20 ≤ l.length ∧ (ppk l).ok ∧ (ppk l).right = 0 ∧ su (l.take 20) = 0 ∧ (ppk l).hd (Hd.of l).sum = Hd.of l ∧ 20 + (ppk l).b.length ≤ l.length ∧ l.take (20 + (ppk l).b.length) = l.take 20 ++ (ppk l).b := by
  unfold perr at h
  split at h
  · cases h
  split at h
  · cases h
  split at h
  · cases h
  rename_i h1 h2 h3
  have h2 : (Hd.of l).chk (su (l.take 20)) l.length = 0 := by omega
  have h3 : (ppk l).right = 0 := by omega
  obtain ⟨k1, k2, k3, k4, k5, k6⟩ := Hd.chk_zero h2
  have hok := Hd.of_ok l
  obtain ⟨o0, o1, o2, o3, o4, o5, o6, o7, o8, o9⟩ := hok
  have hb : (ppk l).b = (l.take (Hd.of l).size.toNat).drop 20 := rfl
  have hbl : ((ppk l).b.length : Int) = (Hd.of l).size - 20 := by
    rw [hb, List.length_drop, List.length_take]; omega
  refine ⟨by omega, ?_, h3, k5, ?_, by omega, ?_⟩
  · refine ⟨o1, o3, ?_, o5, o6, o8, o9⟩
    show -9223372036854775808 ≤ (Hd.of l).bits % 8192 * 8 ∧ (Hd.of l).bits % 8192 * 8 ≤ 9223372036854775807
    omega
  · have hsz : 20 + ((ppk l).b.length : Int) = (Hd.of l).size := by omega
    have hbits : (ppk l).bits = (Hd.of l).bits := by
      show (Hd.of l).bits % 8192 * 8 / 8 + (if decide ((Hd.of l).bits / 16384 % 2 = 1) = true then 16384 else 0) + (if decide ((Hd.of l).bits / 8192 % 2 = 1) = true then 8192 else 0) = (Hd.of l).bits
      simp only [decide_eq_true_eq]
      split <;> split <;> omega
    have hvi : (Hd.of l).vi = 69 := by omega
    have e : ∀ H : Hd, H.vi = 69 → ∀ p : Pk, p.tos = H.tos → p.id = H.id → p.ttl = H.ttl → p.pr = H.pr → p.src = H.src → p.dst = H.dst → 20 + (p.b.length : Int) = H.size → p.bits = H.bits → p.hd H.sum = H := by
      intro H a0 p a1 a2 a3 a4 a5 a6 a7 a8
      obtain ⟨vi, tos, size, id, bits, ttl, pr, sum, src, dst⟩ := H
      simp only at a0 a1 a2 a3 a4 a5 a6 a7 a8
      unfold Pk.hd
      rw [a0, a1, a2, a3, a4, a5, a6, a7, a8]
    exact e _ hvi _ rfl rfl rfl rfl rfl rfl hsz hbits
  · have : 20 + (ppk l).b.length = (Hd.of l).size.toNat := by omega
    rw [this, hb]
    conv => lhs; rw [← List.take_append_drop 20 (l.take (Hd.of l).size.toNat)]
    rw [List.take_take, show min 20 (Hd.of l).size.toNat = 20 by omega]
end Go.Proofs.YtfcfpkhcpijkfaaDoor
