/-
  What is put, as items: the bytes of each, and the number of bytes again. By an AI agent.
-/
import Derived.Test.YtkgieciamophkaaDoorRead2
import Derived.Test.YtkgieciamophkaaDoorPuts
namespace Go.Proofs.YtkgieciamophkaaDoor
open Go.RowKit

theorem nb_txt (k : Nat) : ∀ n : Int, 0 ≤ n → n < 256 ^ k → (nb (txt n k) : Int) = n := by
  induction k with
  | zero => intro n h0 h1; simp at h1; have : n = 0 := by omega
            subst this; rfl
  | succ k ih =>
    intro n h0 h1
    have h2 : n / 256 < 256 ^ k := by rw [Int.pow_succ] at h1; omega
    have h3 := ih (n / 256) (by omega) h2
    have h4 := by8_toNat n
    show (nb (txt (n / 256) k ++ [by8 n]) : Int) = n
    rw [nb_snoc, Int.natCast_add, Int.natCast_mul, h3, h4]
    clear h1 h2 h3 h4 ih
    omega

/-- one put that is read again -/
structure Item where
  kind : Int
  num : Int
  at' : Option Addr
  cap : Nat
  bytes : List UInt8
def Item.enc (i : Item) : List UInt8 := if i.kind = 1 then txt i.num 1 else if i.kind = 2 then txt i.num 2 else if i.kind = 3 then txt i.num 4 else i.bytes
def Item.cells (i : Item) : List Value := [.int .i64 i.kind, .int .u32 i.num, .slice i.at' i.bytes.length i.cap]
structure Item.ok (w : World) (i : Item) : Prop where
  some : (i.kind = 1 ∧ i.num < 256) ∨ (i.kind = 2 ∧ i.num < 65536) ∨ i.kind = 3 ∨ (i.kind = 4 ∧ 0 < i.bytes.length ∧ i.bytes.length ≤ 100)
  low : 0 ≤ i.num
  high : i.num < 4294967296
  bytes : RB w (fun _ => True) (.slice i.at' i.bytes.length i.cap) i.bytes
theorem Item.enc_pos {w : World} {i : Item} (h : i.ok w) : 0 < i.enc.length ∧ i.enc.length ≤ 100 := by
  unfold Item.enc
  rcases h.some with ⟨e, _⟩ | ⟨e, _⟩ | e | ⟨e, h1, h2⟩
  · simp [e, txt_len]
  · simp [e, txt_len]
  · simp [e, txt_len]
  · rw [if_neg (by omega), if_neg (by omega), if_neg (by omega)]; exact ⟨h1, h2⟩
/-- the bytes of all -/
def encs (l : List Item) : List UInt8 := l.flatMap Item.enc
theorem encs_nil : encs [] = [] := rfl
theorem encs_snoc (l : List Item) (i : Item) : encs (l ++ [i]) = encs l ++ i.enc := by simp [encs]
theorem encs_len {w : World} : ∀ {l : List Item}, (∀ i ∈ l, i.ok w) → l.length ≤ (encs l).length ∧ (encs l).length ≤ 100 * l.length
  | [], _ => by simp [encs]
  | i :: r, h => by
    have h1 := Item.enc_pos (h i (by simp))
    have h2 := encs_len (l := r) (fun j hj => h j (by simp [hj]))
    have e : encs (i :: r) = i.enc ++ encs r := by simp [encs]
    rw [e, List.length_append, List.length_cons]
    omega
/-- what is left ahead of item j -/
def rest (cut : Bool) (l : List Item) (j : Nat) : List UInt8 := if cut then (encs (l.drop j)).dropLast else encs (l.drop j)
theorem rest_end (l : List Item) : rest false l l.length = [] := by simp [rest, encs]
theorem encs_drop (l : List Item) (j : Nat) (h : j < l.length) : encs (l.drop j) = l[j].enc ++ encs (l.drop (j + 1)) := by
  show List.flatMap Item.enc (l.drop j) = l[j].enc ++ List.flatMap Item.enc (l.drop (j + 1))
  rw [List.drop_eq_getElem_cons h, List.flatMap_cons]
theorem rest_next {w : World} (cut : Bool) (l : List Item) (hl : ∀ i ∈ l, i.ok w) (j : Nat) (h : j < l.length) (hc : cut = true → j + 1 < l.length) :
    (rest cut l j).take l[j].enc.length = l[j].enc ∧ (rest cut l j).drop l[j].enc.length = rest cut l (j + 1) ∧ l[j].enc.length ≤ (rest cut l j).length := by
  have e : rest cut l j = l[j].enc ++ rest cut l (j + 1) := by
    unfold rest
    cases cut with
    | false => exact encs_drop l j h
    | true =>
      have hne : encs (l.drop (j + 1)) ≠ [] := by
        have := (encs_len (w := w) (l := l.drop (j + 1)) (fun i hi => hl i (List.mem_of_mem_drop hi))).1
        intro e
        rw [e, List.length_drop] at this
        have := hc rfl
        simp at *
        omega
      simp only [if_true]
      rw [encs_drop l j h, List.dropLast_append_of_ne_nil hne]
  rw [e]
  refine ⟨by simp, by simp, by simp⟩
theorem rest_last {w : World} (l : List Item) (hl : ∀ i ∈ l, i.ok w) (j : Nat) (h : j < l.length) (hj : j + 1 = l.length) : (rest true l j).length + 1 = l[j].enc.length := by
  have e : rest true l j = l[j].enc.dropLast := by
    unfold rest
    simp only [if_true]
    rw [encs_drop l j h, hj, List.drop_length]
    simp [encs]
  have := (Item.enc_pos (hl l[j] (List.getElem_mem h))).1
  rw [e, List.length_dropLast]
  omega
end Go.Proofs.YtkgieciamophkaaDoor
