/-
  The plain law of the Internet checksum: no program in sight. By an AI agent.
-/
namespace Go.Proofs.YtkgieciamophkaaDoor

/-- what is folded into sixteen bits -/
def fo (n : Nat) : Nat := if n = 0 then 0 else (n - 1) % 65535 + 1
theorem fo_small (n : Nat) (h : n < 65536) : fo n = n := by unfold fo; split <;> omega
theorem fo_step (n : Nat) (h : 65536 ≤ n) : fo (n % 65536 + n / 65536) = fo n := by
  unfold fo
  rw [if_neg (by omega), if_neg (by omega)]
  omega
theorem fo_le (n : Nat) : fo n ≤ 65535 := by unfold fo; split <;> omega
theorem fo_zero (n : Nat) : fo n = 0 ↔ n = 0 := by unfold fo; split <;> omega
/-- two numbers above 0 that leave the same are folded alike -/
theorem fo_mod (a b : Nat) (ha : 0 < a) (hb : 0 < b) (h : a % 65535 = b % 65535) : fo a = fo b := by
  unfold fo
  rw [if_neg (by omega), if_neg (by omega)]
  omega
theorem fo_full (n : Nat) : fo n = 65535 ↔ 0 < n ∧ n % 65535 = 0 := by unfold fo; split <;> omega
theorem fo_rest (n : Nat) : fo n % 65535 = n % 65535 := by unfold fo; split <;> omega
theorem fo_add (a b : Nat) : fo (fo a + fo b) = fo (a + b) := by
  have h1 := fo_rest a
  have h2 := fo_rest b
  have h3 := fo_zero a
  have h4 := fo_zero b
  by_cases h : a + b = 0
  · rw [h3.2 (by omega), h4.2 (by omega), h]
  · exact fo_mod _ _ (by omega) (by omega) (by omega)

/-- the number of bytes, by pairs; h: is the next one a high one? -/
def ac : Bool → List UInt8 → Nat
  | _, [] => 0
  | h, c :: r => (if h then c.toNat * 256 else c.toNat) + ac (!h) r
/-- is the next byte behind these a high one? -/
def hi (h : Bool) (l : List UInt8) : Bool := if l.length % 2 = 0 then h else !h
theorem hi_nil (h : Bool) : hi h [] = h := rfl
theorem hi_cons (h : Bool) (c : UInt8) (r : List UInt8) : hi h (c :: r) = hi (!h) r := by
  unfold hi
  simp only [List.length_cons]
  by_cases e : r.length % 2 = 0
  · rw [if_pos e, if_neg (by omega)]
  · rw [if_neg e, if_pos (by omega)]; simp
theorem ac_append (a b : List UInt8) : ∀ h, ac h (a ++ b) = ac h a + ac (hi h a) b := by
  induction a with
  | nil => intro h; simp [ac, hi_nil]
  | cons c r ih => intro h; simp only [List.cons_append, ac, ih, hi_cons]; omega
theorem hi_append (a b : List UInt8) : ∀ h, hi h (a ++ b) = hi (hi h a) b := by
  induction a with
  | nil => intro h; simp [hi_nil]
  | cons c r ih => intro h; simp only [List.cons_append, ih, hi_cons]
theorem hi_snoc (l : List UInt8) (c : UInt8) (h : Bool) : hi h (l ++ [c]) = !(hi h l) := by
  rw [hi_append, hi_cons, hi_nil]
theorem ac_snoc (l : List UInt8) (c : UInt8) (h : Bool) : ac h (l ++ [c]) = ac h l + (if hi h l then c.toNat * 256 else c.toNat) := by
  rw [ac_append]; simp [ac]
theorem ac_le (l : List UInt8) : ∀ h, ac h l ≤ 65280 * l.length := by
  induction l with
  | nil => intro h; simp [ac]
  | cons c r ih =>
    intro h
    have h1 := ih (!h)
    have h2 := c.toNat_lt
    simp only [ac, List.length_cons]
    split <;> omega
theorem hi_even (l : List UInt8) (h : Bool) (e : l.length % 2 = 0) : hi h l = h := if_pos e
/-- the sum, as the document has it -/
def su (l : List UInt8) : Nat := 65535 - fo (ac true l)
theorem su_le (l : List UInt8) : su l ≤ 65535 := by unfold su; omega

theorem take_next {α : Type} (l : List α) (i : Nat) (h : i < l.length) : l.take (i + 1) = l.take i ++ [l[i]] := by
  rw [List.take_succ_eq_append_getElem h]
theorem flat_next (ls : List (List UInt8)) (i : Nat) (h : i < ls.length) : (ls.take (i + 1)).flatten = (ls.take i).flatten ++ ls[i] := by
  rw [take_next ls i h, List.flatten_append]; simp
theorem flat_len (ls : List (List UInt8)) (i : Nat) : (ls.take i).flatten.length ≤ ls.flatten.length := by
  have h : ls.flatten = (ls.take i).flatten ++ (ls.drop i).flatten := by rw [← List.flatten_append, List.take_append_drop]
  rw [h, List.length_append]; omega
/-- one number becomes another one -/
def up (s a b : Nat) : Nat := 65535 - fo ((65535 - s) + (65535 - a) + b)
theorem up_le (s a b : Nat) : up s a b ≤ 65535 := by unfold up; omega
/-- what is updated has the sum of what it has become -/
theorem up_now (k o n : Nat) (ho : o ≤ 65535) (h : 0 < k + n) : up (65535 - fo (k + o)) o n = 65535 - fo (k + n) := by
  have h1 := fo_le (k + o)
  have h2 := fo_rest (k + o)
  have h3 := fo_zero (k + o)
  unfold up
  rw [show 65535 - (65535 - fo (k + o)) = fo (k + o) by omega]
  congr 1
  refine fo_mod _ _ ?_ h ?_
  · by_cases e : k + o = 0
    · omega
    · have : fo (k + o) ≠ 0 := fun e' => e (h3.1 e')
      omega
  · omega
/-- and back -/
theorem up_back (k o n : Nat) (ho : o ≤ 65535) (hn : n ≤ 65535) (h : 0 < k + o) : up (up (65535 - fo (k + o)) o n) n o = 65535 - fo (k + o) := by
  have h1 := fo_le (k + o)
  have h2 := fo_rest (k + o)
  have h3 := fo_zero (k + o)
  have h0 : fo (k + o) ≠ 0 := fun e' => by have := h3.1 e'; omega
  unfold up
  rw [show 65535 - (65535 - fo (k + o)) = fo (k + o) by omega]
  have g1 := fo_le (fo (k + o) + (65535 - o) + n)
  have g2 := fo_rest (fo (k + o) + (65535 - o) + n)
  rw [show 65535 - (65535 - fo (fo (k + o) + (65535 - o) + n)) = fo (fo (k + o) + (65535 - o) + n) by omega]
  have g3 : fo (fo (k + o) + (65535 - o) + n) ≠ 0 := fun e' => by have := (fo_zero _).1 e'; omega
  congr 1
  exact fo_mod _ _ (by omega) h (by omega)
/-- a pair of bytes at an even place -/
theorem ac_pair (l : List UInt8) (j : Nat) (hj : j % 2 = 0) (h : j + 1 < l.length) : ac true l = ac true (l.take j) + (l[j].toNat * 256 + l[j + 1].toNat) + ac true (l.drop (j + 2)) := by
  have e : l = l.take j ++ ([l[j], l[j + 1]] ++ l.drop (j + 2)) := by
    rw [← List.append_assoc]
    simp
  have e2 : hi true (l.take j) = true := hi_even _ _ (by rw [List.length_take]; omega)
  have e3 := congrArg (ac true) e
  rw [ac_append, e2, ac_append] at e3
  simp only [ac, hi_cons, hi_nil, Bool.not_true, Bool.not_false, if_true] at e3
  simpa [Nat.add_assoc] using e3
theorem ac_set (l : List UInt8) (j : Nat) (hj : j % 2 = 0) (h : j + 1 < l.length) (x y : UInt8) :
    ac true ((l.set j x).set (j + 1) y) = ac true (l.take j) + (x.toNat * 256 + y.toNat) + ac true (l.drop (j + 2)) := by
  have h' : j + 1 < ((l.set j x).set (j + 1) y).length := by simpa using h
  rw [ac_pair _ j hj h']
  have e1 : ((l.set j x).set (j + 1) y)[j] = x := by simp
  have e2 : ((l.set j x).set (j + 1) y)[j + 1] = y := by simp
  have e3 : ((l.set j x).set (j + 1) y).take j = l.take j := by
    rw [List.take_set_of_le (by omega), List.take_set_of_le (by omega)]
  have e4 : ((l.set j x).set (j + 1) y).drop (j + 2) = l.drop (j + 2) := by
    rw [List.drop_set_of_lt (by omega), List.drop_set_of_lt (by omega)]
  rw [e1, e2, e3, e4]
/-- each bit turned -/
def inv8 (b : UInt8) : UInt8 := 255 - b
theorem inv8_toNat (b : UInt8) : (inv8 b).toNat = 255 - b.toNat := by
  unfold inv8
  have h := b.toNat_lt
  rw [UInt8.toNat_sub_of_le _ _ (by rw [UInt8.le_iff_toNat_le]; simp; omega)]
  rfl
theorem ac_inv (n : Nat) : ∀ l : List UInt8, l.length = 2 * n → ac true (l.map inv8) + ac true l = 65535 * n := by
  induction n with
  | zero => intro l h; have : l = [] := List.eq_nil_of_length_eq_zero (by omega); subst this; rfl
  | succ n ih =>
    intro l h
    match l, h with
    | a :: b :: r, h =>
      have hr := ih r (by simp at h; omega)
      have h1 := inv8_toNat a
      have h2 := inv8_toNat b
      have h3 := a.toNat_lt
      have h4 := b.toNat_lt
      simp only [List.map_cons, ac, Bool.not_true, Bool.not_false, if_true] at hr ⊢
      simp only [Bool.false_eq_true, if_false]
      omega
theorem su_inv (l : List UInt8) (h : l.length % 2 = 0) (h0 : 0 < l.length) : su (l ++ l.map inv8) = 0 := by
  have h1 := ac_inv (l.length / 2) l (by omega)
  unfold su
  rw [ac_append, hi_even _ _ h]
  have h2 := fo_full (ac true l + ac true (l.map inv8))
  rw [h2.2 (by omega)]
theorem su_two (a b : List UInt8) (h : a.length % 2 = 0) : su (a ++ b) = 65535 - fo (fo (ac true a) + fo (ac true b)) := by
  unfold su
  rw [ac_append, hi_even _ _ h, fo_add]
theorem inv_step (l : List UInt8) (k : Nat) (h : k < l.length) : ((l.take k).map inv8 ++ l.drop k).set k (inv8 l[k]) = (l.take (k + 1)).map inv8 ++ l.drop (k + 1) := by
  rw [take_next l k h, List.map_append, List.append_assoc, List.set_append_right _ _ (by simp; omega)]
  congr 1
  simp [show k - min k l.length = 0 by omega]
  rw [List.drop_eq_getElem_cons h]
  rfl
/-- two numbers as four bytes -/
theorem su_four (x y : Nat) (a b c d : UInt8) (h1 : a.toNat * 256 + b.toNat = x) (h2 : c.toNat * 256 + d.toNat = y) : su [a, b, c, d] = 65535 - fo (x + y) := by
  have e0 : ac true [a, b, c, d] = a.toNat * 256 + (b.toNat + (c.toNat * 256 + (d.toNat + 0))) := rfl
  have e : ac true [a, b, c, d] = x + y := by omega
  unfold su
  rw [e]
end Go.Proofs.YtkgieciamophkaaDoor
