/-
  Frames and their bytes: the plain law. By an AI agent.
-/
import Derived.Test.YtkgieciamophkaaDoorOf03
import Derived.Test.YtkgieciamophkaaDoorBackLaw01
namespace Go.Proofs.YtkgieciamophkaaDoor
open Go.RowKit

def fhead (f : Fr) : List UInt8 := f.d ++ (f.s ++ ((if f.vl = -1 then [] else txt 33024 2 ++ txt f.vl 2) ++ txt (f.ty : Int) 2))
theorem fbytes_head (f : Fr) : fbytes f = fhead f ++ f.b := by simp [fbytes, fhead]
theorem txt2 (n : Int) : txt n 2 = [by8 (n / 256), by8 n] := rfl
theorem nb_txt2 (n : Int) (h0 : 0 ≤ n) (h1 : n < 65536) : (nb [by8 (n / 256), by8 n] : Int) = n := nb_txt 2 n h0 (by simpa using h1)
theorem nb_txt2n (n : Nat) (h1 : n < 65536) : nb [by8 ((n : Int) / 256), by8 (n : Int)] = n := by
  have := nb_txt2 (n : Int) (by omega) (by omega)
  omega
theorem tagb : by8 (33024 / 256) = 129 ∧ by8 33024 = 0 := by decide
theorem tagn : nb [129, 0] = 33024 := by decide
theorem fhead_len {f : Fr} (ok : f.ok) : (fhead f).length = if f.vl = -1 then 14 else 18 := by
  unfold fhead
  have h1 := ok.d
  have h2 := ok.s
  by_cases h : f.vl = -1
  · simp [h, h1, h2, txt_len]
  · simp [h, h1, h2, txt_len]
theorem pframe_head {f : Fr} (ok : f.ok) (hb : ¬ badfr f) (r : List UInt8) : pframe (fhead f ++ r) = some { f with b := r } := by
  obtain ⟨fd, fs, vl, ty, b⟩ := f
  obtain ⟨h1, h2, h3, h4, h5⟩ := ok
  simp only at h1 h2 h3 h4 h5
  obtain ⟨d0, d1, d2, d3, d4, d5, rfl⟩ := six_is h1
  obtain ⟨s0, s1, s2, s3, s4, s5, rfl⟩ := six_is h2
  have hty := nb_txt2n ty h5
  by_cases h : vl = -1
  · subst h
    have hne : ty ≠ 33024 := fun e => hb (.inr (.inr ⟨rfl, e⟩))
    have e : fhead ⟨[d0, d1, d2, d3, d4, d5], [s0, s1, s2, s3, s4, s5], -1, ty, b⟩ ++ r = d0 :: d1 :: d2 :: d3 :: d4 :: d5 :: s0 :: s1 :: s2 :: s3 :: s4 :: s5 :: by8 ((ty : Int) / 256) :: by8 (ty : Int) :: r := by simp [fhead, txt2]
    rw [e]
    simp only [pframe]
    rw [ptag_plain (by rw [hty]; exact hne), hty]
    rfl
  · have hv : 0 ≤ vl ∧ vl < 65536 := by
      have a1 : ¬ vl < -1 := fun e => hb (.inl e)
      have a2 : ¬ 65535 < vl := fun e => hb (.inr (.inl e))
      omega
    have hvn := nb_txt2 vl hv.1 hv.2
    have e : fhead ⟨[d0, d1, d2, d3, d4, d5], [s0, s1, s2, s3, s4, s5], vl, ty, b⟩ ++ r = d0 :: d1 :: d2 :: d3 :: d4 :: d5 :: s0 :: s1 :: s2 :: s3 :: s4 :: s5 :: 129 :: 0 :: by8 (vl / 256) :: by8 vl :: by8 ((ty : Int) / 256) :: by8 (ty : Int) :: r := by
      simp [fhead, txt2, h]
      exact tagb
    rw [e]
    simp only [pframe]
    rw [ptag_tag tagn, hty, hvn]
    rfl
theorem pframe_short {l : List UInt8} (h : l.length < 14) : pframe l = none := by
  by_cases h1 : l.length < 6
  · exact pframe_short1 h1
  obtain ⟨d0, d1, d2, d3, d4, d5, r, rfl⟩ := six (show 6 ≤ l.length by omega)
  by_cases h2 : r.length < 6
  · exact pframe_short2 h2
  obtain ⟨s0, s1, s2, s3, s4, s5, r2, rfl⟩ := six (show 6 ≤ r.length by omega)
  simp only [pframe]
  rw [ptag_short (by simp at h; omega)]
  rfl
theorem pframe_short18 {d0 d1 d2 d3 d4 d5 s0 s1 s2 s3 s4 s5 : UInt8} {r : List UInt8} (h : r.length < 4) : pframe (d0 :: d1 :: d2 :: d3 :: d4 :: d5 :: s0 :: s1 :: s2 :: s3 :: s4 :: s5 :: 129 :: 0 :: r) = none := by
  simp only [pframe]
  rw [ptag_cut tagn h]
  rfl
theorem pframe_cut {f : Fr} (ok : f.ok) (k : Nat) (hk : k < (fhead f).length) : pframe ((fhead f).take k) = none := by
  have hl := fhead_len ok
  by_cases hs : ((fhead f).take k).length < 14
  · exact pframe_short hs
  · have hkl : ((fhead f).take k).length = k := by rw [List.length_take]; omega
    obtain ⟨fd, fs, vl, ty, b⟩ := f
    obtain ⟨h1, h2, h3, h4, h5⟩ := ok
    simp only at h1 h2 h3 h4 h5 hl
    obtain ⟨d0, d1, d2, d3, d4, d5, rfl⟩ := six_is h1
    obtain ⟨s0, s1, s2, s3, s4, s5, rfl⟩ := six_is h2
    by_cases h : vl = -1
    · rw [if_pos h] at hl; omega
    · rw [if_neg h] at hl
      have e : fhead ⟨[d0, d1, d2, d3, d4, d5], [s0, s1, s2, s3, s4, s5], vl, ty, b⟩ = d0 :: d1 :: d2 :: d3 :: d4 :: d5 :: s0 :: s1 :: s2 :: s3 :: s4 :: s5 :: 129 :: 0 :: [by8 (vl / 256), by8 vl, by8 ((ty : Int) / 256), by8 (ty : Int)] := by
        simp [fhead, txt2, h]
        exact tagb
      rw [e] at hkl hs ⊢
      obtain ⟨j, rfl⟩ : ∃ j, k = j + 14 := ⟨k - 14, by omega⟩
      simp only [List.take_succ_cons]
      exact pframe_short18 (by simp; omega)
set_option maxRecDepth 100000 in
/-- what a frame is parsed from are its bytes -/
theorem fbytes_pframe {l : List UInt8} {f : Fr} (h : pframe l = some f) : fbytes f = l ∧ f.ok ∧ ¬ badfr f := by
  match l, h with
  | d0 :: d1 :: d2 :: d3 :: d4 :: d5 :: s0 :: s1 :: s2 :: s3 :: s4 :: s5 :: r, h =>
    simp only [pframe, Option.map_eq_some_iff] at h
    obtain ⟨q, hq, rfl⟩ := h
    match r, hq with
    | x0 :: x1 :: r', hq =>
      have hx0 := x0.toNat_lt
      have hx1 := x1.toNat_lt
      have hn : nb [x0, x1] = x0.toNat * 256 + x1.toNat := by simp [nb]
      have hb8 : ∀ (x : Int) (y : UInt8), x % 256 = (y.toNat : Int) → by8 x = y := fun x y h => by rw [← by8_mod, h, by8_u8]
      by_cases ht : nb [x0, x1] = 33024
      · have e0 : x0 = 129 := by apply UInt8.toNat_inj.1; show x0.toNat = 129; omega
        have e1 : x1 = 0 := by apply UInt8.toNat_inj.1; show x1.toNat = 0; omega
        subst e0 e1
        match r', hq with
        | v0 :: v1 :: t0 :: t1 :: r'', hq =>
          rw [ptag_tag ht] at hq
          obtain rfl := Option.some.inj hq
          have hv0 := v0.toNat_lt
          have hv1 := v1.toNat_lt
          have ht0 := t0.toNat_lt
          have ht1 := t1.toNat_lt
          have hnv : nb [v0, v1] = v0.toNat * 256 + v1.toNat := by simp [nb]
          have hnt : nb [t0, t1] = t0.toNat * 256 + t1.toNat := by simp [nb]
          refine ⟨?_, ⟨rfl, rfl, by simp only; omega, by simp only; omega, by simp only; omega⟩, ?_⟩
          · have hne : ¬ ((nb [v0, v1] : Int) = -1) := by omega
            simp only [fbytes, if_neg hne, txt2, tagb.1, tagb.2]
            rw [hb8 ((nb [v0, v1] : Int) / 256) v0 (by omega), hb8 (nb [v0, v1] : Int) v1 (by omega), hb8 ((nb [t0, t1] : Int) / 256) t0 (by omega), hb8 (nb [t0, t1] : Int) t1 (by omega)]
            rfl
          · intro hb
            rcases hb with hb | hb | ⟨hb, _⟩ <;> simp only at hb <;> omega
        | [], hq => simp [ptag, ht] at hq
        | [_], hq => simp [ptag, ht] at hq
        | [_, _], hq => simp [ptag, ht] at hq
        | [_, _, _], hq => simp [ptag, ht] at hq
      · rw [ptag_plain ht] at hq
        obtain rfl := Option.some.inj hq
        refine ⟨?_, ⟨rfl, rfl, by simp only; omega, by simp only; omega, by simp only; omega⟩, ?_⟩
        · simp only [fbytes, if_true, txt2]
          rw [hb8 ((nb [x0, x1] : Int) / 256) x0 (by omega), hb8 (nb [x0, x1] : Int) x1 (by omega)]
          rfl
        · intro hb
          rcases hb with hb | hb | ⟨_, hb⟩
          · simp only at hb; omega
          · simp only at hb; omega
          · exact ht hb
    | [], hq => cases hq
    | [_], hq => cases hq
set_option maxHeartbeats 2000000 in
theorem mac_eq (a0 a1 a2 a3 a4 a5 : Int) (w : World) : (binOp .eql 74 (.agg #[.int .u8 a0, .int .u8 a1, .int .u8 a2, .int .u8 a3, .int .u8 a4, .int .u8 a5]) (.agg #[.int .u8 a0, .int .u8 a1, .int .u8 a2, .int .u8 a3, .int .u8 a4, .int .u8 a5])).run Tryd.prog w = .ok (.bool true) w := by
  obtain ⟨i0, hi, hz0, hz1, hz2⟩ := info_parts Tryd.info5
  have he : ∀ (d : Nat) (a : Int), (Op.equalIn (d + 1) 5 (.int .u8 a) (.int .u8 a)).run Tryd.prog w = .ok true w := fun d a => by
    have := run_equalIn_int (P := Tryd.prog) w d 5 .u8 .u8 a a Tryd.underlying5
    simpa using this
  have hs : (sizeOf 5).run Tryd.prog w = .ok 1 w := by simp [sizeOf, typeInfo, hi, hz1]
  have h : ∀ d : Nat, (Op.equalIn (d + 2) 74 (.agg #[.int .u8 a0, .int .u8 a1, .int .u8 a2, .int .u8 a3, .int .u8 a4, .int .u8 a5]) (.agg #[.int .u8 a0, .int .u8 a1, .int .u8 a2, .int .u8 a3, .int .u8 a4, .int .u8 a5])).run Tryd.prog w = .ok true w := fun d => by
    rw [Op.equalIn]
    simp only [Sem.run_bind, run_underlying Tryd.underlying74, Result.andThen_ok, hs, Std.Legacy.Range.forIn_eq_forIn_range']
    simp only [Std.Legacy.Range.size, List.range', Nat.sub_zero, Nat.add_sub_cancel, Nat.div_one]
    have hp : ∀ (k : Nat) (v : Value), (#[Value.int .u8 a0, .int .u8 a1, .int .u8 a2, .int .u8 a3, .int .u8 a4, .int .u8 a5] : Array Value)[k]? = some v → (part 5 #[Value.int .u8 a0, .int .u8 a1, .int .u8 a2, .int .u8 a3, .int .u8 a4, .int .u8 a5] k).run Tryd.prog w = .ok v w := fun k v hk => by
      simp [part, isAgg, run_underlying Tryd.underlying5, hk]
    simp only [List.forIn_cons, List.forIn_nil, Sem.run_bind, Nat.mul_one, Nat.zero_add, Nat.reduceAdd, hp 0 (.int .u8 a0) rfl, hp 1 (.int .u8 a1) rfl, hp 2 (.int .u8 a2) rfl, hp 3 (.int .u8 a3) rfl, hp 4 (.int .u8 a4) rfl, hp 5 (.int .u8 a5) rfl, he, Result.andThen_ok, Sem.run_pure, Bool.not_true, Bool.false_eq_true, if_false]
  simp only [binOp]
  simp [Op.equal, Op.maxDepth, h 9998]
end Go.Proofs.YtkgieciamophkaaDoor
