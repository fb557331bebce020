/-
  Small laws for the walks of law 01. By an AI agent.
-/
import Derived.Test.YtkgieciamophkaaDoorShown01
import Derived.LaidEql
namespace Go.Proofs.YtkgieciamophkaaDoor
open Go.RowKit

theorem conv_later {w : World} {v : Value} {l : List UInt8} (h : RB w (fun _ => True) v l) : ∀ W, Ex (fun _ => False) w W → (convert 23 9 v).run Tryd.prog W = .ok (.string (bs l)) W :=
  fun _ hx => (h.keep hx (fun _ _ _ => id)).str 23 9 5 Tryd.underlying23 Tryd.underlying5 Tryd.underlying9

theorem wpAnyH_strong {Pr : Program} {md : Region.Mode} {ops : Array Oper} {Q : Exit → Act → World → Prop} {S S' : World → Prop} (hs : ∀ w, S' w → S w) :
    ∀ (fuel : Nat) (listed : Array Bool) (a : Act) (w : World), wpAnyH Pr md ops Q S' fuel listed a w → wpAnyH Pr md ops Q S fuel listed a w
  | 0, _, _, _, h => h
  | fuel + 1, _, _, _, h => ⟨h.1, fun i hi => wpOp_mono (fun a' w' h' => ⟨hs _ h'.1, wpAnyH_strong hs fuel _ a' w' h'.2⟩) (h.2 i hi)⟩


theorem RD.lt {w : World} {p g o : Nat} {l : List UInt8} (h : RD w p g o l) : p < w.heap.size := by
  obtain ⟨A, c, h, _⟩ := h
  exact World.block_lt_of_cell? w _ h
theorem RD.ltg {w : World} {p g o : Nat} {l : List UInt8} (h : RD w p g o l) (hl : 0 < l.length) : g < w.heap.size := by
  obtain ⟨A, c, _, _, _, _, _, _, _, h⟩ := h
  exact World.block_lt_of_cell? w _ (h 0 hl).2
theorem by8_nat (b : UInt8) : by8 (b.toNat : Int) = b := by8_u8 b
theorem txt4_nb (a b c d : UInt8) : txt ((nb [a, b, c, d] : Nat) : Int) 4 = [a, b, c, d] := by
  have ha := a.toNat_lt; have hb := b.toNat_lt; have hc := c.toNat_lt; have hd := d.toNat_lt
  have e : nb [a, b, c, d] = ((a.toNat * 256 + b.toNat) * 256 + c.toNat) * 256 + d.toNat := by simp [nb]
  rw [e]
  simp only [txt, List.nil_append, List.cons_append]
  have h : ∀ (x : Int) (y : UInt8), x % 256 = (y.toNat : Int) → by8 x = y := fun x y h => by rw [← by8_mod, h, by8_u8]
  rw [h _ a (by omega), h _ b (by omega), h _ c (by omega), h _ d (by omega)]
theorem txt2_nb (a b : UInt8) : txt ((nb [a, b] : Nat) : Int) 2 = [a, b] := by
  have ha := a.toNat_lt; have hb := b.toNat_lt
  have e : nb [a, b] = a.toNat * 256 + b.toNat := by simp [nb]
  rw [e]
  simp only [txt, List.nil_append, List.cons_append]
  have h : ∀ (x : Int) (y : UInt8), x % 256 = (y.toNat : Int) → by8 x = y := fun x y h => by rw [← by8_mod, h, by8_u8]
  rw [h _ a (by omega), h _ b (by omega)]
theorem txt1_nb (a : UInt8) : txt ((nb [a] : Nat) : Int) 1 = [a] := by
  have e : nb [a] = a.toNat := by simp [nb]
  rw [e]
  simp only [txt, List.nil_append]
  rw [by8_u8]
theorem writer_step {w w' : World} {pw B : Nat} {q : Option Nat} {l : List UInt8} (hq : ∀ k, q = some k → B ≤ k) (hB : B ≤ w.heap.size) (h : WPost w pw q l w') :
    ∃ q', WR w' pw q' l ∧ (∀ k, q' = some k → B ≤ k) ∧ Ex (fun j => j = pw ∨ B ≤ j) w w' := by
  obtain ⟨q', h1, h2, h3⟩ := h
  refine ⟨q', h1, ?_, h3.mono (fun k _ h => ?_)⟩
  · rcases h2 with rfl | ⟨k, rfl, hk⟩
    · exact hq
    · intro j hj; obtain rfl := Option.some.inj hj; omega
  · rcases h with h | h
    · exact .inl h
    · exact .inr (hq k h)

/-- append of bytes inside a region that draws its order -/
theorem step_append_ob {Pr : Program} {w : World} {ops : Array Oper} {o : Oper} {a : Act} {K : Act → World → Prop} {Q : Exit → Act → World → Prop} {E : Prop} (i : TypeInfo) (t : TypeId)
    (ht : Pr.underlying t = some (.slice 5)) (hi : Pr.info? 5 = some i) (hz : i.zero = some (.int .u8 0)) (hsize : i.size = 1) (hby : i.bytes = 1)
    (hgd : o.guard = none) (s x : Operand) (ho : o.op = .call { callee := .builtin .append, args := #[s, x], argTypes := #[t, t] })
    (B : Nat) (v : Value) (l : List UInt8) (hs : a.eval s = v) (P : Nat → Prop) (y : Value) (r : List UInt8) (hx : a.eval x = y)
    (hown : OB w B v l) (hr : RB w P y r) (hlen : l.length + r.length ≤ 140737488355328) (hbase : B ≤ w.heap.size)
    (h : ∀ A c w', OB w' B (.slice A (l.length + r.length) c) (l ++ r) → w.grownBy w' v.ownBlock → (A = none ↔ v = .slice none 0 0 ∧ r = []) → ((Value.slice A (l.length + r.length) c).ownBlock = v.ownBlock ∨ (Value.slice A (l.length + r.length) c).ownBlock = some w.heap.size) → K (a.put o.dst (.slice A (l.length + r.length) c)) w') :
    if Region.wanted o (yielded ops a.tmps) = true then Oper.wp Pr o a w K Q else E := by
  rw [if_pos (by simp [Region.wanted, hgd])]
  obtain ⟨_, A, c, rfl, _, hcell⟩ := hr
  obtain ⟨v', w', hr', h2, h3, h4, h5⟩ := run_append_row (Pr := Pr) w B t o.type 5 i (.int .u8 0) 1 1 ht hi hz hsize hby rfl (by decide) v l.length (l.map u8v) hown.2 A r.length c (r.map u8v) (by simp) (fun j u hu => by
    simp only [List.getElem?_map, Option.map_eq_some_iff] at hu
    obtain ⟨b, hb, rfl⟩ := hu
    obtain ⟨hj, rfl⟩ := List.getElem?_eq_some_iff.1 hb
    obtain ⟨b', off, rfl, _, hc⟩ := hcell j hj
    exact ⟨_, rfl, by rw [Addr.add_lit]; exact hc⟩) (fun u hu => u8v_one u r hu) (by simp only [maxLen]; omega) (by omega) hbase
  unfold Oper.wp execOp
  simp only [ho, resolve, invoke, builtin, Sem.run_bind, Sem.run_pure, Result.andThen_ok, List.map_toArray, List.map_cons, List.map_nil, hs, hx, hr']
  have hob : OB w' B v' (l ++ r) := ⟨by simpa using hlen, by simpa using h2⟩
  obtain ⟨A', c', rfl⟩ := hob.shape
  rw [List.length_append] at hob h4 h5 ⊢
  refine h A' c' w' hob h3 ?_ h5
  rw [← show (r.length = 0) = (r = []) from by simp, ← h4]
  constructor
  · rintro rfl
    rcases hob.2.2 with ⟨e, _⟩ | ⟨g, cap, cur, e, _⟩
    · exact e
    · cases e
  · intro e; injection e
theorem OB.plain {w : World} {B n c : Nat} {a : Addr} {l : List UInt8} (h : OB w B (.slice (Option.some a) n c) l) : ∃ g, a = ⟨g, 0, none⟩ ∧ B ≤ g ∧ g < w.heap.size := by
  rcases h.2.2 with ⟨e, _⟩ | ⟨g, cap, cur, e, hb, hg, _⟩
  · cases e
  · injection e with e1; obtain rfl := Option.some.inj e1
    exact ⟨g, rfl, hb, (Array.getElem?_eq_some_iff.1 hg).1⟩
theorem WR.lt {w : World} {p : Nat} {q : Option Nat} {l : List UInt8} (h : WR w p q l) : p < w.heap.size ∧ ∀ k, q = Option.some k → k < w.heap.size := by
  obtain ⟨v, h1, h2, h3, h4, h5⟩ := h
  exact ⟨World.block_lt_of_cell? w _ h1, fun k hk => (h3.lt k (h4.trans hk)).2⟩
theorem writer_size : (Tryd.prog.info? 38).map (·.size) = some 1 := by kernel_rfl
theorem ptr_same (a : Addr) (w : World) : (binOp .neq 36 (.pointer (Option.some a)) (.pointer (Option.some a))).run Tryd.prog w = .ok (.bool false) w := by
  have hs := writer_size
  cases hj : Tryd.prog.info? 38 with
  | none => rw [hj] at hs; cases hs
  | some j =>
    have h : ∀ d : Nat, (Op.equalIn (d + 1) 36 (.pointer (Option.some a)) (.pointer (Option.some a))).run Tryd.prog w = .ok true w := fun d => by
      simp [Op.equalIn, run_underlying Tryd.underlying36, sizeOf, typeInfo, hj, run_sameAddr_same]
    simp only [binOp]
    simp [Op.equal, Op.maxDepth, h 9999]
end Go.Proofs.YtkgieciamophkaaDoor
