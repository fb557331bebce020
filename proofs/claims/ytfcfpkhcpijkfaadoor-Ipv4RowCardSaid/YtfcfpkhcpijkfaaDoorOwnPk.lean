/-
  Rows of packets that the call itself makes; append of a packet. By an AI agent.
-/
import Derived.Test.YtfcfpkhcpijkfaaDoorOpenPks
namespace Go.Proofs.YtfcfpkhcpijkfaaDoor
open Go.RowKit

/-- a packet in its ten cells -/
def ocl (o : Pk × Option Addr × Nat) : List Value := pcl o.1 (.slice o.2.1 o.1.b.length o.2.2)
theorem ocl_len (o : Pk × Option Addr × Nat) : (ocl o).length = 10 := rfl
theorem flat10_len (os : List (Pk × Option Addr × Nat)) : (os.flatMap ocl).length = os.length * 10 := by
  induction os with
  | nil => rfl
  | cons o r ih => rw [List.flatMap_cons, List.length_append, ih, ocl_len, List.length_cons]; omega
theorem flat10_get : ∀ (os : List (Pk × Option Addr × Nat)) (i k : Nat) (h : i < os.length) (_hk : k < 10), (os.flatMap ocl)[i * 10 + k]? = (ocl os[i])[k]?
  | [], i, k, h, _ => absurd h (by simp)
  | o :: r, 0, k, _, hk => by
    rw [List.flatMap_cons, List.getElem?_append_left (by rw [ocl_len]; omega)]
    simp
  | o :: r, i + 1, k, h, hk => by
    rw [List.flatMap_cons, List.getElem?_append_right (by rw [ocl_len]; omega), ocl_len, show (i + 1) * 10 + k - 10 = i * 10 + k by omega, flat10_get r i k (by simpa using h) hk]
    simp
/-- The slice v owns these packets, in a block from B on. -/
def OP (w : World) (B : Nat) (v : Value) (os : List (Pk × Option Addr × Nat)) : Prop := w.ownsRow B 51 10 v os.length (os.flatMap ocl)
theorem OP.nil (w : World) (B : Nat) : OP w B (.slice none 0 0) [] := World.ownsRow_nil w B _ 10
theorem OP.shape {w : World} {B : Nat} {v : Value} {os : List (Pk × Option Addr × Nat)} (h : OP w B v os) : ∃ A c, v = .slice A os.length c := by
  rcases h.2 with ⟨hv, hl⟩ | ⟨g, cap, cur, hv, _⟩
  · exact ⟨none, 0, by rw [hl]; exact hv⟩
  · exact ⟨_, cap, hv⟩
theorem OP.keep {w w' : World} {S : Nat → Prop} {B : Nat} {v : Value} {os : List (Pk × Option Addr × Nat)} (h : OP w B v os) (hx : Ex S w w') (hs : ∀ k, v.ownBlock = some k → k < w.heap.size → B ≤ k → ¬ S k) : OP w' B v os := by
  refine ⟨h.1, ?_⟩
  rcases h.2 with hn | ⟨g, cap, cur, rfl, hb, hg, rest⟩
  · exact .inl hn
  · have hlt := (Array.getElem?_eq_some_iff.1 hg).1
    exact .inr ⟨g, cap, cur, rfl, hb, (hx.block g hlt (hs g rfl hlt hb)).trans hg, rest⟩
theorem OP.lt {w : World} {B : Nat} {v : Value} {os : List (Pk × Option Addr × Nat)} (h : OP w B v os) : ∀ k, v.ownBlock = some k → B ≤ k ∧ k < w.heap.size := World.ownsRow.lt h
theorem OP.get {w : World} {B : Nat} {v : Value} {os : List (Pk × Option Addr × Nat)} (h : OP w B v os) (i : Nat) (hi : i < os.length) : ∃ g c, v = .slice (some ⟨g, 0, none⟩) os.length c ∧ os.length ≤ c ∧ ∀ k u, (ocl os[i])[k]? = some u → w.cell? ⟨g, i * 10 + k, none⟩ = some u := by
  have h' := h
  rcases h'.2 with ⟨rfl, hl⟩ | ⟨g, cap, cur, rfl, hb, hg, hn, _⟩
  · omega
  · refine ⟨g, cap, rfl, hn, fun k u hk => ?_⟩
    have hk10 : k < 10 := by
      have := (List.getElem?_eq_some_iff.1 hk).1
      rw [ocl_len] at this; exact this
    have := World.ownsRow.cells h (g := g) rfl (i * 10 + k) u (by rw [flat10_get os i k hi hk10]; exact hk)
    simpa [Addr.add_lit] using this
theorem ocl_one (o : Pk × Option Addr × Nat) (u : Value) (h : u ∈ ocl o) : u.oneCell' = true := by
  simp only [ocl, pcl, List.mem_cons, List.not_mem_nil, or_false] at h
  rcases h with rfl | rfl | rfl | rfl | rfl | rfl | rfl | rfl | rfl | rfl <;> rfl
/-- append of one packet onto packets of the call's own, in the walk. -/
theorem wpList_append_op {Pr : Program} {w : World} {ops : Array Oper} {rest : List Oper} {o : Oper} {a : Act} {Q : Exit → Act → World → Prop} (i : TypeInfo) (t : TypeId) (z : Value) (bytes : Nat)
    (ht : Pr.underlying t = some (.slice 51)) (hi : Pr.info? 51 = some i) (hz : i.zero = some z) (hzs : z.cells.size = 10) (hsize : i.size = 10) (hby : i.bytes = bytes) (hb200 : bytes ≤ 200)
    (hgd : o.guard = none) (s x : Operand) (ho : o.op = .call { callee := .builtin .append, args := #[s, x], argTypes := #[t, t] })
    (B : Nat) (v : Value) (os : List (Pk × Option Addr × Nat)) (hs : a.eval s = v) (q : Pk × Option Addr × Nat) (g m c : Nat) (hx : a.eval x = .slice (some ⟨g, 0, none⟩) m c) (hm : m = 1)
    (hown : OP w B v os) (hr : ∀ k u, (ocl q)[k]? = some u → w.cell? ⟨g, k, none⟩ = some u) (hlen : os.length ≤ 100) (hbase : B ≤ w.heap.size)
    (h : ∀ A c w', OP w' B (.slice A (os.length + 1) c) (os ++ [q]) → w.grownBy w' v.ownBlock → ((Value.slice A (os.length + 1) c).ownBlock = v.ownBlock ∨ (Value.slice A (os.length + 1) c).ownBlock = some w.heap.size) → wpList Pr ops Q rest (a.put o.dst (.slice A (os.length + 1) c)) w') :
    wpList Pr ops Q (o :: rest) a w := by
  subst hm
  refine wpList_append_row hgd s x t ho B 51 i z 10 bytes ht hi hz hsize hby hzs (by decide) v os.length (os.flatMap ocl) hs hown (some ⟨g, 0, none⟩) 1 c hx (ocl q) (by rw [ocl_len]) ?_ (fun u hu => ocl_one q u hu) (by simp only [maxLen]; omega) ?_ hbase ?_
  · intro j u hu
    exact ⟨_, rfl, by rw [Addr.add_lit, Nat.zero_add]; exact hr j u hu⟩
  · have : (os.length + 1) * bytes ≤ 101 * 200 := Nat.mul_le_mul (by omega) hb200
    omega
  · intro v' w' ho' hg _ hb
    have hob : OP w' B v' (os ++ [q]) := by
      unfold OP
      rw [List.length_append, List.flatMap_append]
      simpa using ho'
    obtain ⟨A', c', rfl⟩ := hob.shape
    rw [List.length_append] at hob hb ⊢
    exact h A' c' w' hob hg hb
end Go.Proofs.YtfcfpkhcpijkfaaDoor
