/-
  The contract of the reference's Split of a packet. By an AI agent.
-/
import Derived.Test.YtabjihchcmjdmaaDoorRefR10
import Derived.Test.YtabjihchcmjdmaaDoorGi10
import Derived.Test.YtabjihchcmjdmaaDoorGb10
namespace Go.Proofs.YtabjihchcmjdmaaDoor
open Go.RowKit

/-- a packet of the document's in its ten cells -/
def rcl (p : Pk) : List Value := [.int .u32 p.tos, .int .u32 p.id, .bool p.df, .bool p.mf, .int .i64 p.off, .int .u32 p.ttl, .int .u32 p.pr, .int .u32 p.src, .int .u32 p.dst, .string (bs p.b)]
theorem rcl_len (o : Pk) : (rcl o).length = 10 := rfl
theorem flatR_len (os : List Pk) : (os.flatMap rcl).length = os.length * 10 := by
  induction os with
  | nil => rfl
  | cons o r ih => rw [List.flatMap_cons, List.length_append, ih, rcl_len, List.length_cons]; omega
theorem flatR_get : ∀ (os : List Pk) (i k : Nat) (h : i < os.length) (_hk : k < 10), (os.flatMap rcl)[i * 10 + k]? = (rcl os[i])[k]?
  | [], i, k, h, _ => absurd h (by simp)
  | o :: r, 0, k, _, hk => by
    rw [List.flatMap_cons, List.getElem?_append_left (by rw [rcl_len]; omega)]
    simp
  | o :: r, i + 1, k, h, hk => by
    rw [List.flatMap_cons, List.getElem?_append_right (by rw [rcl_len]; omega), rcl_len, show (i + 1) * 10 + k - 10 = i * 10 + k by omega, flatR_get r i k (by simpa using h) hk]
    simp
/-- The slice v owns these packets of the document's, in a block from B on. -/
def OR (w : World) (B : Nat) (v : Value) (os : List Pk) : Prop := w.ownsRow B 31 10 v os.length (os.flatMap rcl)
theorem OR.shape {w : World} {B : Nat} {v : Value} {os : List Pk} (h : OR w B v os) : ∃ A c, v = .slice A os.length c := by
  rcases h.2 with ⟨hv, hl⟩ | ⟨g, cap, cur, hv, _⟩
  · exact ⟨none, 0, by rw [hl]; exact hv⟩
  · exact ⟨_, cap, hv⟩
theorem OR.keep {w w' : World} {S : Nat → Prop} {B : Nat} {v : Value} {os : List Pk} (h : OR w B v os) (hx : Ex S w w') (hs : ∀ k, v.ownBlock = some k → k < w.heap.size → B ≤ k → ¬ S k) : OR w' B v os := by
  refine ⟨h.1, ?_⟩
  rcases h.2 with hn | ⟨g, cap, cur, rfl, hb, hg, rest⟩
  · exact .inl hn
  · have hlt := (Array.getElem?_eq_some_iff.1 hg).1
    exact .inr ⟨g, cap, cur, rfl, hb, (hx.block g hlt (hs g rfl hlt hb)).trans hg, rest⟩
theorem OR.lt {w : World} {B : Nat} {v : Value} {os : List Pk} (h : OR w B v os) : ∀ k, v.ownBlock = some k → B ≤ k ∧ k < w.heap.size := World.ownsRow.lt h
theorem OR.get {w : World} {B : Nat} {v : Value} {os : List Pk} (h : OR w B v os) (h0 : 0 < os.length) : ∃ g c, v = .slice (some ⟨g, 0, none⟩) os.length c ∧ os.length ≤ c ∧ ∀ i (hi : i < os.length) k u, (rcl os[i])[k]? = some u → w.cell? ⟨g, i * 10 + k, none⟩ = some u := by
  have h' := h
  rcases h'.2 with ⟨rfl, hl⟩ | ⟨g, cap, cur, rfl, hb, hg, hn, _⟩
  · omega
  · refine ⟨g, cap, rfl, hn, fun i hi k u hk => ?_⟩
    have hk10 : k < 10 := by
      have := (List.getElem?_eq_some_iff.1 hk).1
      rw [rcl_len] at this; exact this
    have := World.ownsRow.cells h (g := g) rfl (i * 10 + k) u (by rw [flatR_get os i k hi hk10]; exact hk)
    simpa [Addr.add_lit] using this
theorem rcl_one (o : Pk) (u : Value) (h : u ∈ rcl o) : u.oneCell' = true := by
  simp only [rcl, List.mem_cons, List.not_mem_nil, or_false] at h
  rcases h with rfl | rfl | rfl | rfl | rfl | rfl | rfl | rfl | rfl | rfl <;> rfl
/-- append of one packet onto packets of the call's own, in the walk. -/
theorem wpList_append_or {Pr : Program} {w : World} {ops : Array Oper} {rest : List Oper} {o : Oper} {a : Act} {Q : Exit → Act → World → Prop} (i : TypeInfo) (t : TypeId) (z : Value) (bytes : Nat)
    (ht : Pr.underlying t = some (.slice 31)) (hi : Pr.info? 31 = some i) (hz : i.zero = some z) (hzs : z.cells.size = 10) (hsize : i.size = 10) (hby : i.bytes = bytes) (hb200 : bytes ≤ 200)
    (hgd : o.guard = none) (s x : Operand) (ho : o.op = .call { callee := .builtin .append, args := #[s, x], argTypes := #[t, t] })
    (B : Nat) (v : Value) (os : List Pk) (hs : a.eval s = v) (q : Pk) (g m c : Nat) (hx : a.eval x = .slice (some ⟨g, 0, none⟩) m c) (hm : m = 1)
    (hown : OR w B v os) (hr : ∀ k u, (rcl q)[k]? = some u → w.cell? ⟨g, k, none⟩ = some u) (hlen : os.length ≤ 300) (hbase : B ≤ w.heap.size)
    (h : ∀ A c w', OR w' B (.slice A (os.length + 1) c) (os ++ [q]) → w.grownBy w' v.ownBlock → ((Value.slice A (os.length + 1) c).ownBlock = v.ownBlock ∨ (Value.slice A (os.length + 1) c).ownBlock = some w.heap.size) → wpList Pr ops Q rest (a.put o.dst (.slice A (os.length + 1) c)) w') :
    wpList Pr ops Q (o :: rest) a w := by
  subst hm
  refine wpList_append_row hgd s x t ho B 31 i z 10 bytes ht hi hz hsize hby hzs (by decide) v os.length (os.flatMap rcl) hs hown (some ⟨g, 0, none⟩) 1 c hx (rcl q) (by rw [rcl_len]) ?_ (fun u hu => rcl_one q u hu) (by simp only [maxLen]; omega) ?_ hbase ?_
  · intro j u hu
    exact ⟨_, rfl, by rw [Addr.add_lit, Nat.zero_add]; exact hr j u hu⟩
  · have : (os.length + 1) * bytes ≤ 301 * 200 := Nat.mul_le_mul (by omega) hb200
    omega
  · intro v' w' ho' hg _ hb
    have hob : OR w' B v' (os ++ [q]) := by
      unfold OR
      rw [List.length_append, List.flatMap_append]
      simpa using ho'
    obtain ⟨A', c', rfl⟩ := hob.shape
    rw [List.length_append] at hob hb ⊢
    exact h A' c' w' hob hg hb
theorem OR.lit (w : World) (B : Nat) (p : Pk) (cs : Array Value) (hB : B ≤ w.heap.size) (hc : cs.toList = rcl p) (n : Nat) (hn : n = 1) {g : Nat} (hg : g = w.heap.size) : OR (w.alloc (.cells cs 31)) B (.slice (some ⟨g, 0, none⟩) n n) [p] := by
  subst hn hg
  have h := World.ownsRow_lit (e := 31) (size := 10) w cs 1 hB (by decide) (by have := congrArg List.length hc; rw [rcl_len] at this; simpa using this)
  unfold OR
  rw [hc] at h
  simpa using h
theorem OR.lit0 (w : World) (B : Nat) (hB : B ≤ w.heap.size) {g : Nat} (hg : g = w.heap.size) : OR (w.alloc (.cells #[] 31)) B (.slice (some ⟨g, 0, none⟩) 0 0) [] := by
  subst hg
  have h := World.ownsRow_lit (e := 31) (size := 10) w #[] 0 hB (by decide) rfl
  exact h
theorem dbs_sub (l : List UInt8) (i j : Nat) : (bs l).extract i j = bs ((l.take j).drop i) := by
  apply ByteArray.ext
  simp only [bs, ByteArray.data_extract, List.extract_toArray, List.extract_eq_take_drop]
  congr 1
  rw [List.drop_take]
theorem right_17 {p : Pk} (h : p.right ≠ 0) : p.right = 1 ∨ p.right = 7 := by
  unfold Pk.right at h ⊢
  split
  · exact .inl rfl
  · rename_i h1
    rw [if_neg h1] at h
    split
    · exact .inr rfl
    · rename_i h2
      rw [if_neg h2] at h
      exact absurd rfl h
/-- parts that do not fit in one -/
theorem parts_pz {p : Pk} {m : Int} (h68 : 68 ≤ m) (hf : ¬ 20 + (p.b.length : Int) ≤ m) (hl : p.b.length ≤ 4000) : ∃ n, PD p m (pz m) n (parts p m) := by
  obtain ⟨hz, hz8, hzm⟩ := pz_spec h68
  obtain ⟨z, hze⟩ : ∃ z, z = pz m := ⟨_, rfl⟩
  obtain ⟨n, hn⟩ : ∃ n, n = cn z p.b.length := ⟨_, rfl⟩
  have hc := fun k => @cn_lt z p.b.length k (by omega)
  rw [← hn] at hc
  have hn0 : 1 ≤ n := by
    have := (hc 0).2 (by omega)
    omega
  have hlast : (n - 1) * z < p.b.length := (hc (n - 1)).1 (by omega)
  have hcov : p.b.length ≤ n * z := by
    apply Classical.byContradiction
    intro hh
    have := (hc n).2 (by omega)
    omega
  have hp : parts p m = lastMf ((List.range n).map fun i => prt p z (p.off + (i * z : Nat)) i) p.mf := by
    unfold parts
    rw [if_neg hf, ← hze, ← hn]
  have hzl : z ≤ p.b.length := by omega
  refine ⟨n, ?_⟩
  rw [hp, ← hze]
  have hat : ∀ i, i < n → (lastMf ((List.range n).map fun i => prt p z (p.off + (i * z : Nat)) i) p.mf)[i]? = some (pti p z n i) := by
    intro i hi
    have hiz : i * z ≤ (n - 1) * z := Nat.mul_le_mul_right z (by omega)
    have hck : ckb z p.b i = (p.b.drop (i * z)).take z := by
      unfold ckb ce
      rw [List.drop_take, show i * z + min z (p.b.length - i * z) - i * z = min z (p.b.length - i * z) by omega]
      by_cases e : z ≤ p.b.length - i * z
      · rw [Nat.min_eq_left e]
      · rw [Nat.min_eq_right (by omega), List.take_of_length_le (by simp), List.take_of_length_le (by rw [List.length_drop]; omega)]
    unfold lastMf
    rw [List.getElem?_modify, List.length_map, List.length_range, List.getElem?_map, List.getElem?_range hi]
    unfold prt pti
    rw [Option.map_some, hck, Option.map_eq_map, Option.map_some]
    by_cases e : n - 1 = i
    · rw [if_pos e]
      have e2 : decide (i + 1 < n) = false := decide_eq_false (by omega)
      rw [e2, Bool.or_false]
    · rw [if_neg e]
      have e2 : decide (i + 1 < n) = true := decide_eq_true (by omega)
      rw [e2, Bool.or_true]
  refine ⟨by simp [lastMf], hn0, ⟨by omega, by omega, by omega⟩, hcov, fun _ => hlast, hat, fun i hi => ?_⟩
  show 20 + (((p.b.drop (i * z)).take z).length : Int) ≤ m
  rw [List.length_take]
  omega
theorem PD.list {p : Pk} {m : Int} {z n : Nat} {l : List Pk} (h : PD p m z n l) : l = (List.range n).map (pti p z n) := by
  apply List.ext_getElem?
  intro i
  by_cases hi : i < n
  · rw [h.one i hi, List.getElem?_map, List.getElem?_range hi]
    rfl
  · rw [List.getElem?_eq_none (by rw [h.len]; omega), List.getElem?_eq_none (by simp; omega)]
theorem tx101 : bs (etx [lay10] 1) = ⟨#[102, 114, 97, 103, 58, 32, 101, 114, 114, 111, 114, 32, 49]⟩ := by decide
theorem tx107 : bs (etx [lay10] 7) = ⟨#[102, 114, 97, 103, 58, 32, 101, 114, 114, 111, 114, 32, 55]⟩ := by decide
theorem tx1051 : bs (etx [lay10, lay5] 1) = (⟨#[102, 114, 97, 103, 58, 32]⟩ ++ ⟨#[105, 112, 118, 52, 58, 32, 101, 114, 114, 111, 114, 32, 49]⟩ : ByteArray) := by decide
theorem tx1057 : bs (etx [lay10, lay5] 7) = (⟨#[102, 114, 97, 103, 58, 32]⟩ ++ ⟨#[105, 112, 118, 52, 58, 32, 101, 114, 114, 111, 114, 32, 55]⟩ : ByteArray) := by decide
/-- one round of the reference's loop -/
structure RLoop (p : Pk) (z n i a e s : Nat) (q : Int) (mfb : Bool) (yb : List UInt8) : Prop where
  cut : (bs p.b).extract a e = bs yb
  ae : a ≤ e
  el : e ≤ p.b.length
  off : wrap64 (p.off + (a : Int)) = q
  add : wrap64 ((a : Int) + (z : Int)) = (s : Int)
  min : min (s : Int) (p.b.length : Int) = (e : Int)
  mf : (p.mf || decide (s < p.b.length)) = mfb
  is : ({ p with off := q, mf := mfb, b := yb } : Pk) = pti p z n i
  nx : s = (i + 1) * z
theorem rloop {p : Pk} {m : Int} {z n : Nat} {l : List Pk} (h : PD p m z n l) (hr : p.right = 0) (h2 : p.b.length ≤ 2000) {i a : Nat} (ha : a = i * z) (hlt : (a : Int) < (p.b.length : Int)) : i < n ∧ ∃ e s q mfb yb, RLoop p z n i a e s q mfb yb := by
  have hz := h.zp
  have hin : i < n := by
    apply Classical.byContradiction
    intro hn
    have h3 : n * z ≤ i * z := Nat.mul_le_mul_right z (by omega)
    have := h.cov
    omega
  refine ⟨hin, min (a + z) p.b.length, a + z, (pti p z n i).off, (pti p z n i).mf, (pti p z n i).b, ?_, by omega, by omega, ?_, ?_, ?_, ?_, rfl, by rw [ha, Nat.add_mul, Nat.one_mul]⟩
  · rw [dbs_sub]
    unfold pti
    simp only
    rw [List.drop_take, ← ha]
    by_cases e : a + z ≤ p.b.length
    · rw [Nat.min_eq_left e, Nat.add_sub_cancel_left]
    · rw [Nat.min_eq_right (by omega), List.take_of_length_le (by rw [List.length_drop]; omega), List.take_of_length_le (by rw [List.length_drop]; omega)]
  · have hw := right_off hr
    unfold wrap64 pti
    simp only
    rw [← ha]
    omega
  · unfold wrap64
    omega
  · omega
  · unfold pti
    simp only
    congr 1
    by_cases e : i + 1 < n
    · have h3 := h.some (by omega) e
      rw [Nat.add_mul, Nat.one_mul, ← ha] at h3
      rw [decide_eq_true e, decide_eq_true (by omega)]
    · have h3 := h.cov
      have h4 : n * z ≤ (i + 1) * z := Nat.mul_le_mul_right z (by omega)
      rw [Nat.add_mul, Nat.one_mul, ← ha] at h4
      rw [decide_eq_false e, decide_eq_false (by omega)]
theorem rend {p : Pk} {m : Int} {z n : Nat} {l : List Pk} (h : PD p m z n l) (h0 : 0 < p.b.length) {i a : Nat} (ha : a = i * z) (hi : i ≤ n) (hlt : ¬ (a : Int) < (p.b.length : Int)) : i = n := by
  apply Classical.byContradiction
  intro hne
  by_cases e : n = 1
  · obtain rfl : i = 0 := by omega
    rw [Nat.zero_mul] at ha
    omega
  · have h1 := h.some (by have := h.pos; omega) (show i < n by omega)
    omega
theorem rinfo : (Tryd.prog.info? 31).map (fun i => (i.zero, i.size, i.bytes)) = some (some (.agg #[.int .u32 0, .int .u32 0, .bool false, .bool false, .int .i64 0, .int .u32 0, .int .u32 0, .int .u32 0, .int .u32 0, .string ⟨#[]⟩]), 10, 56) := by kernel_rfl
theorem msrR {n i k : Nat} (h : n - i ≤ k) (hl : i < n) : n - (i + 1) < k := by omega
theorem OR.mono {w : World} {B B' : Nat} {v : Value} {os : List Pk} (h : OR w B v os) (hb : B' ≤ B) : OR w B' v os := ⟨h.1, by
  rcases h.2 with hn | ⟨g, cap, cur, rfl, hb', rest⟩
  · exact .inl hn
  · exact .inr ⟨g, cap, cur, rfl, Nat.le_trans hb hb', rest⟩⟩
theorem OR.up {B B' : Nat} {v : Value} {os : List Pk} {w w' : World} (h : OR w B' v os) (hx : Up B w w') (hB : w.heap.size ≤ B) : OR w' B' v os :=
  h.keep hx (fun k _ hk _ e => by omega)
set_option maxRecDepth 100000 in
set_option maxHeartbeats 8000000 in
theorem rs_1 (xtos xid xoff xttl xpr xsrc xdst : Int) (xdf xmf : Bool) (xb : List UInt8) (m : Int) (w : World) (hl : xb.length ≤ 2000) (h : m < 68) :
    Calls Tryd.prog 16 #[.agg #[.int .u32 xtos, .int .u32 xid, .bool xdf, .bool xmf, .int .i64 xoff, .int .u32 xttl, .int .u32 xpr, .int .u32 xsrc, .int .u32 xdst, .string (bs xb)], .int .i64 m] w fun e w' => e = .returned (.tuple #[.slice none 0 0, .string ⟨#[102, 114, 97, 103, 58, 32, 101, 114, 114, 111, 114, 32, 49]⟩]) ∧ Ex (fun _ => False) w w' := by
  have _hl := hl
  clear hl _hl
  go_enter Tryd.func16, Tryd.ntmps16
  go_wp2_with fail
  go_ret2
  exact ⟨rfl, (Ex.refl _ w).alloc _⟩
set_option maxRecDepth 100000 in
set_option maxHeartbeats 8000000 in
theorem rs_21 (xtos xid xoff xttl xpr xsrc xdst : Int) (xdf xmf : Bool) (xb : List UInt8) (m : Int) (w : World) (hl : xb.length ≤ 2000) (h : ¬ m < 68) (hr : (⟨xtos, xid, xdf, xmf, xoff, xttl, xpr, xsrc, xdst, xb⟩ : Pk).right = 1) :
    Calls Tryd.prog 16 #[.agg #[.int .u32 xtos, .int .u32 xid, .bool xdf, .bool xmf, .int .i64 xoff, .int .u32 xttl, .int .u32 xpr, .int .u32 xsrc, .int .u32 xdst, .string (bs xb)], .int .i64 m] w fun e w' => e = .returned (.tuple #[.slice none 0 0, .string (⟨#[102, 114, 97, 103, 58, 32]⟩ ++ ⟨#[105, 112, 118, 52, 58, 32, 101, 114, 114, 111, 114, 32, 49]⟩)]) ∧ Ex (fun _ => False) w w' := by
  have HL := Lib.hid hl
  have HRX := Lib.hid hr
  clear hl hr
  go_enter Tryd.func16, Tryd.ntmps16
  go_upto_region 1 with fail
  have hx : Ex (fun _ => False) w (w.alloc (.cells #[.int .u32 xtos, .int .u32 xid, .bool xdf, .bool xmf, .int .i64 xoff, .int .u32 xttl, .int .u32 xpr, .int .u32 xsrc, .int .u32 xdst, .string (bs xb)] 31)) := (Ex.refl _ w).alloc _
  have hb : (w.alloc (.cells #[.int .u32 xtos, .int .u32 xid, .bool xdf, .bool xmf, .int .i64 xoff, .int .u32 xttl, .int .u32 xpr, .int .u32 xsrc, .int .u32 xdst, .string (bs xb)] 31)).heap[w.heap.size]? = some (.cells #[.int .u32 xtos, .int .u32 xid, .bool xdf, .bool xmf, .int .i64 xoff, .int .u32 xttl, .int .u32 xpr, .int .u32 xsrc, .int .u32 xdst, .string (bs xb)] 31) := heap_alloc_new w _
  obtain ⟨bp, hbp⟩ : ∃ bp, bp = w.heap.size := ⟨_, rfl⟩
  have hb_bp : w.heap.size ≤ bp := by omega
  rw [← hbp] at hb
  try simp only [← hbp]
  generalize w.alloc (.cells #[.int .u32 xtos, .int .u32 xid, .bool xdf, .bool xmf, .int .i64 xoff, .int .u32 xttl, .int .u32 xpr, .int .u32 xsrc, .int .u32 xdst, .string (bs xb)] 31) = w1 at hx hb ⊢
  clear hbp
  have HX_w1 := Lib.hid hx
  clear hx
  have B_bp := Lib.hid hb
  clear hb
  have cbp0 := row_cell (k := 0) (v := .int .u32 xtos) B_bp.out rfl
  have cbp1 := row_cell (k := 1) (v := .int .u32 xid) B_bp.out rfl
  have cbp2 := row_cell (k := 2) (v := .bool xdf) B_bp.out rfl
  have cbp3 := row_cell (k := 3) (v := .bool xmf) B_bp.out rfl
  have cbp4 := row_cell (k := 4) (v := .int .i64 xoff) B_bp.out rfl
  have cbp5 := row_cell (k := 5) (v := .int .u32 xttl) B_bp.out rfl
  have cbp6 := row_cell (k := 6) (v := .int .u32 xpr) B_bp.out rfl
  have cbp7 := row_cell (k := 7) (v := .int .u32 xsrc) B_bp.out rfl
  have cbp8 := row_cell (k := 8) (v := .int .u32 xdst) B_bp.out rfl
  have cbp9 := row_cell (k := 9) (v := .string (bs xb)) B_bp.out rfl
  go_wp2_with fail
  refine (rright_any (⟨xtos, xid, xdf, xmf, xoff, xttl, xpr, xsrc, xdst, xb⟩) w1 (by have := HL.out; show xb.length ≤ _; omega)).mono ?_
  rintro e w2 ⟨rfl, hx⟩
  rw [HRX.out]
  clear cbp0 cbp1 cbp2 cbp3 cbp4 cbp5 cbp6 cbp7 cbp8 cbp9
  have HX_w2 := Lib.hid hx
  clear hx
  have ht : rtx [lay5] 1 = ⟨#[105, 112, 118, 52, 58, 32, 101, 114, 114, 111, 114, 32, 49]⟩ := tx51
  rw [ht]
  go_wp2_with fail
  go_ret2
  exact ⟨rfl, (HX_w1.out.trans HX_w2.out)⟩
set_option maxRecDepth 100000 in
set_option maxHeartbeats 8000000 in
theorem rs_27 (xtos xid xoff xttl xpr xsrc xdst : Int) (xdf xmf : Bool) (xb : List UInt8) (m : Int) (w : World) (hl : xb.length ≤ 2000) (h : ¬ m < 68) (hr : (⟨xtos, xid, xdf, xmf, xoff, xttl, xpr, xsrc, xdst, xb⟩ : Pk).right = 7) :
    Calls Tryd.prog 16 #[.agg #[.int .u32 xtos, .int .u32 xid, .bool xdf, .bool xmf, .int .i64 xoff, .int .u32 xttl, .int .u32 xpr, .int .u32 xsrc, .int .u32 xdst, .string (bs xb)], .int .i64 m] w fun e w' => e = .returned (.tuple #[.slice none 0 0, .string (⟨#[102, 114, 97, 103, 58, 32]⟩ ++ ⟨#[105, 112, 118, 52, 58, 32, 101, 114, 114, 111, 114, 32, 55]⟩)]) ∧ Ex (fun _ => False) w w' := by
  have HL := Lib.hid hl
  have HRX := Lib.hid hr
  clear hl hr
  go_enter Tryd.func16, Tryd.ntmps16
  go_upto_region 1 with fail
  have hx : Ex (fun _ => False) w (w.alloc (.cells #[.int .u32 xtos, .int .u32 xid, .bool xdf, .bool xmf, .int .i64 xoff, .int .u32 xttl, .int .u32 xpr, .int .u32 xsrc, .int .u32 xdst, .string (bs xb)] 31)) := (Ex.refl _ w).alloc _
  have hb : (w.alloc (.cells #[.int .u32 xtos, .int .u32 xid, .bool xdf, .bool xmf, .int .i64 xoff, .int .u32 xttl, .int .u32 xpr, .int .u32 xsrc, .int .u32 xdst, .string (bs xb)] 31)).heap[w.heap.size]? = some (.cells #[.int .u32 xtos, .int .u32 xid, .bool xdf, .bool xmf, .int .i64 xoff, .int .u32 xttl, .int .u32 xpr, .int .u32 xsrc, .int .u32 xdst, .string (bs xb)] 31) := heap_alloc_new w _
  obtain ⟨bp, hbp⟩ : ∃ bp, bp = w.heap.size := ⟨_, rfl⟩
  have hb_bp : w.heap.size ≤ bp := by omega
  rw [← hbp] at hb
  try simp only [← hbp]
  generalize w.alloc (.cells #[.int .u32 xtos, .int .u32 xid, .bool xdf, .bool xmf, .int .i64 xoff, .int .u32 xttl, .int .u32 xpr, .int .u32 xsrc, .int .u32 xdst, .string (bs xb)] 31) = w1 at hx hb ⊢
  clear hbp
  have HX_w1 := Lib.hid hx
  clear hx
  have B_bp := Lib.hid hb
  clear hb
  have cbp0 := row_cell (k := 0) (v := .int .u32 xtos) B_bp.out rfl
  have cbp1 := row_cell (k := 1) (v := .int .u32 xid) B_bp.out rfl
  have cbp2 := row_cell (k := 2) (v := .bool xdf) B_bp.out rfl
  have cbp3 := row_cell (k := 3) (v := .bool xmf) B_bp.out rfl
  have cbp4 := row_cell (k := 4) (v := .int .i64 xoff) B_bp.out rfl
  have cbp5 := row_cell (k := 5) (v := .int .u32 xttl) B_bp.out rfl
  have cbp6 := row_cell (k := 6) (v := .int .u32 xpr) B_bp.out rfl
  have cbp7 := row_cell (k := 7) (v := .int .u32 xsrc) B_bp.out rfl
  have cbp8 := row_cell (k := 8) (v := .int .u32 xdst) B_bp.out rfl
  have cbp9 := row_cell (k := 9) (v := .string (bs xb)) B_bp.out rfl
  go_wp2_with fail
  refine (rright_any (⟨xtos, xid, xdf, xmf, xoff, xttl, xpr, xsrc, xdst, xb⟩) w1 (by have := HL.out; show xb.length ≤ _; omega)).mono ?_
  rintro e w2 ⟨rfl, hx⟩
  rw [HRX.out]
  clear cbp0 cbp1 cbp2 cbp3 cbp4 cbp5 cbp6 cbp7 cbp8 cbp9
  have HX_w2 := Lib.hid hx
  clear hx
  have ht : rtx [lay5] 7 = ⟨#[105, 112, 118, 52, 58, 32, 101, 114, 114, 111, 114, 32, 55]⟩ := tx57
  rw [ht]
  go_wp2_with fail
  go_ret2
  exact ⟨rfl, (HX_w1.out.trans HX_w2.out)⟩
set_option maxRecDepth 100000 in
set_option maxHeartbeats 8000000 in
theorem rs_3 (xtos xid xoff xttl xpr xsrc xdst : Int) (xdf xmf : Bool) (xb : List UInt8) (m : Int) (w : World) (hl : xb.length ≤ 2000) (h : ¬ m < 68) (hr : (⟨xtos, xid, xdf, xmf, xoff, xttl, xpr, xsrc, xdst, xb⟩ : Pk).right = 0) (hf : 20 + (xb.length : Int) ≤ m) :
    Calls Tryd.prog 16 #[.agg #[.int .u32 xtos, .int .u32 xid, .bool xdf, .bool xmf, .int .i64 xoff, .int .u32 xttl, .int .u32 xpr, .int .u32 xsrc, .int .u32 xdst, .string (bs xb)], .int .i64 m] w fun e w' => ∃ g, e = .returned (.tuple #[.slice (some ⟨g, 0, none⟩) 1 1, .string ⟨#[]⟩]) ∧ OR w' w.heap.size (.slice (some ⟨g, 0, none⟩) 1 1) [(⟨xtos, xid, xdf, xmf, xoff, xttl, xpr, xsrc, xdst, xb⟩ : Pk)] ∧ Ex (fun _ => False) w w' := by
  have HL := Lib.hid hl
  have HRX := Lib.hid hr
  clear hl hr
  go_enter Tryd.func16, Tryd.ntmps16
  go_upto_region 1 with fail
  have hx : Ex (fun _ => False) w (w.alloc (.cells #[.int .u32 xtos, .int .u32 xid, .bool xdf, .bool xmf, .int .i64 xoff, .int .u32 xttl, .int .u32 xpr, .int .u32 xsrc, .int .u32 xdst, .string (bs xb)] 31)) := (Ex.refl _ w).alloc _
  have hb : (w.alloc (.cells #[.int .u32 xtos, .int .u32 xid, .bool xdf, .bool xmf, .int .i64 xoff, .int .u32 xttl, .int .u32 xpr, .int .u32 xsrc, .int .u32 xdst, .string (bs xb)] 31)).heap[w.heap.size]? = some (.cells #[.int .u32 xtos, .int .u32 xid, .bool xdf, .bool xmf, .int .i64 xoff, .int .u32 xttl, .int .u32 xpr, .int .u32 xsrc, .int .u32 xdst, .string (bs xb)] 31) := heap_alloc_new w _
  obtain ⟨bp, hbp⟩ : ∃ bp, bp = w.heap.size := ⟨_, rfl⟩
  have hb_bp : w.heap.size ≤ bp := by omega
  rw [← hbp] at hb
  try simp only [← hbp]
  generalize w.alloc (.cells #[.int .u32 xtos, .int .u32 xid, .bool xdf, .bool xmf, .int .i64 xoff, .int .u32 xttl, .int .u32 xpr, .int .u32 xsrc, .int .u32 xdst, .string (bs xb)] 31) = w1 at hx hb ⊢
  clear hbp
  have HX_w1 := Lib.hid hx
  clear hx
  have B_bp := Lib.hid hb
  clear hb
  have cbp0 := row_cell (k := 0) (v := .int .u32 xtos) B_bp.out rfl
  have cbp1 := row_cell (k := 1) (v := .int .u32 xid) B_bp.out rfl
  have cbp2 := row_cell (k := 2) (v := .bool xdf) B_bp.out rfl
  have cbp3 := row_cell (k := 3) (v := .bool xmf) B_bp.out rfl
  have cbp4 := row_cell (k := 4) (v := .int .i64 xoff) B_bp.out rfl
  have cbp5 := row_cell (k := 5) (v := .int .u32 xttl) B_bp.out rfl
  have cbp6 := row_cell (k := 6) (v := .int .u32 xpr) B_bp.out rfl
  have cbp7 := row_cell (k := 7) (v := .int .u32 xsrc) B_bp.out rfl
  have cbp8 := row_cell (k := 8) (v := .int .u32 xdst) B_bp.out rfl
  have cbp9 := row_cell (k := 9) (v := .string (bs xb)) B_bp.out rfl
  go_wp2_with fail
  refine (rright_any (⟨xtos, xid, xdf, xmf, xoff, xttl, xpr, xsrc, xdst, xb⟩) w1 (by have := HL.out; show xb.length ≤ _; omega)).mono ?_
  rintro e w2 ⟨rfl, hx⟩
  rw [HRX.out]
  clear cbp0 cbp1 cbp2 cbp3 cbp4 cbp5 cbp6 cbp7 cbp8 cbp9
  have HX_w2 := Lib.hid hx
  clear hx
  have ht : rtx [lay5] 0 = ⟨#[]⟩ := rfl
  rw [ht]
  have hz := bs_size xb
  have hw20 : wrap64 (20 + (xb.length : Int)) = 20 + (xb.length : Int) := by
    have := HL.out
    unfold wrap64
    omega
  replace B_bp := Lib.hid ((HX_w2.out.block bp (row_lt B_bp.out) id).trans B_bp.out)
  have cbp0 := row_cell (k := 0) (v := .int .u32 xtos) B_bp.out rfl
  have cbp1 := row_cell (k := 1) (v := .int .u32 xid) B_bp.out rfl
  have cbp2 := row_cell (k := 2) (v := .bool xdf) B_bp.out rfl
  have cbp3 := row_cell (k := 3) (v := .bool xmf) B_bp.out rfl
  have cbp4 := row_cell (k := 4) (v := .int .i64 xoff) B_bp.out rfl
  have cbp5 := row_cell (k := 5) (v := .int .u32 xttl) B_bp.out rfl
  have cbp6 := row_cell (k := 6) (v := .int .u32 xpr) B_bp.out rfl
  have cbp7 := row_cell (k := 7) (v := .int .u32 xsrc) B_bp.out rfl
  have cbp8 := row_cell (k := 8) (v := .int .u32 xdst) B_bp.out rfl
  have cbp9 := row_cell (k := 9) (v := .string (bs xb)) B_bp.out rfl
  go_wp2_with fail
  go_ret2
  have hb := (HX_w1.out.trans HX_w2.out).size
  exact ⟨w2.heap.size, rfl, OR.lit w2 w.heap.size (⟨xtos, xid, xdf, xmf, xoff, xttl, xpr, xsrc, xdst, xb⟩ : Pk) _ hb rfl 1 rfl rfl, (HX_w1.out.trans HX_w2.out).alloc _⟩
set_option maxRecDepth 100000 in
set_option maxHeartbeats 8000000 in
theorem rs_4 (xtos xid xoff xttl xpr xsrc xdst : Int) (xmf : Bool) (xb : List UInt8) (m : Int) (w : World) (hl : xb.length ≤ 2000) (h : ¬ m < 68) (hr : (⟨xtos, xid, true, xmf, xoff, xttl, xpr, xsrc, xdst, xb⟩ : Pk).right = 0) (hf : ¬ 20 + (xb.length : Int) ≤ m) :
    Calls Tryd.prog 16 #[.agg #[.int .u32 xtos, .int .u32 xid, .bool true, .bool xmf, .int .i64 xoff, .int .u32 xttl, .int .u32 xpr, .int .u32 xsrc, .int .u32 xdst, .string (bs xb)], .int .i64 m] w fun e w' => e = .returned (.tuple #[.slice none 0 0, .string ⟨#[102, 114, 97, 103, 58, 32, 101, 114, 114, 111, 114, 32, 55]⟩]) ∧ Ex (fun _ => False) w w' := by
  have hfd : decide (20 + (xb.length : Int) ≤ m) = false := decide_eq_false hf
  clear hf
  have HL := Lib.hid hl
  have HRX := Lib.hid hr
  clear hl hr
  go_enter Tryd.func16, Tryd.ntmps16
  go_upto_region 1 with fail
  have hx : Ex (fun _ => False) w (w.alloc (.cells #[.int .u32 xtos, .int .u32 xid, .bool true, .bool xmf, .int .i64 xoff, .int .u32 xttl, .int .u32 xpr, .int .u32 xsrc, .int .u32 xdst, .string (bs xb)] 31)) := (Ex.refl _ w).alloc _
  have hb : (w.alloc (.cells #[.int .u32 xtos, .int .u32 xid, .bool true, .bool xmf, .int .i64 xoff, .int .u32 xttl, .int .u32 xpr, .int .u32 xsrc, .int .u32 xdst, .string (bs xb)] 31)).heap[w.heap.size]? = some (.cells #[.int .u32 xtos, .int .u32 xid, .bool true, .bool xmf, .int .i64 xoff, .int .u32 xttl, .int .u32 xpr, .int .u32 xsrc, .int .u32 xdst, .string (bs xb)] 31) := heap_alloc_new w _
  obtain ⟨bp, hbp⟩ : ∃ bp, bp = w.heap.size := ⟨_, rfl⟩
  have hb_bp : w.heap.size ≤ bp := by omega
  rw [← hbp] at hb
  try simp only [← hbp]
  generalize w.alloc (.cells #[.int .u32 xtos, .int .u32 xid, .bool true, .bool xmf, .int .i64 xoff, .int .u32 xttl, .int .u32 xpr, .int .u32 xsrc, .int .u32 xdst, .string (bs xb)] 31) = w1 at hx hb ⊢
  clear hbp
  have HX_w1 := Lib.hid hx
  clear hx
  have B_bp := Lib.hid hb
  clear hb
  have cbp0 := row_cell (k := 0) (v := .int .u32 xtos) B_bp.out rfl
  have cbp1 := row_cell (k := 1) (v := .int .u32 xid) B_bp.out rfl
  have cbp2 := row_cell (k := 2) (v := .bool true) B_bp.out rfl
  have cbp3 := row_cell (k := 3) (v := .bool xmf) B_bp.out rfl
  have cbp4 := row_cell (k := 4) (v := .int .i64 xoff) B_bp.out rfl
  have cbp5 := row_cell (k := 5) (v := .int .u32 xttl) B_bp.out rfl
  have cbp6 := row_cell (k := 6) (v := .int .u32 xpr) B_bp.out rfl
  have cbp7 := row_cell (k := 7) (v := .int .u32 xsrc) B_bp.out rfl
  have cbp8 := row_cell (k := 8) (v := .int .u32 xdst) B_bp.out rfl
  have cbp9 := row_cell (k := 9) (v := .string (bs xb)) B_bp.out rfl
  go_wp2_with fail
  refine (rright_any (⟨xtos, xid, true, xmf, xoff, xttl, xpr, xsrc, xdst, xb⟩) w1 (by have := HL.out; show xb.length ≤ _; omega)).mono ?_
  rintro e w2 ⟨rfl, hx⟩
  rw [HRX.out]
  clear cbp0 cbp1 cbp2 cbp3 cbp4 cbp5 cbp6 cbp7 cbp8 cbp9
  have HX_w2 := Lib.hid hx
  clear hx
  have ht : rtx [lay5] 0 = ⟨#[]⟩ := rfl
  rw [ht]
  have hz := bs_size xb
  have hw20 : wrap64 (20 + (xb.length : Int)) = 20 + (xb.length : Int) := by
    have := HL.out
    unfold wrap64
    omega
  replace B_bp := Lib.hid ((HX_w2.out.block bp (row_lt B_bp.out) id).trans B_bp.out)
  have cbp2 := row_cell (k := 2) (v := .bool true) B_bp.out rfl
  have cbp9 := row_cell (k := 9) (v := .string (bs xb)) B_bp.out rfl
  go_wp2_with fail
  go_ret2
  exact ⟨rfl, (HX_w1.out.trans HX_w2.out)⟩
set_option maxRecDepth 100000 in
set_option maxHeartbeats 8000000 in
theorem rs_5t (xtos xid xoff xttl xpr xsrc xdst : Int) (xb : List UInt8) (m : Int) (w : World) (hl : xb.length ≤ 2000) (h : ¬ m < 68) (hr : (⟨xtos, xid, false, true, xoff, xttl, xpr, xsrc, xdst, xb⟩ : Pk).right = 0) (hf : ¬ 20 + (xb.length : Int) ≤ m) :
    Calls Tryd.prog 16 #[.agg #[.int .u32 xtos, .int .u32 xid, .bool false, .bool true, .int .i64 xoff, .int .u32 xttl, .int .u32 xpr, .int .u32 xsrc, .int .u32 xdst, .string (bs xb)], .int .i64 m] w fun e w' => ∃ A c n, e = .returned (.tuple #[.slice A n c, .string ⟨#[]⟩]) ∧ n = (parts (⟨xtos, xid, false, true, xoff, xttl, xpr, xsrc, xdst, xb⟩ : Pk) m).length ∧ OR w' w.heap.size (.slice A n c) (parts (⟨xtos, xid, false, true, xoff, xttl, xpr, xsrc, xdst, xb⟩ : Pk) m) ∧ Ex (fun _ => False) w w' := by
  have hpw := (pz_wrap (m := m) (by omega) (by omega)).1
  obtain ⟨n, hpd⟩ := parts_pz (p := (⟨xtos, xid, false, true, xoff, xttl, xpr, xsrc, xdst, xb⟩ : Pk)) (m := m) (by omega) hf (by show xb.length ≤ 4000; omega)
  obtain ⟨z, hz0⟩ : ∃ z, z = pz m := ⟨_, rfl⟩
  rw [← hz0] at hpw hpd
  have HPW := Lib.hid hpw
  have HPD := Lib.hid hpd
  have hfd : decide (20 + (xb.length : Int) ≤ m) = false := decide_eq_false hf
  have HNL := Lib.hid (show n ≤ 300 by
    have h1 := hpd.lt
    have h2 := hpd.zp
    apply Classical.byContradiction
    intro hh
    have h3 := h1 (by omega)
    have h4 : 300 * 8 ≤ (n - 1) * z := Nat.mul_le_mul (by omega) h2.1
    change (n - 1) * z < xb.length at h3
    omega)
  have hfd0 := hfd
  clear hz0 hpw hpd hf
  have HL := Lib.hid hl
  have HRX := Lib.hid hr
  clear hl hr
  go_enter Tryd.func16, Tryd.ntmps16
  go_upto_region 1 with fail
  have hx : Ex (fun _ => False) w (w.alloc (.cells #[.int .u32 xtos, .int .u32 xid, .bool false, .bool true, .int .i64 xoff, .int .u32 xttl, .int .u32 xpr, .int .u32 xsrc, .int .u32 xdst, .string (bs xb)] 31)) := (Ex.refl _ w).alloc _
  have hb : (w.alloc (.cells #[.int .u32 xtos, .int .u32 xid, .bool false, .bool true, .int .i64 xoff, .int .u32 xttl, .int .u32 xpr, .int .u32 xsrc, .int .u32 xdst, .string (bs xb)] 31)).heap[w.heap.size]? = some (.cells #[.int .u32 xtos, .int .u32 xid, .bool false, .bool true, .int .i64 xoff, .int .u32 xttl, .int .u32 xpr, .int .u32 xsrc, .int .u32 xdst, .string (bs xb)] 31) := heap_alloc_new w _
  obtain ⟨bp, hbp⟩ : ∃ bp, bp = w.heap.size := ⟨_, rfl⟩
  have hb_bp : w.heap.size ≤ bp := by omega
  rw [← hbp] at hb
  try simp only [← hbp]
  generalize w.alloc (.cells #[.int .u32 xtos, .int .u32 xid, .bool false, .bool true, .int .i64 xoff, .int .u32 xttl, .int .u32 xpr, .int .u32 xsrc, .int .u32 xdst, .string (bs xb)] 31) = w1 at hx hb ⊢
  clear hbp
  have HX_w1 := Lib.hid hx
  clear hx
  have B_bp := Lib.hid hb
  clear hb
  have cbp0 := row_cell (k := 0) (v := .int .u32 xtos) B_bp.out rfl
  have cbp1 := row_cell (k := 1) (v := .int .u32 xid) B_bp.out rfl
  have cbp2 := row_cell (k := 2) (v := .bool false) B_bp.out rfl
  have cbp3 := row_cell (k := 3) (v := .bool true) B_bp.out rfl
  have cbp4 := row_cell (k := 4) (v := .int .i64 xoff) B_bp.out rfl
  have cbp5 := row_cell (k := 5) (v := .int .u32 xttl) B_bp.out rfl
  have cbp6 := row_cell (k := 6) (v := .int .u32 xpr) B_bp.out rfl
  have cbp7 := row_cell (k := 7) (v := .int .u32 xsrc) B_bp.out rfl
  have cbp8 := row_cell (k := 8) (v := .int .u32 xdst) B_bp.out rfl
  have cbp9 := row_cell (k := 9) (v := .string (bs xb)) B_bp.out rfl
  go_wp2_with fail
  refine (rright_any (⟨xtos, xid, false, true, xoff, xttl, xpr, xsrc, xdst, xb⟩) w1 (by have := HL.out; show xb.length ≤ _; omega)).mono ?_
  rintro e w2 ⟨rfl, hx⟩
  rw [HRX.out]
  clear cbp0 cbp1 cbp2 cbp3 cbp4 cbp5 cbp6 cbp7 cbp8 cbp9
  have HX_w2 := Lib.hid hx
  clear hx
  have ht : rtx [lay5] 0 = ⟨#[]⟩ := rfl
  rw [ht]
  have hz := bs_size xb
  have hw20 : wrap64 (20 + (xb.length : Int)) = 20 + (xb.length : Int) := by
    have := HL.out
    unfold wrap64
    omega
  replace B_bp := Lib.hid ((HX_w2.out.block bp (row_lt B_bp.out) id).trans B_bp.out)
  have cbp2 := row_cell (k := 2) (v := .bool false) B_bp.out rfl
  have cbp9 := row_cell (k := 9) (v := .string (bs xb)) B_bp.out rfl
  go_upto_region 11 with fail
  rw [HPW.out]
  go_upto_region 12 with fail
  clear hw20 hfd cbp2 cbp9
  obtain ⟨B, hB⟩ : ∃ B, B = w2.heap.size := ⟨_, rfl⟩
  have hor := OR.lit0 w2 B (Nat.le_of_eq hB) hB
  have hx : Ex (fun _ => False) w2 (w2.alloc (.cells #[] 31)) := (Ex.refl _ w2).alloc _
  rw [← hB]
  generalize w2.alloc (.cells #[] 31) = w3 at hor hx ⊢
  have HOR0 := Lib.hid hor
  have HBE := Lib.hid hB
  clear hor hB
  have HX02 := Lib.hid (HX_w1.out.trans HX_w2.out)
  have HBL := Lib.hid (show bp < B by rw [HBE.out]; exact row_lt B_bp.out)
  have HX_w3 := Lib.hid hx
  clear hx
  replace B_bp := Lib.hid ((HX_w3.out.block bp (row_lt B_bp.out) id).trans B_bp.out)
  have hx0 : Hid (Up B w3 w3) := Ex.refl _ w3
  have HXB := Lib.hid (show 0 < xb.length by have h1 := h; have h2 := of_decide_eq_false hfd0; omega)
  clear hfd0
  go_wp2_with fail
  go_loopg [8, 9, 10] n (fun kx s8 s9 _ wr => ∃ (i a : Nat) (A : Option Addr) (c : Nat), s8 = .slice A i c ∧ s9 = .int .i64 a ∧ i ≤ n ∧ n - i ≤ kx ∧ Hid (a = i * z) ∧ Hid (OR wr B (.slice A i c) ((List.range i).map (pti (⟨xtos, xid, false, true, xoff, xttl, xpr, xsrc, xdst, xb⟩ : Pk) z n))) ∧ Hid (Up B w3 wr))
  case atStart => exact ⟨0, 0, some ⟨B, 0, none⟩, 0, rfl, rfl, Nat.zero_le _, Nat.le_refl _, Lib.hid (Nat.zero_mul z).symm, HOR0, hx0⟩
  case round =>
    clear HOR0 hx0
    obtain ⟨i, a, A, c, rfl, rfl, hin, hkx, HA, HOR, HU⟩ := hrel
    replace B_bp := Lib.hid (box_up B_bp.out HU.out HBL.out)
    have hz := bs_size xb
    by_cases hlt : (a : Int) < (xb.length : Int)
    · obtain ⟨hin2, ee, s, q, mfb, yb, hrl⟩ := rloop HPD.out HRX.out HL.out HA.out hlt
      have HRL := Lib.hid hrl
      have HIN := Lib.hid hin2
      obtain rfl : mfb = true := hrl.mf.symm
      clear hrl hin hin2
      have cbp0 := row_cell (k := 0) (v := .int .u32 xtos) B_bp.out rfl
      have cbp1 := row_cell (k := 1) (v := .int .u32 xid) B_bp.out rfl
      have cbp2 := row_cell (k := 2) (v := .bool false) B_bp.out rfl
      have cbp3 := row_cell (k := 3) (v := .bool true) B_bp.out rfl
      have cbp4 := row_cell (k := 4) (v := .int .i64 xoff) B_bp.out rfl
      have cbp5 := row_cell (k := 5) (v := .int .u32 xttl) B_bp.out rfl
      have cbp6 := row_cell (k := 6) (v := .int .u32 xpr) B_bp.out rfl
      have cbp7 := row_cell (k := 7) (v := .int .u32 xsrc) B_bp.out rfl
      have cbp8 := row_cell (k := 8) (v := .int .u32 xdst) B_bp.out rfl
      have cbp9 := row_cell (k := 9) (v := .string (bs xb)) B_bp.out rfl
      go_upto_region 16 with fail
      clear cbp0 cbp1 cbp2 cbp3 cbp4 cbp5 cbp6 cbp7 cbp8 cbp9
      have HBP0 := Lib.hid (row_lt B_bp.out)
      have hx : Ex (fun _ => False) wr (wr.alloc (.cells #[.int .u32 xtos, .int .u32 xid, .bool false, .bool true, .int .i64 xoff, .int .u32 xttl, .int .u32 xpr, .int .u32 xsrc, .int .u32 xdst, .string (bs xb)] 31)) := (Ex.refl _ wr).alloc _
      have hb : (wr.alloc (.cells #[.int .u32 xtos, .int .u32 xid, .bool false, .bool true, .int .i64 xoff, .int .u32 xttl, .int .u32 xpr, .int .u32 xsrc, .int .u32 xdst, .string (bs xb)] 31)).heap[wr.heap.size]? = some (.cells #[.int .u32 xtos, .int .u32 xid, .bool false, .bool true, .int .i64 xoff, .int .u32 xttl, .int .u32 xpr, .int .u32 xsrc, .int .u32 xdst, .string (bs xb)] 31) := heap_alloc_new wr _
      obtain ⟨xq, hxq⟩ : ∃ xq, xq = wr.heap.size := ⟨_, rfl⟩
      have hb_xq : wr.heap.size ≤ xq := by omega
      rw [← hxq] at hb
      try simp only [← hxq]
      generalize wr.alloc (.cells #[.int .u32 xtos, .int .u32 xid, .bool false, .bool true, .int .i64 xoff, .int .u32 xttl, .int .u32 xpr, .int .u32 xsrc, .int .u32 xdst, .string (bs xb)] 31) = wa at hx hb ⊢
      clear hxq
      have HX_wa := Lib.hid hx
      clear hx
      have B_xq := Lib.hid hb
      clear hb
      have cbp4 := row_cell (k := 4) (v := .int .i64 xoff) ((HX_wa.out.block bp (row_lt B_bp.out) id).trans B_bp.out) rfl
      have cxq4 := row_cell (k := 4) (v := .int .i64 xoff) B_xq.out rfl
      have fxq4 := row_frozen B_xq.out 4
      have hoff : wrap64 (xoff + (a : Int)) = q := HRL.out.off
      go_upto_region 17 with fail
      clear hoff
      have ne_xq_bp : xq ≠ bp := by (have h := HBP0.out; omega)
      have hb : (wa.setCell ⟨xq, 4, none⟩ (.int .i64 q)).heap[xq]? = some (.cells #[.int .u32 xtos, .int .u32 xid, .bool false, .bool true, .int .i64 q, .int .u32 xttl, .int .u32 xpr, .int .u32 xsrc, .int .u32 xdst, .string (bs xb)] 31) := (row_set B_xq.out 4 (.int .i64 q))
      have hx : Ex (fun j => j = xq) wa (wa.setCell ⟨xq, 4, none⟩ (.int .i64 q)) := ((Ex.refl (fun j => j = xq) wa).setCell (p := ⟨xq, 4, none⟩) (.inl rfl) (.int .i64 q))
      clear cbp4 cxq4 fxq4
      generalize (wa.setCell ⟨xq, 4, none⟩ (.int .i64 q)) = wb at hx hb ⊢
      clear B_xq
      have HX_wb := Lib.hid hx
      clear hx
      have B_xq := Lib.hid hb
      clear hb
      replace B_bp := Lib.hid (((HX_wa.out.andThen HX_wb.out (fun i hi e => by have := hb_xq; omega)).block bp (row_lt B_bp.out) id).trans B_bp.out)
      have cbp9 := row_cell (k := 9) (v := .string (bs xb)) B_bp.out rfl
      have cxq9 := row_cell (k := 9) (v := .string (bs xb)) B_xq.out rfl
      have fxq9 := row_frozen B_xq.out 9
      have hadd : wrap64 ((a : Int) + (z : Int)) = (s : Int) := HRL.out.add
      have hmin : min (s : Int) (xb.length : Int) = (ee : Int) := HRL.out.min
      have hcut : (bs xb).extract a ee = bs yb := HRL.out.cut
      have hae := HRL.out.ae
      have hel : ee ≤ xb.length := HRL.out.el
      have hae2 : (a : Int) ≤ (ee : Int) := Int.ofNat_le.2 hae
      have hel2 : (ee : Int) ≤ (xb.length : Int) := Int.ofNat_le.2 hel
      go_upto_region 18 with fail
      clear hmin hcut hae hel hae2 hel2
      have hb : (wb.setCell ⟨xq, 9, none⟩ (.string (bs yb))).heap[xq]? = some (.cells #[.int .u32 xtos, .int .u32 xid, .bool false, .bool true, .int .i64 q, .int .u32 xttl, .int .u32 xpr, .int .u32 xsrc, .int .u32 xdst, .string (bs yb)] 31) := (row_set B_xq.out 9 (.string (bs yb)))
      have hx : Ex (fun j => j = xq) wb (wb.setCell ⟨xq, 9, none⟩ (.string (bs yb))) := ((Ex.refl (fun j => j = xq) wb).setCell (p := ⟨xq, 9, none⟩) (.inl rfl) (.string (bs yb)))
      clear cbp9 cxq9 fxq9
      generalize (wb.setCell ⟨xq, 9, none⟩ (.string (bs yb))) = wc at hx hb ⊢
      clear B_xq
      have HX_wc := Lib.hid hx
      clear hx
      have B_xq := Lib.hid hb
      clear hb
      replace B_bp := Lib.hid ((HX_wc.out.block bp (row_lt B_bp.out) ne_xq_bp.symm).trans B_bp.out)
      have cbp3 := row_cell (k := 3) (v := .bool true) B_bp.out rfl
      have cbp9 := row_cell (k := 9) (v := .string (bs xb)) B_bp.out rfl
      have cxq3 := row_cell (k := 3) (v := .bool true) B_xq.out rfl
      have fxq3 := row_frozen B_xq.out 3
      go_upto_region 19 with fail
      have hb : (wc.setCell ⟨xq, 3, none⟩ (.bool true)).heap[xq]? = some (.cells #[.int .u32 xtos, .int .u32 xid, .bool false, .bool true, .int .i64 q, .int .u32 xttl, .int .u32 xpr, .int .u32 xsrc, .int .u32 xdst, .string (bs yb)] 31) := (row_set B_xq.out 3 (.bool true))
      have hx : Ex (fun j => j = xq) wc (wc.setCell ⟨xq, 3, none⟩ (.bool true)) := ((Ex.refl (fun j => j = xq) wc).setCell (p := ⟨xq, 3, none⟩) (.inl rfl) (.bool true))
      clear cbp3 cbp9 cxq3 fxq3
      generalize (wc.setCell ⟨xq, 3, none⟩ (.bool true)) = wd at hx hb ⊢
      clear B_xq
      have HX_wd := Lib.hid hx
      clear hx
      have B_xq := Lib.hid hb
      clear hb
      have cxq0 := row_cell (k := 0) (v := .int .u32 xtos) B_xq.out rfl
      have cxq1 := row_cell (k := 1) (v := .int .u32 xid) B_xq.out rfl
      have cxq2 := row_cell (k := 2) (v := .bool false) B_xq.out rfl
      have cxq3 := row_cell (k := 3) (v := .bool true) B_xq.out rfl
      have cxq4 := row_cell (k := 4) (v := .int .i64 q) B_xq.out rfl
      have cxq5 := row_cell (k := 5) (v := .int .u32 xttl) B_xq.out rfl
      have cxq6 := row_cell (k := 6) (v := .int .u32 xpr) B_xq.out rfl
      have cxq7 := row_cell (k := 7) (v := .int .u32 xsrc) B_xq.out rfl
      have cxq8 := row_cell (k := 8) (v := .int .u32 xdst) B_xq.out rfl
      have cxq9 := row_cell (k := 9) (v := .string (bs yb)) B_xq.out rfl
      obtain ⟨i1, hj, hy0, hy1, hy2⟩ := info_parts rinfo
      obtain ⟨os, hos⟩ : ∃ os, os = (List.range i).map (pti (⟨xtos, xid, false, true, xoff, xttl, xpr, xsrc, xdst, xb⟩ : Pk) z n) := ⟨_, rfl⟩
      have hol : os.length = i := by rw [hos, List.length_map, List.length_range]
      have HOS := Lib.hid hos
      have HOL := Lib.hid hol
      have hxd : Ex (fun k => k = xq) wr wd := (((HX_wa.out.andThen HX_wb.out (fun i hi e => by have := hb_xq; omega)).andThen HX_wc.out (fun i hi e => by have := hb_xq; omega)).andThen HX_wd.out (fun i hi e => by have := hb_xq; omega)).mono (fun _ _ h => h.elim)
      have HXD : Hid (Ex (fun _ => False) wr wd) := (((HX_wa.out.andThen HX_wb.out (fun i hi e => by have := hb_xq; omega)).andThen HX_wc.out (fun i hi e => by have := hb_xq; omega)).andThen HX_wd.out (fun i hi e => by have := hb_xq; omega))
      have hor : OR wd B (.slice A i c) os := by rw [hos]; exact HOR.out.keep HXD.out (fun _ _ _ _ => id)
      have HORD := Lib.hid hor
      have HLC := Lib.hid (show ∀ k u, (rcl (⟨xtos, xid, false, true, q, xttl, xpr, xsrc, xdst, yb⟩ : Pk))[k]? = some u → (wd.alloc (.cells #[.int .u32 xtos, .int .u32 xid, .bool false, .bool true, .int .i64 q, .int .u32 xttl, .int .u32 xpr, .int .u32 xsrc, .int .u32 xdst, .string (bs yb)] 31)).cell? ⟨wd.heap.size, k, none⟩ = some u from fun k u h => row_cell (heap_alloc_new wd _) (by simpa [rcl] using h))
      have HBASE := Lib.hid (show B ≤ wd.heap.size from Nat.le_trans (Nat.le_trans (Nat.le_of_eq HBE.out) (HX_w3.out.size)) (Nat.le_trans HU.out.size HXD.out.size))
      clear hos hol hxd hor
      go_wp2_with (at_builtin; refine wpList_append_or i1 38 _ 56 Tryd.underlying38 hj hy0 rfl hy1 hy2 (by decide) rfl (.tmp 72) (.tmp 74) rfl B (.slice A i c) os rfl (⟨xtos, xid, false, true, q, xttl, xpr, xsrc, xdst, yb⟩ : Pk) wd.heap.size 1 1 rfl rfl (HORD.out.keep (S := fun _ => False) ((Ex.refl _ wd).alloc _) (fun _ _ _ _ => id)) HLC.out (by have h1 := HOL.out; have h2 := HIN.out; have h3 := HNL.out; omega) (by have := HBASE.out; simp; omega) ?_; intro A7 c7 w7 ho7 hg7 hn7)
      have hlt7 := HORD.out.lt
      have hx7 : Up B wr w7 := ((HXD.out.mono (fun _ _ h => h.elim)).trans (((Ex.refl (fun k => B ≤ k) wd).alloc (.cells #[.int .u32 xtos, .int .u32 xid, .bool false, .bool true, .int .i64 q, .int .u32 xttl, .int .u32 xpr, .int .u32 xsrc, .int .u32 xdst, .string (bs yb)] 31)).grown hg7 (fun k hk => .inl (hlt7 k hk).1)))
      have HX7 : Hid (Up B w3 w7) := HU.out.trans hx7
      have ho8 : OR w7 B (.slice A7 (i + 1) c7) ((List.range (i + 1)).map (pti (⟨xtos, xid, false, true, xoff, xttl, xpr, xsrc, xdst, xb⟩ : Pk) z n)) := by
        rw [List.range_succ, List.map_append, ← HOS.out]
        have h1 := ho7
        rw [HOL.out, show (⟨xtos, xid, false, true, q, xttl, xpr, xsrc, xdst, yb⟩ : Pk) = pti (⟨xtos, xid, false, true, xoff, xttl, xpr, xsrc, xdst, xb⟩ : Pk) z n i from HRL.out.is] at h1
        exact h1
      have HO8 := Lib.hid ho8
      clear hj hy0 hy1 hy2 hg7 hn7 hlt7 hx7 ho7 ho8 cxq0 cxq1 cxq2 cxq3 cxq4 cxq5 cxq6 cxq7 cxq8 cxq9
      rw [HOL.out]
      have hadd : wrap64 ((a : Int) + (z : Int)) = (s : Int) := HRL.out.add
      go_wp2_with fail
      go_roundg (n - (i + 1))
      case measure => exact msrR hkx HIN.out
      case rel => exact ⟨i + 1, s, A7, c7, by first | rfl | (rw [HOL.out]), by first | rfl | (rw [hadd]), HIN.out, Nat.le_refl _, Lib.hid HRL.out.nx, HO8, HX7⟩
    · obtain rfl := rend HPD.out HXB.out HA.out hin hlt
      have cbp9 := row_cell (k := 9) (v := .string (bs xb)) B_bp.out rfl
      clear hin hkx
      go_wp2_with fail
      go_ret2
      refine ⟨A, c, i, rfl, HPD.out.len.symm, ?_, HX02.out.andThen (HX_w3.out.mono (fun _ _ h => h.elim) |>.trans HU.out) (fun k h1 h2 => ?_)⟩
      · have h1 := HOR.out
        rw [← HPD.out.list] at h1
        exact h1.mono (by rw [HBE.out]; exact HX02.out.size)
      · have h3 := HBE.out
        have h4 := HX02.out.size
        omega
set_option maxRecDepth 100000 in
set_option maxHeartbeats 8000000 in
theorem rs_5f (xtos xid xoff xttl xpr xsrc xdst : Int) (xb : List UInt8) (m : Int) (w : World) (hl : xb.length ≤ 2000) (h : ¬ m < 68) (hr : (⟨xtos, xid, false, false, xoff, xttl, xpr, xsrc, xdst, xb⟩ : Pk).right = 0) (hf : ¬ 20 + (xb.length : Int) ≤ m) :
    Calls Tryd.prog 16 #[.agg #[.int .u32 xtos, .int .u32 xid, .bool false, .bool false, .int .i64 xoff, .int .u32 xttl, .int .u32 xpr, .int .u32 xsrc, .int .u32 xdst, .string (bs xb)], .int .i64 m] w fun e w' => ∃ A c n, e = .returned (.tuple #[.slice A n c, .string ⟨#[]⟩]) ∧ n = (parts (⟨xtos, xid, false, false, xoff, xttl, xpr, xsrc, xdst, xb⟩ : Pk) m).length ∧ OR w' w.heap.size (.slice A n c) (parts (⟨xtos, xid, false, false, xoff, xttl, xpr, xsrc, xdst, xb⟩ : Pk) m) ∧ Ex (fun _ => False) w w' := by
  have hpw := (pz_wrap (m := m) (by omega) (by omega)).1
  obtain ⟨n, hpd⟩ := parts_pz (p := (⟨xtos, xid, false, false, xoff, xttl, xpr, xsrc, xdst, xb⟩ : Pk)) (m := m) (by omega) hf (by show xb.length ≤ 4000; omega)
  obtain ⟨z, hz0⟩ : ∃ z, z = pz m := ⟨_, rfl⟩
  rw [← hz0] at hpw hpd
  have HPW := Lib.hid hpw
  have HPD := Lib.hid hpd
  have hfd : decide (20 + (xb.length : Int) ≤ m) = false := decide_eq_false hf
  have HNL := Lib.hid (show n ≤ 300 by
    have h1 := hpd.lt
    have h2 := hpd.zp
    apply Classical.byContradiction
    intro hh
    have h3 := h1 (by omega)
    have h4 : 300 * 8 ≤ (n - 1) * z := Nat.mul_le_mul (by omega) h2.1
    change (n - 1) * z < xb.length at h3
    omega)
  have hfd0 := hfd
  clear hz0 hpw hpd hf
  have HL := Lib.hid hl
  have HRX := Lib.hid hr
  clear hl hr
  go_enter Tryd.func16, Tryd.ntmps16
  go_upto_region 1 with fail
  have hx : Ex (fun _ => False) w (w.alloc (.cells #[.int .u32 xtos, .int .u32 xid, .bool false, .bool false, .int .i64 xoff, .int .u32 xttl, .int .u32 xpr, .int .u32 xsrc, .int .u32 xdst, .string (bs xb)] 31)) := (Ex.refl _ w).alloc _
  have hb : (w.alloc (.cells #[.int .u32 xtos, .int .u32 xid, .bool false, .bool false, .int .i64 xoff, .int .u32 xttl, .int .u32 xpr, .int .u32 xsrc, .int .u32 xdst, .string (bs xb)] 31)).heap[w.heap.size]? = some (.cells #[.int .u32 xtos, .int .u32 xid, .bool false, .bool false, .int .i64 xoff, .int .u32 xttl, .int .u32 xpr, .int .u32 xsrc, .int .u32 xdst, .string (bs xb)] 31) := heap_alloc_new w _
  obtain ⟨bp, hbp⟩ : ∃ bp, bp = w.heap.size := ⟨_, rfl⟩
  have hb_bp : w.heap.size ≤ bp := by omega
  rw [← hbp] at hb
  try simp only [← hbp]
  generalize w.alloc (.cells #[.int .u32 xtos, .int .u32 xid, .bool false, .bool false, .int .i64 xoff, .int .u32 xttl, .int .u32 xpr, .int .u32 xsrc, .int .u32 xdst, .string (bs xb)] 31) = w1 at hx hb ⊢
  clear hbp
  have HX_w1 := Lib.hid hx
  clear hx
  have B_bp := Lib.hid hb
  clear hb
  have cbp0 := row_cell (k := 0) (v := .int .u32 xtos) B_bp.out rfl
  have cbp1 := row_cell (k := 1) (v := .int .u32 xid) B_bp.out rfl
  have cbp2 := row_cell (k := 2) (v := .bool false) B_bp.out rfl
  have cbp3 := row_cell (k := 3) (v := .bool false) B_bp.out rfl
  have cbp4 := row_cell (k := 4) (v := .int .i64 xoff) B_bp.out rfl
  have cbp5 := row_cell (k := 5) (v := .int .u32 xttl) B_bp.out rfl
  have cbp6 := row_cell (k := 6) (v := .int .u32 xpr) B_bp.out rfl
  have cbp7 := row_cell (k := 7) (v := .int .u32 xsrc) B_bp.out rfl
  have cbp8 := row_cell (k := 8) (v := .int .u32 xdst) B_bp.out rfl
  have cbp9 := row_cell (k := 9) (v := .string (bs xb)) B_bp.out rfl
  go_wp2_with fail
  refine (rright_any (⟨xtos, xid, false, false, xoff, xttl, xpr, xsrc, xdst, xb⟩) w1 (by have := HL.out; show xb.length ≤ _; omega)).mono ?_
  rintro e w2 ⟨rfl, hx⟩
  rw [HRX.out]
  clear cbp0 cbp1 cbp2 cbp3 cbp4 cbp5 cbp6 cbp7 cbp8 cbp9
  have HX_w2 := Lib.hid hx
  clear hx
  have ht : rtx [lay5] 0 = ⟨#[]⟩ := rfl
  rw [ht]
  have hz := bs_size xb
  have hw20 : wrap64 (20 + (xb.length : Int)) = 20 + (xb.length : Int) := by
    have := HL.out
    unfold wrap64
    omega
  replace B_bp := Lib.hid ((HX_w2.out.block bp (row_lt B_bp.out) id).trans B_bp.out)
  have cbp2 := row_cell (k := 2) (v := .bool false) B_bp.out rfl
  have cbp9 := row_cell (k := 9) (v := .string (bs xb)) B_bp.out rfl
  go_upto_region 11 with fail
  rw [HPW.out]
  go_upto_region 12 with fail
  clear hw20 hfd cbp2 cbp9
  obtain ⟨B, hB⟩ : ∃ B, B = w2.heap.size := ⟨_, rfl⟩
  have hor := OR.lit0 w2 B (Nat.le_of_eq hB) hB
  have hx : Ex (fun _ => False) w2 (w2.alloc (.cells #[] 31)) := (Ex.refl _ w2).alloc _
  rw [← hB]
  generalize w2.alloc (.cells #[] 31) = w3 at hor hx ⊢
  have HOR0 := Lib.hid hor
  have HBE := Lib.hid hB
  clear hor hB
  have HX02 := Lib.hid (HX_w1.out.trans HX_w2.out)
  have HBL := Lib.hid (show bp < B by rw [HBE.out]; exact row_lt B_bp.out)
  have HX_w3 := Lib.hid hx
  clear hx
  replace B_bp := Lib.hid ((HX_w3.out.block bp (row_lt B_bp.out) id).trans B_bp.out)
  have hx0 : Hid (Up B w3 w3) := Ex.refl _ w3
  have HXB := Lib.hid (show 0 < xb.length by have h1 := h; have h2 := of_decide_eq_false hfd0; omega)
  clear hfd0
  go_wp2_with fail
  go_loopg [8, 9, 10] n (fun kx s8 s9 _ wr => ∃ (i a : Nat) (A : Option Addr) (c : Nat), s8 = .slice A i c ∧ s9 = .int .i64 a ∧ i ≤ n ∧ n - i ≤ kx ∧ Hid (a = i * z) ∧ Hid (OR wr B (.slice A i c) ((List.range i).map (pti (⟨xtos, xid, false, false, xoff, xttl, xpr, xsrc, xdst, xb⟩ : Pk) z n))) ∧ Hid (Up B w3 wr))
  case atStart => exact ⟨0, 0, some ⟨B, 0, none⟩, 0, rfl, rfl, Nat.zero_le _, Nat.le_refl _, Lib.hid (Nat.zero_mul z).symm, HOR0, hx0⟩
  case round =>
    clear HOR0 hx0
    obtain ⟨i, a, A, c, rfl, rfl, hin, hkx, HA, HOR, HU⟩ := hrel
    replace B_bp := Lib.hid (box_up B_bp.out HU.out HBL.out)
    have hz := bs_size xb
    by_cases hlt : (a : Int) < (xb.length : Int)
    · obtain ⟨hin2, ee, s, q, mfb, yb, hrl⟩ := rloop HPD.out HRX.out HL.out HA.out hlt
      have HRL := Lib.hid hrl
      have HIN := Lib.hid hin2
      clear hrl hin hin2
      have cbp0 := row_cell (k := 0) (v := .int .u32 xtos) B_bp.out rfl
      have cbp1 := row_cell (k := 1) (v := .int .u32 xid) B_bp.out rfl
      have cbp2 := row_cell (k := 2) (v := .bool false) B_bp.out rfl
      have cbp3 := row_cell (k := 3) (v := .bool false) B_bp.out rfl
      have cbp4 := row_cell (k := 4) (v := .int .i64 xoff) B_bp.out rfl
      have cbp5 := row_cell (k := 5) (v := .int .u32 xttl) B_bp.out rfl
      have cbp6 := row_cell (k := 6) (v := .int .u32 xpr) B_bp.out rfl
      have cbp7 := row_cell (k := 7) (v := .int .u32 xsrc) B_bp.out rfl
      have cbp8 := row_cell (k := 8) (v := .int .u32 xdst) B_bp.out rfl
      have cbp9 := row_cell (k := 9) (v := .string (bs xb)) B_bp.out rfl
      go_upto_region 16 with fail
      clear cbp0 cbp1 cbp2 cbp3 cbp4 cbp5 cbp6 cbp7 cbp8 cbp9
      have HBP0 := Lib.hid (row_lt B_bp.out)
      have hx : Ex (fun _ => False) wr (wr.alloc (.cells #[.int .u32 xtos, .int .u32 xid, .bool false, .bool false, .int .i64 xoff, .int .u32 xttl, .int .u32 xpr, .int .u32 xsrc, .int .u32 xdst, .string (bs xb)] 31)) := (Ex.refl _ wr).alloc _
      have hb : (wr.alloc (.cells #[.int .u32 xtos, .int .u32 xid, .bool false, .bool false, .int .i64 xoff, .int .u32 xttl, .int .u32 xpr, .int .u32 xsrc, .int .u32 xdst, .string (bs xb)] 31)).heap[wr.heap.size]? = some (.cells #[.int .u32 xtos, .int .u32 xid, .bool false, .bool false, .int .i64 xoff, .int .u32 xttl, .int .u32 xpr, .int .u32 xsrc, .int .u32 xdst, .string (bs xb)] 31) := heap_alloc_new wr _
      obtain ⟨xq, hxq⟩ : ∃ xq, xq = wr.heap.size := ⟨_, rfl⟩
      have hb_xq : wr.heap.size ≤ xq := by omega
      rw [← hxq] at hb
      try simp only [← hxq]
      generalize wr.alloc (.cells #[.int .u32 xtos, .int .u32 xid, .bool false, .bool false, .int .i64 xoff, .int .u32 xttl, .int .u32 xpr, .int .u32 xsrc, .int .u32 xdst, .string (bs xb)] 31) = wa at hx hb ⊢
      clear hxq
      have HX_wa := Lib.hid hx
      clear hx
      have B_xq := Lib.hid hb
      clear hb
      have cbp4 := row_cell (k := 4) (v := .int .i64 xoff) ((HX_wa.out.block bp (row_lt B_bp.out) id).trans B_bp.out) rfl
      have cxq4 := row_cell (k := 4) (v := .int .i64 xoff) B_xq.out rfl
      have fxq4 := row_frozen B_xq.out 4
      have hoff : wrap64 (xoff + (a : Int)) = q := HRL.out.off
      go_upto_region 17 with fail
      clear hoff
      have ne_xq_bp : xq ≠ bp := by (have h := HBP0.out; omega)
      have hb : (wa.setCell ⟨xq, 4, none⟩ (.int .i64 q)).heap[xq]? = some (.cells #[.int .u32 xtos, .int .u32 xid, .bool false, .bool false, .int .i64 q, .int .u32 xttl, .int .u32 xpr, .int .u32 xsrc, .int .u32 xdst, .string (bs xb)] 31) := (row_set B_xq.out 4 (.int .i64 q))
      have hx : Ex (fun j => j = xq) wa (wa.setCell ⟨xq, 4, none⟩ (.int .i64 q)) := ((Ex.refl (fun j => j = xq) wa).setCell (p := ⟨xq, 4, none⟩) (.inl rfl) (.int .i64 q))
      clear cbp4 cxq4 fxq4
      generalize (wa.setCell ⟨xq, 4, none⟩ (.int .i64 q)) = wb at hx hb ⊢
      clear B_xq
      have HX_wb := Lib.hid hx
      clear hx
      have B_xq := Lib.hid hb
      clear hb
      replace B_bp := Lib.hid (((HX_wa.out.andThen HX_wb.out (fun i hi e => by have := hb_xq; omega)).block bp (row_lt B_bp.out) id).trans B_bp.out)
      have cbp9 := row_cell (k := 9) (v := .string (bs xb)) B_bp.out rfl
      have cxq9 := row_cell (k := 9) (v := .string (bs xb)) B_xq.out rfl
      have fxq9 := row_frozen B_xq.out 9
      have hadd : wrap64 ((a : Int) + (z : Int)) = (s : Int) := HRL.out.add
      have hmin : min (s : Int) (xb.length : Int) = (ee : Int) := HRL.out.min
      have hcut : (bs xb).extract a ee = bs yb := HRL.out.cut
      have hae := HRL.out.ae
      have hel : ee ≤ xb.length := HRL.out.el
      have hae2 : (a : Int) ≤ (ee : Int) := Int.ofNat_le.2 hae
      have hel2 : (ee : Int) ≤ (xb.length : Int) := Int.ofNat_le.2 hel
      go_upto_region 18 with fail
      clear hmin hcut hae hel hae2 hel2
      have hb : (wb.setCell ⟨xq, 9, none⟩ (.string (bs yb))).heap[xq]? = some (.cells #[.int .u32 xtos, .int .u32 xid, .bool false, .bool false, .int .i64 q, .int .u32 xttl, .int .u32 xpr, .int .u32 xsrc, .int .u32 xdst, .string (bs yb)] 31) := (row_set B_xq.out 9 (.string (bs yb)))
      have hx : Ex (fun j => j = xq) wb (wb.setCell ⟨xq, 9, none⟩ (.string (bs yb))) := ((Ex.refl (fun j => j = xq) wb).setCell (p := ⟨xq, 9, none⟩) (.inl rfl) (.string (bs yb)))
      clear cbp9 cxq9 fxq9
      generalize (wb.setCell ⟨xq, 9, none⟩ (.string (bs yb))) = wc at hx hb ⊢
      clear B_xq
      have HX_wc := Lib.hid hx
      clear hx
      have B_xq := Lib.hid hb
      clear hb
      replace B_bp := Lib.hid ((HX_wc.out.block bp (row_lt B_bp.out) ne_xq_bp.symm).trans B_bp.out)
      have cbp3 := row_cell (k := 3) (v := .bool false) B_bp.out rfl
      have cbp9 := row_cell (k := 9) (v := .string (bs xb)) B_bp.out rfl
      have cxq3 := row_cell (k := 3) (v := .bool false) B_xq.out rfl
      have fxq3 := row_frozen B_xq.out 3
      have hmf : decide (s < xb.length) = mfb := HRL.out.mf
      go_upto_region 19 with fail
      clear hmf
      have hb : (wc.setCell ⟨xq, 3, none⟩ (.bool mfb)).heap[xq]? = some (.cells #[.int .u32 xtos, .int .u32 xid, .bool false, .bool mfb, .int .i64 q, .int .u32 xttl, .int .u32 xpr, .int .u32 xsrc, .int .u32 xdst, .string (bs yb)] 31) := (row_set B_xq.out 3 (.bool mfb))
      have hx : Ex (fun j => j = xq) wc (wc.setCell ⟨xq, 3, none⟩ (.bool mfb)) := ((Ex.refl (fun j => j = xq) wc).setCell (p := ⟨xq, 3, none⟩) (.inl rfl) (.bool mfb))
      clear cbp3 cbp9 cxq3 fxq3
      generalize (wc.setCell ⟨xq, 3, none⟩ (.bool mfb)) = wd at hx hb ⊢
      clear B_xq
      have HX_wd := Lib.hid hx
      clear hx
      have B_xq := Lib.hid hb
      clear hb
      have cxq0 := row_cell (k := 0) (v := .int .u32 xtos) B_xq.out rfl
      have cxq1 := row_cell (k := 1) (v := .int .u32 xid) B_xq.out rfl
      have cxq2 := row_cell (k := 2) (v := .bool false) B_xq.out rfl
      have cxq3 := row_cell (k := 3) (v := .bool mfb) B_xq.out rfl
      have cxq4 := row_cell (k := 4) (v := .int .i64 q) B_xq.out rfl
      have cxq5 := row_cell (k := 5) (v := .int .u32 xttl) B_xq.out rfl
      have cxq6 := row_cell (k := 6) (v := .int .u32 xpr) B_xq.out rfl
      have cxq7 := row_cell (k := 7) (v := .int .u32 xsrc) B_xq.out rfl
      have cxq8 := row_cell (k := 8) (v := .int .u32 xdst) B_xq.out rfl
      have cxq9 := row_cell (k := 9) (v := .string (bs yb)) B_xq.out rfl
      obtain ⟨i1, hj, hy0, hy1, hy2⟩ := info_parts rinfo
      obtain ⟨os, hos⟩ : ∃ os, os = (List.range i).map (pti (⟨xtos, xid, false, false, xoff, xttl, xpr, xsrc, xdst, xb⟩ : Pk) z n) := ⟨_, rfl⟩
      have hol : os.length = i := by rw [hos, List.length_map, List.length_range]
      have HOS := Lib.hid hos
      have HOL := Lib.hid hol
      have hxd : Ex (fun k => k = xq) wr wd := (((HX_wa.out.andThen HX_wb.out (fun i hi e => by have := hb_xq; omega)).andThen HX_wc.out (fun i hi e => by have := hb_xq; omega)).andThen HX_wd.out (fun i hi e => by have := hb_xq; omega)).mono (fun _ _ h => h.elim)
      have HXD : Hid (Ex (fun _ => False) wr wd) := (((HX_wa.out.andThen HX_wb.out (fun i hi e => by have := hb_xq; omega)).andThen HX_wc.out (fun i hi e => by have := hb_xq; omega)).andThen HX_wd.out (fun i hi e => by have := hb_xq; omega))
      have hor : OR wd B (.slice A i c) os := by rw [hos]; exact HOR.out.keep HXD.out (fun _ _ _ _ => id)
      have HORD := Lib.hid hor
      have HLC := Lib.hid (show ∀ k u, (rcl (⟨xtos, xid, false, mfb, q, xttl, xpr, xsrc, xdst, yb⟩ : Pk))[k]? = some u → (wd.alloc (.cells #[.int .u32 xtos, .int .u32 xid, .bool false, .bool mfb, .int .i64 q, .int .u32 xttl, .int .u32 xpr, .int .u32 xsrc, .int .u32 xdst, .string (bs yb)] 31)).cell? ⟨wd.heap.size, k, none⟩ = some u from fun k u h => row_cell (heap_alloc_new wd _) (by simpa [rcl] using h))
      have HBASE := Lib.hid (show B ≤ wd.heap.size from Nat.le_trans (Nat.le_trans (Nat.le_of_eq HBE.out) (HX_w3.out.size)) (Nat.le_trans HU.out.size HXD.out.size))
      clear hos hol hxd hor
      go_wp2_with (at_builtin; refine wpList_append_or i1 38 _ 56 Tryd.underlying38 hj hy0 rfl hy1 hy2 (by decide) rfl (.tmp 72) (.tmp 74) rfl B (.slice A i c) os rfl (⟨xtos, xid, false, mfb, q, xttl, xpr, xsrc, xdst, yb⟩ : Pk) wd.heap.size 1 1 rfl rfl (HORD.out.keep (S := fun _ => False) ((Ex.refl _ wd).alloc _) (fun _ _ _ _ => id)) HLC.out (by have h1 := HOL.out; have h2 := HIN.out; have h3 := HNL.out; omega) (by have := HBASE.out; simp; omega) ?_; intro A7 c7 w7 ho7 hg7 hn7)
      have hlt7 := HORD.out.lt
      have hx7 : Up B wr w7 := ((HXD.out.mono (fun _ _ h => h.elim)).trans (((Ex.refl (fun k => B ≤ k) wd).alloc (.cells #[.int .u32 xtos, .int .u32 xid, .bool false, .bool mfb, .int .i64 q, .int .u32 xttl, .int .u32 xpr, .int .u32 xsrc, .int .u32 xdst, .string (bs yb)] 31)).grown hg7 (fun k hk => .inl (hlt7 k hk).1)))
      have HX7 : Hid (Up B w3 w7) := HU.out.trans hx7
      have ho8 : OR w7 B (.slice A7 (i + 1) c7) ((List.range (i + 1)).map (pti (⟨xtos, xid, false, false, xoff, xttl, xpr, xsrc, xdst, xb⟩ : Pk) z n)) := by
        rw [List.range_succ, List.map_append, ← HOS.out]
        have h1 := ho7
        rw [HOL.out, show (⟨xtos, xid, false, mfb, q, xttl, xpr, xsrc, xdst, yb⟩ : Pk) = pti (⟨xtos, xid, false, false, xoff, xttl, xpr, xsrc, xdst, xb⟩ : Pk) z n i from HRL.out.is] at h1
        exact h1
      have HO8 := Lib.hid ho8
      clear hj hy0 hy1 hy2 hg7 hn7 hlt7 hx7 ho7 ho8 cxq0 cxq1 cxq2 cxq3 cxq4 cxq5 cxq6 cxq7 cxq8 cxq9
      rw [HOL.out]
      have hadd : wrap64 ((a : Int) + (z : Int)) = (s : Int) := HRL.out.add
      go_wp2_with fail
      go_roundg (n - (i + 1))
      case measure => exact msrR hkx HIN.out
      case rel => exact ⟨i + 1, s, A7, c7, by first | rfl | (rw [HOL.out]), by first | rfl | (rw [hadd]), HIN.out, Nat.le_refl _, Lib.hid HRL.out.nx, HO8, HX7⟩
    · obtain rfl := rend HPD.out HXB.out HA.out hin hlt
      have cbp9 := row_cell (k := 9) (v := .string (bs xb)) B_bp.out rfl
      clear hin hkx
      go_wp2_with fail
      go_ret2
      refine ⟨A, c, i, rfl, HPD.out.len.symm, ?_, HX02.out.andThen (HX_w3.out.mono (fun _ _ h => h.elim) |>.trans HU.out) (fun k h1 h2 => ?_)⟩
      · have h1 := HOR.out
        rw [← HPD.out.list] at h1
        exact h1.mono (by rw [HBE.out]; exact HX02.out.size)
      · have h3 := HBE.out
        have h4 := HX02.out.size
        omega
theorem rsplit_no (p : Pk) (m : Int) (w : World) (hl : p.b.length ≤ 2000) (r : List (List UInt8)) (k : Nat) (h : spe p m = some (r, k)) :
    Calls Tryd.prog 16 #[rpv p, .int .i64 m] w fun e w' => e = .returned (.tuple #[.slice none 0 0, .string (bs (etx r k))]) ∧ Ex (fun _ => False) w w' := by
  obtain ⟨tos, ident, df, mf, off, ttl, pr, src, dst, b⟩ := p
  unfold spe at h
  split at h
  · rename_i h1
    cases h
    rw [tx101]
    exact rs_1 tos ident off ttl pr src dst df mf b m w hl h1
  · rename_i h1
    split at h
    · rename_i h2
      rcases right_17 h2 with e | e
      · rw [e] at h
        cases h
        rw [tx1051]
        exact rs_21 tos ident off ttl pr src dst df mf b m w hl h1 e
      · rw [e] at h
        cases h
        rw [tx1057]
        exact rs_27 tos ident off ttl pr src dst df mf b m w hl h1 e
    · rename_i h2
      split at h
      · cases h
      · rename_i h3
        split at h
        · rename_i h4
          cases h
          simp only at h4
          subst h4
          rw [tx107]
          exact rs_4 tos ident off ttl pr src dst mf b m w hl h1 (Classical.not_not.1 h2) h3
        · cases h
theorem rsplit_yes (p : Pk) (m : Int) (w : World) (hl : p.b.length ≤ 2000) (h : spe p m = none) :
    Calls Tryd.prog 16 #[rpv p, .int .i64 m] w fun e w' => ∃ g c, e = .returned (.tuple #[.slice (some ⟨g, 0, none⟩) (parts p m).length c, .string ⟨#[]⟩]) ∧ OR w' w.heap.size (.slice (some ⟨g, 0, none⟩) (parts p m).length c) (parts p m) ∧ Ex (fun _ => False) w w' := by
  obtain ⟨h68, hr, hf⟩ := spe_none h
  by_cases h3 : 20 + (p.b.length : Int) ≤ m
  · have hp : parts p m = [p] := by unfold parts; rw [if_pos h3]
    rw [hp]
    obtain ⟨tos, ident, df, mf, off, ttl, pr, src, dst, b⟩ := p
    refine (rs_3 tos ident off ttl pr src dst df mf b m w hl (by omega) hr h3).mono ?_
    rintro e w' ⟨g, rfl, ho, hx⟩
    exact ⟨g, 1, rfl, ho, hx⟩
  · have hdf : p.df = false := by
      rcases hf with hf | hf
      · exact absurd hf h3
      · exact hf
    have key : Calls Tryd.prog 16 #[rpv p, .int .i64 m] w fun e w' => ∃ A c n, e = .returned (.tuple #[.slice A n c, .string ⟨#[]⟩]) ∧ n = (parts p m).length ∧ OR w' w.heap.size (.slice A n c) (parts p m) ∧ Ex (fun _ => False) w w' := by
      obtain ⟨tos, ident, df, mf, off, ttl, pr, src, dst, b⟩ := p
      simp only at hdf
      subst hdf
      cases mf with
      | true => exact rs_5t tos ident off ttl pr src dst b m w hl (by omega) hr h3
      | false => exact rs_5f tos ident off ttl pr src dst b m w hl (by omega) hr h3
    refine key.mono ?_
    rintro e w' ⟨A, c, n, rfl, rfl, ho, hx⟩
    obtain ⟨g, c', e1, _⟩ := ho.get (by have := (parts_mono (p := p) (Int.le_refl m) h68).2; exact this)
    injection e1 with e1 _ e2
    subst e1 e2
    exact ⟨g, c, rfl, ho, hx⟩
end Go.Proofs.YtabjihchcmjdmaaDoor
