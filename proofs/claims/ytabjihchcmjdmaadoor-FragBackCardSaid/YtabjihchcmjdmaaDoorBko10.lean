/-
  A row of pieces: how it lies, grows, and is put in another order. By an AI agent.
-/
import Derived.Test.YtabjihchcmjdmaaDoorBkp10
import Derived.Test.YtabjihchcmjdmaaDoorGb10
namespace Go.Proofs.YtabjihchcmjdmaaDoor
open Go.RowKit

theorem put_app (x : Po) (R : List Value) (i k : Nat) (u : Value) : (ocl x ++ R).set ((i + 1) * 10 + k) u = ocl x ++ R.set (i * 10 + k) u := by
  rw [List.set_append_right _ _ (by rw [ocl_len]; omega), ocl_len]
  congr 2
  omega
theorem put_app0 (x : Po) (R : List Value) (i : Nat) (u : Value) : (ocl x ++ R).set ((i + 1) * 10) u = ocl x ++ R.set (i * 10) u := put_app x R i 0 u
/-- a packet's ten cells are written in its row -/
theorem flat10_put (t d f g : Int) (y z : Bool) (o s e : Int) (b : List UInt8) (A : Option Addr) (c : Nat) : ∀ (os : List Po) (i : Nat), i < os.length →
    ((((((((((os.flatMap ocl).set (i * 10) (.int .u8 t)).set (i * 10 + 1) (.int .u16 d)).set (i * 10 + 2) (.bool y)).set (i * 10 + 3) (.bool z)).set (i * 10 + 4) (.int .i64 o)).set (i * 10 + 5) (.int .u8 f)).set (i * 10 + 6) (.int .u8 g)).set (i * 10 + 7) (.int .u32 s)).set (i * 10 + 8) (.int .u32 e)).set (i * 10 + 9) (.slice A b.length c) =
      (os.set i ((⟨t, d, y, z, o, f, g, s, e, b⟩ : Pk), A, c)).flatMap ocl
  | [], i, h' => absurd h' (by simp)
  | x :: r, 0, _ => rfl
  | x :: r, i + 1, h' => by
    rw [List.flatMap_cons, List.set_cons_succ, List.flatMap_cons, ← flat10_put t d f g y z o s e b A c r i (by simpa using h')]
    rw [put_app0, put_app, put_app, put_app, put_app, put_app, put_app, put_app, put_app, put_app]
theorem OP.put10 {w : World} {B gb n cc : Nat} {os : List Po} (H : OP w B (.slice (some ⟨gb, 0, none⟩) n cc) os) {i : Nat} (hi : i < os.length) (t d f g : Int) (y z : Bool) (o s e : Int) (b : List UInt8) (A : Option Addr) (c : Nat) :
    OP ((((((((((w.setCell ⟨gb, i * 10, none⟩ (.int .u8 t)).setCell ⟨gb, i * 10 + 1, none⟩ (.int .u16 d)).setCell ⟨gb, i * 10 + 2, none⟩ (.bool y)).setCell ⟨gb, i * 10 + 3, none⟩ (.bool z)).setCell ⟨gb, i * 10 + 4, none⟩ (.int .i64 o)).setCell ⟨gb, i * 10 + 5, none⟩ (.int .u8 f)).setCell ⟨gb, i * 10 + 6, none⟩ (.int .u8 g)).setCell ⟨gb, i * 10 + 7, none⟩ (.int .u32 s)).setCell ⟨gb, i * 10 + 8, none⟩ (.int .u32 e)).setCell ⟨gb, i * 10 + 9, none⟩ (.slice A b.length c)) B (.slice (some ⟨gb, 0, none⟩) n cc) (os.set i ((⟨t, d, y, z, o, f, g, s, e, b⟩ : Pk), A, c)) := by
  have e2 : n = os.length := by
    obtain ⟨A', c', e1⟩ := H.shape
    injection e1
  subst e2
  have h0 := (World.ownsRow.stored H (i * 10) (.int .u8 t)).1
  have h1 := (World.ownsRow.stored h0 (i * 10 + 1) (.int .u16 d)).1
  have h2 := (World.ownsRow.stored h1 (i * 10 + 2) (.bool y)).1
  have h3 := (World.ownsRow.stored h2 (i * 10 + 3) (.bool z)).1
  have h4 := (World.ownsRow.stored h3 (i * 10 + 4) (.int .i64 o)).1
  have h5 := (World.ownsRow.stored h4 (i * 10 + 5) (.int .u8 f)).1
  have h6 := (World.ownsRow.stored h5 (i * 10 + 6) (.int .u8 g)).1
  have h7 := (World.ownsRow.stored h6 (i * 10 + 7) (.int .u32 s)).1
  have h8 := (World.ownsRow.stored h7 (i * 10 + 8) (.int .u32 e)).1
  have h9 := (World.ownsRow.stored h8 (i * 10 + 9) (.slice A b.length c)).1
  rw [flat10_put t d f g y z o s e b A c os i hi] at h9
  unfold OP
  rw [List.length_set]
  exact h9
theorem ex10 (w : World) (gb i : Nat) (u0 u1 u2 u3 u4 u5 u6 u7 u8 u9 : Value) : Ex (fun k => k = gb) w ((((((((((w.setCell ⟨gb, i * 10, none⟩ u0).setCell ⟨gb, i * 10 + 1, none⟩ u1).setCell ⟨gb, i * 10 + 2, none⟩ u2).setCell ⟨gb, i * 10 + 3, none⟩ u3).setCell ⟨gb, i * 10 + 4, none⟩ u4).setCell ⟨gb, i * 10 + 5, none⟩ u5).setCell ⟨gb, i * 10 + 6, none⟩ u6).setCell ⟨gb, i * 10 + 7, none⟩ u7).setCell ⟨gb, i * 10 + 8, none⟩ u8).setCell ⟨gb, i * 10 + 9, none⟩ u9) :=
  (((((((((((Ex.refl (fun k => k = gb) w).setCell (p := ⟨gb, i * 10, none⟩) (.inl rfl) u0).setCell (p := ⟨gb, i * 10 + 1, none⟩) (.inl rfl) u1).setCell (p := ⟨gb, i * 10 + 2, none⟩) (.inl rfl) u2).setCell (p := ⟨gb, i * 10 + 3, none⟩) (.inl rfl) u3).setCell (p := ⟨gb, i * 10 + 4, none⟩) (.inl rfl) u4).setCell (p := ⟨gb, i * 10 + 5, none⟩) (.inl rfl) u5).setCell (p := ⟨gb, i * 10 + 6, none⟩) (.inl rfl) u6).setCell (p := ⟨gb, i * 10 + 7, none⟩) (.inl rfl) u7).setCell (p := ⟨gb, i * 10 + 8, none⟩) (.inl rfl) u8).setCell (p := ⟨gb, i * 10 + 9, none⟩) (.inl rfl) u9)
/-- a row of packets, and their bytes -/
structure AllR (w : World) (B : Nat) (v : Value) (os : List Po) : Prop where
  op : OP w B v os
  byt : ∀ o ∈ os, OB w B (ov o) o.1.b
theorem AllR.keep {w w' : World} {B : Nat} {v : Value} {os : List Po} (h : AllR w B v os) (hx : Ex (fun _ => False) w w') : AllR w' B v os :=
  ⟨h.op.keep hx (fun _ _ _ _ => id), fun o ho => (h.byt o ho).keep hx (fun _ _ _ _ => id)⟩
theorem AllR.up {w w' : World} {B B' : Nat} {v : Value} {os : List Po} (h : AllR w B v os) (hx : Up B' w w') (hB : w.heap.size ≤ B') : AllR w' B v os :=
  ⟨h.op.up hx hB, fun o ho => (h.byt o ho).up hx hB⟩
theorem AllR.nil (w : World) (B : Nat) : AllR w B (.slice none 0 0) [] := ⟨OP.nil w B, fun _ h => by simp at h⟩
theorem pk_ne {w : World} {B k : Nat} {v v' : Value} {os : List Po} {l : List UInt8} {B' : Nat} (h : OP w B v os) (hk : v.ownBlock = some k) (hb : OB w B' v' l) (hk' : v'.ownBlock = some k) : False := by
  obtain ⟨cur, h1⟩ := ownsRow_isCells h hk
  obtain ⟨cur2, h2⟩ := ownsRow_isCells hb.2 hk'
  rw [h1] at h2
  injection h2 with h2
  injection h2 with _ h2
  exact absurd h2 (by decide)
/-- one row of it is written anew -/
theorem AllR.set {w w' : World} {B g n cc : Nat} {os : List Po} (h : AllR w B (.slice (some ⟨g, 0, none⟩) n cc) os) (hx : Ex (fun k => k = g) w w') {i k : Nat} (hk : k < os.length) (hop : OP w' B (.slice (some ⟨g, 0, none⟩) n cc) (os.set i os[k])) : AllR w' B (.slice (some ⟨g, 0, none⟩) n cc) (os.set i os[k]) := by
  refine ⟨hop, fun o ho => ?_⟩
  have hm : o ∈ os := by
    rcases List.mem_or_eq_of_mem_set ho with h1 | h1
    · exact h1
    · rw [h1]; exact List.getElem_mem hk
  refine (h.byt o hm).keep hx (fun j hj _ _ e => ?_)
  have e : j = g := e
  subst e
  exact pk_ne h.op rfl (h.byt o hm) hj
theorem AllR.of {w w' : World} {B g n cc : Nat} {os os' : List Po} (h : AllR w B (.slice (some ⟨g, 0, none⟩) n cc) os) (hx : Ex (fun k => k = g) w w') (hm : ∀ o ∈ os', o ∈ os) (hop : OP w' B (.slice (some ⟨g, 0, none⟩) n cc) os') : AllR w' B (.slice (some ⟨g, 0, none⟩) n cc) os' := by
  refine ⟨hop, fun o ho => (h.byt o (hm o ho)).keep hx (fun j hj _ _ e => ?_)⟩
  have e : j = g := e
  subst e
  exact pk_ne h.op rfl (h.byt o (hm o ho)) hj
theorem swap_mem {os : List Po} {i k : Nat} (hi : i < os.length) (hk : k < os.length) : ∀ o ∈ (os.set i os[k]).set k os[i], o ∈ os := fun _ ho => (List.set_set_perm hi hk).mem_iff.1 ho
theorem set_at {os : List Po} {i k : Nat} (hk : k < os.length) : (os.set i os[k])[k]'(by rw [List.length_set]; exact hk) = os[k] := by
  rw [List.getElem_set]
  split
  · rfl
  · rfl
theorem OP.cells10 {w : World} {B g n c : Nat} {os : List Po} (h : OP w B (.slice (some ⟨g, 0, none⟩) n c) os) {i : Nat} (hi : i < os.length) {o : Po} (ho : os[i] = o) : ∀ k u, (ocl o)[k]? = some u → w.cell? ⟨g, i * 10 + k, none⟩ = some u := by
  have e2 : n = os.length := by
    obtain ⟨A', c', e1⟩ := h.shape
    injection e1
  subst e2
  rw [← ho]
  exact h.prow i hi
theorem OP.frozenA {w : World} {B g n c : Nat} {os : List Po} (h : OP w B (.slice (some ⟨g, 0, none⟩) n c) os) (j : Nat) : w.frozen? ⟨g, j, none⟩ = false := by
  have e2 : n = os.length := by
    obtain ⟨A', c', e1⟩ := h.shape
    injection e1
  subst e2
  exact World.ownsRow.frozenAt h j
theorem AllR.row {w : World} {B g n cc : Nat} {os : List Po} {p : Pk} (h : AllR w B (.slice (some ⟨g, 0, none⟩) n cc) os) (hP : Pcs p (os.map Prod.fst)) {i : Nat} (hi : i < os.length) :
    ∃ (mf : Bool) (off : Int) (b : List UInt8) (A : Option Addr) (c' : Nat), os[i] = (({ p with off := off, mf := mf, b := b } : Pk), A, c') ∧ b.length ≤ p.b.length ∧ OB w B (.slice A b.length c') b ∧
      ∀ k u, (ocl (({ p with off := off, mf := mf, b := b } : Pk), A, c'))[k]? = some u → w.cell? ⟨g, i * 10 + k, none⟩ = some u := by
  obtain ⟨A', c', e1⟩ := h.op.shape
  injection e1 with _ e2 _
  subst e2
  have hrow := h.op.prow i hi
  have hob := h.byt os[i] (List.getElem_mem hi)
  have hm : os[i].1 ∈ os.map Prod.fst := List.mem_map_of_mem (List.getElem_mem hi)
  obtain ⟨⟨e3, ⟨_, w1, _⟩, _⟩, _⟩ := hP.part _ hm
  generalize os[i] = o at hrow hob e3 w1 ⊢
  obtain ⟨x, A2, c2⟩ := o
  change x = { p with off := x.off, mf := x.mf, b := x.b } at e3
  change x.off.toNat + x.b.length ≤ p.b.length at w1
  refine ⟨x.mf, x.off, x.b, A2, c2, by rw [← e3], by omega, hob, ?_⟩
  rw [← e3]
  exact hrow
theorem AllR.swap {os : List Po} {i k : Nat} (hi : i < os.length) (hk : k < os.length) : ((os.set i os[k]).set k os[i]).map Prod.fst |>.Perm (os.map Prod.fst) := (List.set_set_perm hi hk).map Prod.fst
theorem AllR.frozen {w : World} {B g n cc : Nat} {os : List Po} (h : AllR w B (.slice (some ⟨g, 0, none⟩) n cc) os) (j : Nat) : w.frozen? ⟨g, j, none⟩ = false := by
  obtain ⟨A', c', e1⟩ := h.op.shape
  injection e1 with _ e2 _
  subst e2
  exact World.ownsRow.frozenAt h.op j
/-- append of packets onto packets of the call's own, in the walk. -/
theorem wpList_append_all {Pr : Program} {w : World} {ops : Array Oper} {rest : List Oper} {o : Oper} {a : Act} {Q : Exit → Act → World → Prop} (i : TypeInfo) (t : TypeId) (z : Value) (bytes : Nat)
    (ht : Pr.underlying t = some (.slice 27)) (hi : Pr.info? 27 = some i) (hz : i.zero = some z) (hzs : z.cells.size = 10) (hsize : i.size = 10) (hby : i.bytes = bytes) (hb200 : bytes ≤ 200)
    (hgd : o.guard = none) (s x : Operand) (ho : o.op = .call { callee := .builtin .append, args := #[s, x], argTypes := #[t, t] })
    (B B2 : Nat) (v : Value) (os os2 : List Po) (hs : a.eval s = v) (A2 : Option Addr) (m c2 : Nat) (hx : a.eval x = .slice A2 m c2) (hm : m = os2.length) (n : Nat) (hn : n = os.length)
    (hown : AllR w B v os) (hr : OP w B2 (.slice A2 m c2) os2) (hb2 : ∀ o ∈ os2, OB w B (ov o) o.1.b) (hlen : os.length + os2.length ≤ 300) (hbase : B ≤ w.heap.size)
    (h : ∀ A c w', AllR w' B (.slice A (n + m) c) (os ++ os2) → Ex (fun k => v.ownBlock = some k) w w' → wpList Pr ops Q rest (a.put o.dst (.slice A (n + m) c)) w') :
    wpList Pr ops Q (o :: rest) a w := by
  subst hm hn
  refine wpList_append_row hgd s x t ho B 27 i z 10 bytes ht hi hz hsize hby hzs (by decide) v os.length (os.flatMap ocl) hs hown.op A2 os2.length c2 hx (os2.flatMap ocl) (by rw [flat10_len]) ?_ (fun u hu => ?_) (by simp only [maxLen]; omega) ?_ hbase ?_
  · intro j u hu
    rcases hr.2 with ⟨e, hl⟩ | ⟨g, cap, cur, e, hb, hg, rest⟩
    · have : os2 = [] := List.length_eq_zero_iff.1 hl
      subst this
      simp at hu
    · injection e with e1 _ e3
      subst e1 e3
      exact ⟨_, rfl, World.ownsRow.cells hr (g := g) rfl j u hu⟩
  · obtain ⟨o', _, ho'⟩ := List.mem_flatMap.1 hu
    exact ocl_one o' u ho'
  · have : (os.length + os2.length) * bytes ≤ 300 * 200 := Nat.mul_le_mul hlen hb200
    omega
  · intro v' w' ho' hg _ hb
    have hob : OP w' B v' (os ++ os2) := by
      unfold OP
      rw [List.length_append, List.flatMap_append]
      exact ho'
    have hxx : Ex (fun k => v.ownBlock = some k) w w' := (Ex.refl _ w).grown hg (fun k hk => .inl hk)
    obtain ⟨A', c', rfl⟩ := hob.shape
    rw [List.length_append] at hob hb ⊢
    refine h A' c' w' ⟨hob, fun o'' ho'' => ?_⟩ hxx
    have hw : OB w B (ov o'') o''.1.b := by
      rcases List.mem_append.1 ho'' with h1 | h1
      · exact hown.byt o'' h1
      · exact hb2 o'' h1
    exact hw.keep hxx (fun k hk _ _ e => pk_ne hown.op e hw hk)
end Go.Proofs.YtabjihchcmjdmaaDoor
