/-
  Tick, shown, parts one by one. By an AI agent.
-/
import Derived.Test.YtabjihchcmjdmaaDoorGd10
import Derived.Test.YtabjihchcmjdmaaDoorGg10
import Derived.Test.YtabjihchcmjdmaaDoorGb10
import Derived.Maps.RangeWalk
import Derived.Test.YtabjihchcmjdmaaDoorGa10
/-
  What the walks of law 10 use: worlds where nothing below a block changes; a packet of a hundred noughts, in parts. By an AI agent.
-/
namespace Go.Proofs.YtabjihchcmjdmaaDoor
open Go.RowKit

theorem cell_lt {w : World} {p : Addr} {v : Value} (h : w.cell? p = some v) : p.block < w.heap.size := by
  apply Classical.byContradiction
  intro hn
  have e : w.heap[p.block]? = none := Array.getElem?_eq_none (by omega)
  unfold World.cell? at h
  rw [e] at h
  cases h
/-- nothing below B changes -/
abbrev Up (B : Nat) (w w' : World) : Prop := Ex (fun k => B ≤ k) w w'
theorem ET.up {B : Nat} {w w' : World} (h : ET w) (hx : Up B w w') (hB : w.heap.size ≤ B) : ET w' :=
  h.keep hx (fun e => by have := cell_lt h; simp only at this; omega)
theorem OP.up {B B' : Nat} {v : Value} {os : List Po} {w w' : World} (h : OP w B' v os) (hx : Up B w w') (hB : w.heap.size ≤ B) : OP w' B' v os :=
  h.keep hx (fun k _ hk _ e => by omega)
theorem OBS.up {B B' : Nat} {os : List Po} {w w' : World} (h : OBS w B' os) (hx : Up B w w') (hB : w.heap.size ≤ B) : OBS w' B' os :=
  h.keep hx (fun _ _ k _ hk _ e => by omega)
theorem OB.up {B B' : Nat} {v : Value} {l : List UInt8} {w w' : World} (h : OB w B' v l) (hx : Up B w w') (hB : w.heap.size ≤ B) : OB w' B' v l :=
  h.keep hx (fun k _ hk _ e => by omega)
theorem RB.up {B g : Nat} {v : Value} {l : List UInt8} {w w' : World} (h : RB w (fun k => k = g) v l) (hx : Up B w w') (hg : g < B) : RB w' (fun k => k = g) v l :=
  h.keep hx (fun k _ hk e => by omega)
theorem box_up {B b : Nat} {o : Obj} {w w' : World} (h : w.heap[b]? = some o) (hx : Up B w w') (hB : b < B) : w'.heap[b]? = some o := by
  have hl : b < w.heap.size := by
    apply Classical.byContradiction
    intro hn
    rw [Array.getElem?_eq_none (by omega)] at h
    cases h
  exact (hx.block b hl (fun e => by omega)).trans h
theorem OP.prow {w : World} {B g n c : Nat} {os : List Po} (h : OP w B (.slice (some ⟨g, 0, none⟩) n c) os) : PRow w g os := by
  intro i hi k u hu
  obtain ⟨g', c', e, _, h2⟩ := h.get i hi
  injection e with e _ _
  injection e with e
  injection e with e
  subst e
  exact h2 k u hu
theorem HpOk.gle {w : World} {B : Nat} {h : Hp} (H : HpOk w B h) : B ≤ h.g := (H.2.1.lt h.g rfl).1
theorem more_up {p : Pk} {w : World} {B rb bm : Nat} {tm : Int} {G1 G2 : List Hp} {h0 : Hp} {e : Ending} {w' : World} (h : MorePost p w B rb bm tm G1 G2 h0 e w') (hrs : RS w B rb bm tm (G1 ++ h0 :: G2)) : Up B w w' :=
  h.1.mono (fun k _ hk => by
    have h1 := hrs.lo.2
    have h2 := hrs.hps h0 (List.mem_append_right _ List.mem_cons_self)
    have h3 := h2.2.2.2.2
    have h4 := h2.gle
    rcases hk with e | e | e <;> omega)
theorem any_fst (os : List Po) (f : Pk → Bool) : os.any (fun o => f o.1) = (os.map Prod.fst).any f := by rw [List.any_map]; rfl
theorem fst_mem {os : List Po} {l : List Pk} (h : os.map Prod.fst = l) (Q : Pk → Prop) (hl : ∀ x ∈ l, Q x) : ∀ o ∈ os, Q o.1 := fun o ho => hl _ (by rw [← h]; exact List.mem_map_of_mem ho)
/-- a slice of some bytes lies somewhere -/
theorem OB.some {w : World} {B n c : Nat} {A : Option Addr} {l : List UInt8} (h : OB w B (.slice A n c) l) (hn : 0 < l.length) : A = none → c = 0 := by
  obtain ⟨g, cap, e, _⟩ := h.form hn
  injection e with e _ _
  subst e
  intro h; cases h

def Z100 : List UInt8 := List.replicate 100 0
def sp10 : Pk := ⟨0, 7, false, false, 0, 0, 17, 0, 0, Z100⟩
def sq0 : Pk := ⟨0, 7, false, true, 0, 0, 17, 0, 0, List.replicate 48 0⟩
def sq1 : Pk := ⟨0, 7, false, true, 48, 0, 17, 0, 0, List.replicate 48 0⟩
def sq2 : Pk := ⟨0, 7, false, false, 96, 0, 17, 0, 0, List.replicate 4 0⟩
theorem sp_parts : parts sp10 68 = [sq0, sq1, sq2] := by rfl
theorem sp_ok : sp10.ok := by refine ⟨?_, ?_, ?_, ?_, ?_, ?_, ?_⟩ <;> decide
theorem sq0_ok : sq0.ok := by refine ⟨?_, ?_, ?_, ?_, ?_, ?_, ?_⟩ <;> decide
theorem sq1_ok : sq1.ok := by refine ⟨?_, ?_, ?_, ?_, ?_, ?_, ?_⟩ <;> decide
theorem sq2_ok : sq2.ok := by refine ⟨?_, ?_, ?_, ?_, ?_, ?_, ?_⟩ <;> decide
theorem sq0_right : sq0.right = 0 := by decide +kernel
theorem sq1_right : sq1.right = 0 := by decide +kernel
theorem sq2_right : sq2.right = 0 := by decide +kernel
theorem sp_spe : spe sp10 68 = none := by decide +kernel
theorem sp_67 : spe sp10 67 = some ([lay10], 1) := by decide +kernel
theorem sp_119 : spe { sp10 with df := true } 119 = some ([lay10], 7) := by decide +kernel
theorem kb_12 : kb sq2 = kb sq1 := rfl
theorem kb_02 : kb sq2 = kb sq0 := rfl
theorem sf1 : [sq2].any (fightsB sq1) = false := by decide +kernel
theorem sf0 : [sq2, sq1].any (fightsB sq0) = false := by decide +kernel
theorem part0 : Part sp10 sq0 := ⟨rfl, ⟨by decide, by decide +kernel, by decide +kernel⟩, by decide +kernel⟩
theorem part1 : Part sp10 sq1 := ⟨rfl, ⟨by decide, by decide +kernel, by decide +kernel⟩, by decide +kernel⟩
theorem part2 : Part sp10 sq2 := ⟨rfl, ⟨by decide, by decide +kernel, by decide +kernel⟩, by decide +kernel⟩
theorem sp_whole {os : List Po} (h : os.map Prod.fst = [sq2, sq1, sq0]) {r : Option Pk} (hr : WH os r) : r = some sp10 := by
  have hm : ∀ x, x ∈ [sq2, sq1, sq0] → ∃ o ∈ os, o.1 = x := fun x hx => by
    rw [← h] at hx
    obtain ⟨o, ho, e⟩ := List.mem_map.1 hx
    exact ⟨o, ho, e⟩
  refine whole_all rfl rfl os (fst_mem h _ ?_) (by decide) (fun i hi => ?_) hr
  · intro x hx
    simp only [List.mem_cons, List.not_mem_nil, or_false] at hx
    rcases hx with rfl | rfl | rfl
    · exact part2
    · exact part1
    · exact part0
  · have hi : i < 100 := hi
    by_cases h1 : i < 48
    · obtain ⟨o, ho, e⟩ := hm sq0 (by simp)
      exact ⟨o, ho, by rw [e]; show (0 : Int) ≤ _; omega, by rw [e]; show (i : Int) < 0 + 48; omega⟩
    · by_cases h2 : i < 96
      · obtain ⟨o, ho, e⟩ := hm sq1 (by simp)
        exact ⟨o, ho, by rw [e]; show (48 : Int) ≤ _; omega, by rw [e]; show (i : Int) < 48 + 48; omega⟩
      · obtain ⟨o, ho, e⟩ := hm sq2 (by simp)
        exact ⟨o, ho, by rw [e]; show (96 : Int) ≤ _; omega, by rw [e]; show (i : Int) < 96 + 4; omega⟩
theorem list3 {α β : Type} {f : α → β} {l : List α} {a b c : β} (h : l.map f = [a, b, c]) : ∃ x y z, l = [x, y, z] ∧ f x = a ∧ f y = b ∧ f z = c := by
  match l, h with
  | [x, y, z], h =>
    simp only [List.map_cons, List.map_nil, List.cons.injEq, and_true] at h
    exact ⟨x, y, z, rfl, h.1, h.2.1, h.2.2⟩
end Go.Proofs.YtabjihchcmjdmaaDoor
/-
  The contract of the closure in (*frag.Reass).Tick. By an AI agent.
-/
namespace Go.Proofs.YtabjihchcmjdmaaDoor
open Go.RowKit

/-- a heap is too old -/
def oldB (tm now bg : Int) : Bool := decide (bg ≤ now) && decide (tm ≤ now - bg)
theorem wrap_u64 {a b : Int} (h0 : 0 ≤ b) (h1 : b ≤ a) (h2 : a < 18446744073709551616) : IntKind.u64.wrap (a - b) = a - b := by
  rw [IntKind.wrap_u64]; omega
set_option maxRecDepth 100000 in
set_option maxHeartbeats 4000000 in
theorem tick_c1 (now tm bg k0 k1 k2 k3 : Int) (nb rq rb bm hb : Nat) (sv : Value) (w : World) (hn : w.heap[nb]? = some (.cells #[.int .u64 now] 47)) (hq : w.heap[rq]? = some (.cells #[.pointer (some ⟨rb, 0, none⟩)] 45)) (hr : w.heap[rb]? = some (.cells #[.int .u64 tm, .map (some bm)] 76)) (hh : w.heap[hb]? = some (.cells #[.int .u64 bg, sv] 81)) (h : ¬ bg ≤ now) :
    Calls Tryd.prog 35 #[.agg #[.int .u32 k0, .int .u32 k1, .int .u8 k2, .int .u16 k3], .pointer (some ⟨hb, 0, none⟩), .pointer (some ⟨nb, 0, none⟩), .pointer (some ⟨rq, 0, none⟩)] w fun e w' => e = .returned (.bool false) ∧ Ex (fun _ => False) w w' := by
  have HN := Lib.hid hn
  have HQ := Lib.hid hq
  have HR := Lib.hid hr
  have HH := Lib.hid hh
  clear hn hq hr hh
  go_enter Tryd.func35, Tryd.ntmps35
  go_upto_region 1 with fail
  have hx : Ex (fun _ => False) w (w.alloc (.cells #[.int .u32 k0, .int .u32 k1, .int .u8 k2, .int .u16 k3] 78)) := (Ex.refl _ w).alloc _
  have hb : (w.alloc (.cells #[.int .u32 k0, .int .u32 k1, .int .u8 k2, .int .u16 k3] 78)).heap[w.heap.size]? = some (.cells #[.int .u32 k0, .int .u32 k1, .int .u8 k2, .int .u16 k3] 78) := heap_alloc_new w _
  obtain ⟨kx, hkx⟩ : ∃ kx, kx = w.heap.size := ⟨_, rfl⟩
  have hb_kx : w.heap.size ≤ kx := by omega
  rw [← hkx] at hb
  try simp only [← hkx]
  generalize w.alloc (.cells #[.int .u32 k0, .int .u32 k1, .int .u8 k2, .int .u16 k3] 78) = w1 at hx hb ⊢
  clear hkx
  have HX_w1 := Lib.hid hx
  clear hx
  have B_kx := Lib.hid hb
  clear hb
  have cn := row_cell (k := 0) (v := .int .u64 now) ((HX_w1.out.block nb (row_lt HN.out) id).trans HN.out) rfl
  have cq := row_cell (k := 0) (v := .pointer (some ⟨rb, 0, none⟩)) ((HX_w1.out.block rq (row_lt HQ.out) id).trans HQ.out) rfl
  have cr := row_cell (k := 0) (v := .int .u64 tm) ((HX_w1.out.block rb (row_lt HR.out) id).trans HR.out) rfl
  have ch := row_cell (k := 0) (v := .int .u64 bg) ((HX_w1.out.block hb (row_lt HH.out) id).trans HH.out) rfl
  have hS0 : Ex (fun _ => False) w1 w1.drew := (Ex.refl _ w1).drew
  refine wp_region_held_drew (S := fun W => Ex (fun _ => False) w1 W) (by kernel_rfl) hS0 (fun _ => ?_)
  refine wpAnyH_take (i := 0) (oi := { dst := some 7, op := Go.Op.load 47 (Go.Operand.tmp 2), type := 47, pos := "frag.go:148", after := #[], guard := none }) (v := ?v1) rfl (by kernel_rfl) (by kernel_rfl) (by kernel_rfl) (fun _ _ _ h => h) (Or.inl ⟨by rfl, ?hy1⟩) (by assumption) ?rest1
  case hy1 => (intro w hSw; (try dsimp only at hSw); have ecn := hSw.cell cn id; have ecq := hSw.cell cq id; have ecr := hSw.cell cr id; have ech := hSw.cell ch id; go_simp <;> with_reducible rfl)
  try simp only [Act.put, List.setIfInBounds_toArray, List.set_cons_zero, List.set_cons_succ]
  refine wpAnyH_take (i := 1) (oi := { dst := some 8, op := Go.Op.move (Go.Operand.tmp 1), type := 79, pos := "frag.go:148", after := #[], guard := none }) (v := ?v2) rfl (by kernel_rfl) (by kernel_rfl) (by kernel_rfl) (fun _ _ _ h => h) (Or.inl ⟨by rfl, ?hy2⟩) (by assumption) ?rest2
  case hy2 => (intro w hSw; (try dsimp only at hSw); have ecn := hSw.cell cn id; have ecq := hSw.cell cq id; have ecr := hSw.cell cr id; have ech := hSw.cell ch id; go_simp <;> with_reducible rfl)
  try simp only [Act.put, List.setIfInBounds_toArray, List.set_cons_zero, List.set_cons_succ]
  refine wpAnyH_take (i := 2) (oi := { dst := some 9, op := Go.Op.nilCheck (Go.Operand.tmp 8), type := 0, pos := "frag.go:148", after := #[{ on := 1, ground := Go.Ground.data }], guard := none }) (v := ?v3) rfl (by kernel_rfl) (by kernel_rfl) (by kernel_rfl) (fun _ _ _ h => h) (Or.inl ⟨by rfl, ?hy3⟩) (by assumption) ?rest3
  case hy3 => (intro w hSw; (try dsimp only at hSw); have ecn := hSw.cell cn id; have ecq := hSw.cell cq id; have ecr := hSw.cell cr id; have ech := hSw.cell ch id; go_simp <;> with_reducible rfl)
  try simp only [Act.put, List.setIfInBounds_toArray, List.set_cons_zero, List.set_cons_succ]
  refine wpAnyH_take (i := 3) (oi := { dst := some 10, op := Go.Op.fieldAddr 81 (Go.Operand.tmp 9) 0, type := 0, pos := "frag.go:148", after := #[{ on := 2, ground := Go.Ground.data }], guard := none }) (v := ?v4) rfl (by kernel_rfl) (by kernel_rfl) (by kernel_rfl) (fun _ _ _ h => h) (Or.inl ⟨by rfl, ?hy4⟩) (by assumption) ?rest4
  case hy4 => (intro w hSw; (try dsimp only at hSw); have ecn := hSw.cell cn id; have ecq := hSw.cell cq id; have ecr := hSw.cell cr id; have ech := hSw.cell ch id; go_simp <;> with_reducible rfl)
  try simp only [Act.put, List.setIfInBounds_toArray, List.set_cons_zero, List.set_cons_succ]
  refine wpAnyH_take (i := 4) (oi := { dst := some 11, op := Go.Op.load 47 (Go.Operand.tmp 10), type := 47, pos := "frag.go:148", after := #[{ on := 3, ground := Go.Ground.data }], guard := none }) (v := ?v5) rfl (by kernel_rfl) (by kernel_rfl) (by kernel_rfl) (fun _ _ _ h => h) (Or.inl ⟨by rfl, ?hy5⟩) (by assumption) ?rest5
  case hy5 => (intro w hSw; (try dsimp only at hSw); have ecn := hSw.cell cn id; have ecq := hSw.cell cq id; have ecr := hSw.cell cr id; have ech := hSw.cell ch id; go_simp <;> with_reducible rfl)
  try simp only [Act.put, List.setIfInBounds_toArray, List.set_cons_zero, List.set_cons_succ]
  refine wpAnyH_take (i := 5) (oi := { dst := some 12, op := Go.Op.binOp Go.BinOp.geq 47 (Go.Operand.tmp 7) (Go.Operand.tmp 11) 47, type := 4, pos := "frag.go:148", after := #[{ on := 0, ground := Go.Ground.data }, { on := 4, ground := Go.Ground.data }], guard := none }) (v := ?v6) rfl (by kernel_rfl) (by kernel_rfl) (by kernel_rfl) (fun _ _ _ h => h) (Or.inl ⟨by rfl, ?hy6⟩) (by assumption) ?rest6
  case hy6 => (intro w hSw; (try dsimp only at hSw); have ecn := hSw.cell cn id; have ecq := hSw.cell cq id; have ecr := hSw.cell cr id; have ech := hSw.cell ch id; go_simp <;> with_reducible rfl)
  try simp only [Act.put, List.setIfInBounds_toArray, List.set_cons_zero, List.set_cons_succ]
  refine wpAnyH_take (i := 6) (oi := { dst := some 13, op := Go.Op.move (Go.Operand.tmp 12), type := 4, pos := "frag.go:148", after := #[{ on := 5, ground := Go.Ground.data }], guard := none }) (v := ?v7) rfl (by kernel_rfl) (by kernel_rfl) (by kernel_rfl) (fun _ _ _ h => h) (Or.inl ⟨by rfl, ?hy7⟩) (by assumption) ?rest7
  case hy7 => (intro w hSw; (try dsimp only at hSw); have ecn := hSw.cell cn id; have ecq := hSw.cell cq id; have ecr := hSw.cell cr id; have ech := hSw.cell ch id; go_simp <;> with_reducible rfl)
  try simp only [Act.put, List.setIfInBounds_toArray, List.set_cons_zero, List.set_cons_succ]
  refine wpAnyH_take (i := 7) (oi := { dst := some 14, op := Go.Op.load 47 (Go.Operand.tmp 2), type := 47, pos := "frag.go:148", after := #[{ on := 6, ground := Go.Ground.guard }], guard := some (6, true) }) (v := undef) rfl (by kernel_rfl) (by kernel_rfl) (by kernel_rfl) (fun _ _ _ h => h) (Or.inr ⟨by rfl, rfl⟩) (by assumption) ?rest8
  try simp only [Act.put, List.setIfInBounds_toArray, List.set_cons_zero, List.set_cons_succ]
  refine wpAnyH_take (i := 8) (oi := { dst := some 15, op := Go.Op.move (Go.Operand.tmp 1), type := 79, pos := "frag.go:148", after := #[{ on := 6, ground := Go.Ground.guard }], guard := some (6, true) }) (v := undef) rfl (by kernel_rfl) (by kernel_rfl) (by kernel_rfl) (fun _ _ _ h => h) (Or.inr ⟨by rfl, rfl⟩) (by assumption) ?rest9
  try simp only [Act.put, List.setIfInBounds_toArray, List.set_cons_zero, List.set_cons_succ]
  refine wpAnyH_take (i := 9) (oi := { dst := some 16, op := Go.Op.nilCheck (Go.Operand.tmp 15), type := 0, pos := "frag.go:148", after := #[{ on := 8, ground := Go.Ground.data }, { on := 6, ground := Go.Ground.guard }], guard := some (6, true) }) (v := undef) rfl (by kernel_rfl) (by kernel_rfl) (by kernel_rfl) (fun _ _ _ h => h) (Or.inr ⟨by rfl, rfl⟩) (by assumption) ?rest10
  try simp only [Act.put, List.setIfInBounds_toArray, List.set_cons_zero, List.set_cons_succ]
  refine wpAnyH_take (i := 10) (oi := { dst := some 17, op := Go.Op.fieldAddr 81 (Go.Operand.tmp 16) 0, type := 0, pos := "frag.go:148", after := #[{ on := 9, ground := Go.Ground.data }, { on := 6, ground := Go.Ground.guard }], guard := some (6, true) }) (v := undef) rfl (by kernel_rfl) (by kernel_rfl) (by kernel_rfl) (fun _ _ _ h => h) (Or.inr ⟨by rfl, rfl⟩) (by assumption) ?rest11
  try simp only [Act.put, List.setIfInBounds_toArray, List.set_cons_zero, List.set_cons_succ]
  refine wpAnyH_take (i := 11) (oi := { dst := some 18, op := Go.Op.load 47 (Go.Operand.tmp 17), type := 47, pos := "frag.go:148", after := #[{ on := 10, ground := Go.Ground.data }, { on := 6, ground := Go.Ground.guard }], guard := some (6, true) }) (v := undef) rfl (by kernel_rfl) (by kernel_rfl) (by kernel_rfl) (fun _ _ _ h => h) (Or.inr ⟨by rfl, rfl⟩) (by assumption) ?rest12
  try simp only [Act.put, List.setIfInBounds_toArray, List.set_cons_zero, List.set_cons_succ]
  refine wpAnyH_take (i := 12) (oi := { dst := some 19, op := Go.Op.binOp Go.BinOp.sub 47 (Go.Operand.tmp 14) (Go.Operand.tmp 18) 47, type := 47, pos := "frag.go:148", after := #[{ on := 7, ground := Go.Ground.data }, { on := 11, ground := Go.Ground.data }, { on := 6, ground := Go.Ground.guard }], guard := some (6, true) }) (v := undef) rfl (by kernel_rfl) (by kernel_rfl) (by kernel_rfl) (fun _ _ _ h => h) (Or.inr ⟨by rfl, rfl⟩) (by assumption) ?rest13
  try simp only [Act.put, List.setIfInBounds_toArray, List.set_cons_zero, List.set_cons_succ]
  refine wpAnyH_take (i := 13) (oi := { dst := some 20, op := Go.Op.load 45 (Go.Operand.tmp 3), type := 45, pos := "frag.go:148", after := #[{ on := 6, ground := Go.Ground.guard }], guard := some (6, true) }) (v := undef) rfl (by kernel_rfl) (by kernel_rfl) (by kernel_rfl) (fun _ _ _ h => h) (Or.inr ⟨by rfl, rfl⟩) (by assumption) ?rest14
  try simp only [Act.put, List.setIfInBounds_toArray, List.set_cons_zero, List.set_cons_succ]
  refine wpAnyH_take (i := 14) (oi := { dst := some 21, op := Go.Op.nilCheck (Go.Operand.tmp 20), type := 0, pos := "frag.go:148", after := #[{ on := 13, ground := Go.Ground.data }, { on := 6, ground := Go.Ground.guard }], guard := some (6, true) }) (v := undef) rfl (by kernel_rfl) (by kernel_rfl) (by kernel_rfl) (fun _ _ _ h => h) (Or.inr ⟨by rfl, rfl⟩) (by assumption) ?rest15
  try simp only [Act.put, List.setIfInBounds_toArray, List.set_cons_zero, List.set_cons_succ]
  refine wpAnyH_take (i := 15) (oi := { dst := some 22, op := Go.Op.fieldAddr 76 (Go.Operand.tmp 21) 0, type := 0, pos := "frag.go:148", after := #[{ on := 14, ground := Go.Ground.data }, { on := 6, ground := Go.Ground.guard }], guard := some (6, true) }) (v := undef) rfl (by kernel_rfl) (by kernel_rfl) (by kernel_rfl) (fun _ _ _ h => h) (Or.inr ⟨by rfl, rfl⟩) (by assumption) ?rest16
  try simp only [Act.put, List.setIfInBounds_toArray, List.set_cons_zero, List.set_cons_succ]
  refine wpAnyH_take (i := 16) (oi := { dst := some 23, op := Go.Op.load 47 (Go.Operand.tmp 22), type := 47, pos := "frag.go:148", after := #[{ on := 15, ground := Go.Ground.data }, { on := 6, ground := Go.Ground.guard }], guard := some (6, true) }) (v := undef) rfl (by kernel_rfl) (by kernel_rfl) (by kernel_rfl) (fun _ _ _ h => h) (Or.inr ⟨by rfl, rfl⟩) (by assumption) ?rest17
  try simp only [Act.put, List.setIfInBounds_toArray, List.set_cons_zero, List.set_cons_succ]
  refine wpAnyH_take (i := 17) (oi := { dst := some 24, op := Go.Op.binOp Go.BinOp.geq 47 (Go.Operand.tmp 19) (Go.Operand.tmp 23) 47, type := 4, pos := "frag.go:148", after := #[{ on := 12, ground := Go.Ground.data }, { on := 16, ground := Go.Ground.data }, { on := 6, ground := Go.Ground.guard }], guard := some (6, true) }) (v := undef) rfl (by kernel_rfl) (by kernel_rfl) (by kernel_rfl) (fun _ _ _ h => h) (Or.inr ⟨by rfl, rfl⟩) (by assumption) ?rest18
  try simp only [Act.put, List.setIfInBounds_toArray, List.set_cons_zero, List.set_cons_succ]
  refine wpAnyH_take (i := 18) (oi := { dst := some 25, op := Go.Op.pick (Go.Operand.tmp 13) (Go.Operand.tmp 24) (Go.Operand.const (Go.Value.bool false)), type := 4, pos := "frag.go:148", after := #[{ on := 6, ground := Go.Ground.data }, { on := 17, ground := Go.Ground.data }], guard := none }) (v := ?v19) rfl (by kernel_rfl) (by kernel_rfl) (by kernel_rfl) (fun _ _ _ h => h) (Or.inl ⟨by rfl, ?hy19⟩) (by assumption) ?rest19
  case hy19 => (intro w hSw; (try dsimp only at hSw); have ecn := hSw.cell cn id; have ecq := hSw.cell cq id; have ecr := hSw.cell cr id; have ech := hSw.cell ch id; go_simp <;> with_reducible rfl)
  try simp only [Act.put, List.setIfInBounds_toArray, List.set_cons_zero, List.set_cons_succ]
  refine wpAnyH_take (i := 19) (oi := { dst := some 6, op := Go.Op.assign (Go.Operand.tmp 25), type := 4, pos := "frag.go:148", after := #[{ on := 18, ground := Go.Ground.data }, { on := 6, ground := Go.Ground.chain }, { on := 0, ground := Go.Ground.phase }, { on := 1, ground := Go.Ground.phase }, { on := 2, ground := Go.Ground.phase }, { on := 3, ground := Go.Ground.phase }, { on := 4, ground := Go.Ground.phase }, { on := 5, ground := Go.Ground.phase }, { on := 6, ground := Go.Ground.phase }, { on := 7, ground := Go.Ground.phase }, { on := 8, ground := Go.Ground.phase }, { on := 9, ground := Go.Ground.phase }, { on := 10, ground := Go.Ground.phase }, { on := 11, ground := Go.Ground.phase }, { on := 12, ground := Go.Ground.phase }, { on := 13, ground := Go.Ground.phase }, { on := 14, ground := Go.Ground.phase }, { on := 15, ground := Go.Ground.phase }, { on := 16, ground := Go.Ground.phase }, { on := 17, ground := Go.Ground.phase }, { on := 18, ground := Go.Ground.phase }], guard := none }) (v := ?v20) rfl (by kernel_rfl) (by kernel_rfl) (by kernel_rfl) (fun _ _ _ h => h) (Or.inl ⟨by rfl, ?hy20⟩) (by assumption) ?rest20
  case hy20 => (intro w hSw; (try dsimp only at hSw); have ecn := hSw.cell cn id; have ecq := hSw.cell cq id; have ecr := hSw.cell cr id; have ech := hSw.cell ch id; go_simp <;> with_reducible rfl)
  try simp only [Act.put, List.setIfInBounds_toArray, List.set_cons_zero, List.set_cons_succ]
  refine wpAnyH_done (by kernel_rfl) ?_ _
  go_wp2_with fail
  go_ret
  exact ⟨rfl, HX_w1.out.trans hS0⟩
set_option maxRecDepth 100000 in
set_option maxHeartbeats 4000000 in
theorem tick_c2 (now tm bg k0 k1 k2 k3 : Int) (nb rq rb bm hb : Nat) (sv : Value) (w : World) (hn : w.heap[nb]? = some (.cells #[.int .u64 now] 47)) (hq : w.heap[rq]? = some (.cells #[.pointer (some ⟨rb, 0, none⟩)] 45)) (hr : w.heap[rb]? = some (.cells #[.int .u64 tm, .map (some bm)] 76)) (hh : w.heap[hb]? = some (.cells #[.int .u64 bg, sv] 81)) (h : bg ≤ now) (hw : IntKind.u64.wrap (now - bg) = now - bg) (h2 : tm ≤ now - bg) :
    Calls Tryd.prog 35 #[.agg #[.int .u32 k0, .int .u32 k1, .int .u8 k2, .int .u16 k3], .pointer (some ⟨hb, 0, none⟩), .pointer (some ⟨nb, 0, none⟩), .pointer (some ⟨rq, 0, none⟩)] w fun e w' => e = .returned (.bool true) ∧ Ex (fun _ => False) w w' := by
  have HN := Lib.hid hn
  have HQ := Lib.hid hq
  have HR := Lib.hid hr
  have HH := Lib.hid hh
  clear hn hq hr hh
  go_enter Tryd.func35, Tryd.ntmps35
  go_upto_region 1 with fail
  have hx : Ex (fun _ => False) w (w.alloc (.cells #[.int .u32 k0, .int .u32 k1, .int .u8 k2, .int .u16 k3] 78)) := (Ex.refl _ w).alloc _
  have hb : (w.alloc (.cells #[.int .u32 k0, .int .u32 k1, .int .u8 k2, .int .u16 k3] 78)).heap[w.heap.size]? = some (.cells #[.int .u32 k0, .int .u32 k1, .int .u8 k2, .int .u16 k3] 78) := heap_alloc_new w _
  obtain ⟨kx, hkx⟩ : ∃ kx, kx = w.heap.size := ⟨_, rfl⟩
  have hb_kx : w.heap.size ≤ kx := by omega
  rw [← hkx] at hb
  try simp only [← hkx]
  generalize w.alloc (.cells #[.int .u32 k0, .int .u32 k1, .int .u8 k2, .int .u16 k3] 78) = w1 at hx hb ⊢
  clear hkx
  have HX_w1 := Lib.hid hx
  clear hx
  have B_kx := Lib.hid hb
  clear hb
  have cn := row_cell (k := 0) (v := .int .u64 now) ((HX_w1.out.block nb (row_lt HN.out) id).trans HN.out) rfl
  have cq := row_cell (k := 0) (v := .pointer (some ⟨rb, 0, none⟩)) ((HX_w1.out.block rq (row_lt HQ.out) id).trans HQ.out) rfl
  have cr := row_cell (k := 0) (v := .int .u64 tm) ((HX_w1.out.block rb (row_lt HR.out) id).trans HR.out) rfl
  have ch := row_cell (k := 0) (v := .int .u64 bg) ((HX_w1.out.block hb (row_lt HH.out) id).trans HH.out) rfl
  have hS0 : Ex (fun _ => False) w1 w1.drew := (Ex.refl _ w1).drew
  refine wp_region_held_drew (S := fun W => Ex (fun _ => False) w1 W) (by kernel_rfl) hS0 (fun _ => ?_)
  refine wpAnyH_take (i := 0) (oi := { dst := some 7, op := Go.Op.load 47 (Go.Operand.tmp 2), type := 47, pos := "frag.go:148", after := #[], guard := none }) (v := ?v21) rfl (by kernel_rfl) (by kernel_rfl) (by kernel_rfl) (fun _ _ _ h => h) (Or.inl ⟨by rfl, ?hy21⟩) (by assumption) ?rest21
  case hy21 => (intro w hSw; (try dsimp only at hSw); have ecn := hSw.cell cn id; have ecq := hSw.cell cq id; have ecr := hSw.cell cr id; have ech := hSw.cell ch id; go_simp <;> with_reducible rfl)
  try simp only [Act.put, List.setIfInBounds_toArray, List.set_cons_zero, List.set_cons_succ]
  refine wpAnyH_take (i := 1) (oi := { dst := some 8, op := Go.Op.move (Go.Operand.tmp 1), type := 79, pos := "frag.go:148", after := #[], guard := none }) (v := ?v22) rfl (by kernel_rfl) (by kernel_rfl) (by kernel_rfl) (fun _ _ _ h => h) (Or.inl ⟨by rfl, ?hy22⟩) (by assumption) ?rest22
  case hy22 => (intro w hSw; (try dsimp only at hSw); have ecn := hSw.cell cn id; have ecq := hSw.cell cq id; have ecr := hSw.cell cr id; have ech := hSw.cell ch id; go_simp <;> with_reducible rfl)
  try simp only [Act.put, List.setIfInBounds_toArray, List.set_cons_zero, List.set_cons_succ]
  refine wpAnyH_take (i := 2) (oi := { dst := some 9, op := Go.Op.nilCheck (Go.Operand.tmp 8), type := 0, pos := "frag.go:148", after := #[{ on := 1, ground := Go.Ground.data }], guard := none }) (v := ?v23) rfl (by kernel_rfl) (by kernel_rfl) (by kernel_rfl) (fun _ _ _ h => h) (Or.inl ⟨by rfl, ?hy23⟩) (by assumption) ?rest23
  case hy23 => (intro w hSw; (try dsimp only at hSw); have ecn := hSw.cell cn id; have ecq := hSw.cell cq id; have ecr := hSw.cell cr id; have ech := hSw.cell ch id; go_simp <;> with_reducible rfl)
  try simp only [Act.put, List.setIfInBounds_toArray, List.set_cons_zero, List.set_cons_succ]
  refine wpAnyH_take (i := 3) (oi := { dst := some 10, op := Go.Op.fieldAddr 81 (Go.Operand.tmp 9) 0, type := 0, pos := "frag.go:148", after := #[{ on := 2, ground := Go.Ground.data }], guard := none }) (v := ?v24) rfl (by kernel_rfl) (by kernel_rfl) (by kernel_rfl) (fun _ _ _ h => h) (Or.inl ⟨by rfl, ?hy24⟩) (by assumption) ?rest24
  case hy24 => (intro w hSw; (try dsimp only at hSw); have ecn := hSw.cell cn id; have ecq := hSw.cell cq id; have ecr := hSw.cell cr id; have ech := hSw.cell ch id; go_simp <;> with_reducible rfl)
  try simp only [Act.put, List.setIfInBounds_toArray, List.set_cons_zero, List.set_cons_succ]
  refine wpAnyH_take (i := 4) (oi := { dst := some 11, op := Go.Op.load 47 (Go.Operand.tmp 10), type := 47, pos := "frag.go:148", after := #[{ on := 3, ground := Go.Ground.data }], guard := none }) (v := ?v25) rfl (by kernel_rfl) (by kernel_rfl) (by kernel_rfl) (fun _ _ _ h => h) (Or.inl ⟨by rfl, ?hy25⟩) (by assumption) ?rest25
  case hy25 => (intro w hSw; (try dsimp only at hSw); have ecn := hSw.cell cn id; have ecq := hSw.cell cq id; have ecr := hSw.cell cr id; have ech := hSw.cell ch id; go_simp <;> with_reducible rfl)
  try simp only [Act.put, List.setIfInBounds_toArray, List.set_cons_zero, List.set_cons_succ]
  refine wpAnyH_take (i := 5) (oi := { dst := some 12, op := Go.Op.binOp Go.BinOp.geq 47 (Go.Operand.tmp 7) (Go.Operand.tmp 11) 47, type := 4, pos := "frag.go:148", after := #[{ on := 0, ground := Go.Ground.data }, { on := 4, ground := Go.Ground.data }], guard := none }) (v := ?v26) rfl (by kernel_rfl) (by kernel_rfl) (by kernel_rfl) (fun _ _ _ h => h) (Or.inl ⟨by rfl, ?hy26⟩) (by assumption) ?rest26
  case hy26 => (intro w hSw; (try dsimp only at hSw); have ecn := hSw.cell cn id; have ecq := hSw.cell cq id; have ecr := hSw.cell cr id; have ech := hSw.cell ch id; go_simp <;> with_reducible rfl)
  try simp only [Act.put, List.setIfInBounds_toArray, List.set_cons_zero, List.set_cons_succ]
  refine wpAnyH_take (i := 6) (oi := { dst := some 13, op := Go.Op.move (Go.Operand.tmp 12), type := 4, pos := "frag.go:148", after := #[{ on := 5, ground := Go.Ground.data }], guard := none }) (v := ?v27) rfl (by kernel_rfl) (by kernel_rfl) (by kernel_rfl) (fun _ _ _ h => h) (Or.inl ⟨by rfl, ?hy27⟩) (by assumption) ?rest27
  case hy27 => (intro w hSw; (try dsimp only at hSw); have ecn := hSw.cell cn id; have ecq := hSw.cell cq id; have ecr := hSw.cell cr id; have ech := hSw.cell ch id; go_simp <;> with_reducible rfl)
  try simp only [Act.put, List.setIfInBounds_toArray, List.set_cons_zero, List.set_cons_succ]
  refine wpAnyH_take (i := 7) (oi := { dst := some 14, op := Go.Op.load 47 (Go.Operand.tmp 2), type := 47, pos := "frag.go:148", after := #[{ on := 6, ground := Go.Ground.guard }], guard := some (6, true) }) (v := ?v28) rfl (by kernel_rfl) (by kernel_rfl) (by kernel_rfl) (fun _ _ _ h => h) (Or.inl ⟨by rfl, ?hy28⟩) (by assumption) ?rest28
  case hy28 => (intro w hSw; (try dsimp only at hSw); have ecn := hSw.cell cn id; have ecq := hSw.cell cq id; have ecr := hSw.cell cr id; have ech := hSw.cell ch id; go_simp <;> with_reducible rfl)
  try simp only [Act.put, List.setIfInBounds_toArray, List.set_cons_zero, List.set_cons_succ]
  refine wpAnyH_take (i := 8) (oi := { dst := some 15, op := Go.Op.move (Go.Operand.tmp 1), type := 79, pos := "frag.go:148", after := #[{ on := 6, ground := Go.Ground.guard }], guard := some (6, true) }) (v := ?v29) rfl (by kernel_rfl) (by kernel_rfl) (by kernel_rfl) (fun _ _ _ h => h) (Or.inl ⟨by rfl, ?hy29⟩) (by assumption) ?rest29
  case hy29 => (intro w hSw; (try dsimp only at hSw); have ecn := hSw.cell cn id; have ecq := hSw.cell cq id; have ecr := hSw.cell cr id; have ech := hSw.cell ch id; go_simp <;> with_reducible rfl)
  try simp only [Act.put, List.setIfInBounds_toArray, List.set_cons_zero, List.set_cons_succ]
  refine wpAnyH_take (i := 9) (oi := { dst := some 16, op := Go.Op.nilCheck (Go.Operand.tmp 15), type := 0, pos := "frag.go:148", after := #[{ on := 8, ground := Go.Ground.data }, { on := 6, ground := Go.Ground.guard }], guard := some (6, true) }) (v := ?v30) rfl (by kernel_rfl) (by kernel_rfl) (by kernel_rfl) (fun _ _ _ h => h) (Or.inl ⟨by rfl, ?hy30⟩) (by assumption) ?rest30
  case hy30 => (intro w hSw; (try dsimp only at hSw); have ecn := hSw.cell cn id; have ecq := hSw.cell cq id; have ecr := hSw.cell cr id; have ech := hSw.cell ch id; go_simp <;> with_reducible rfl)
  try simp only [Act.put, List.setIfInBounds_toArray, List.set_cons_zero, List.set_cons_succ]
  refine wpAnyH_take (i := 10) (oi := { dst := some 17, op := Go.Op.fieldAddr 81 (Go.Operand.tmp 16) 0, type := 0, pos := "frag.go:148", after := #[{ on := 9, ground := Go.Ground.data }, { on := 6, ground := Go.Ground.guard }], guard := some (6, true) }) (v := ?v31) rfl (by kernel_rfl) (by kernel_rfl) (by kernel_rfl) (fun _ _ _ h => h) (Or.inl ⟨by rfl, ?hy31⟩) (by assumption) ?rest31
  case hy31 => (intro w hSw; (try dsimp only at hSw); have ecn := hSw.cell cn id; have ecq := hSw.cell cq id; have ecr := hSw.cell cr id; have ech := hSw.cell ch id; go_simp <;> with_reducible rfl)
  try simp only [Act.put, List.setIfInBounds_toArray, List.set_cons_zero, List.set_cons_succ]
  refine wpAnyH_take (i := 11) (oi := { dst := some 18, op := Go.Op.load 47 (Go.Operand.tmp 17), type := 47, pos := "frag.go:148", after := #[{ on := 10, ground := Go.Ground.data }, { on := 6, ground := Go.Ground.guard }], guard := some (6, true) }) (v := ?v32) rfl (by kernel_rfl) (by kernel_rfl) (by kernel_rfl) (fun _ _ _ h => h) (Or.inl ⟨by rfl, ?hy32⟩) (by assumption) ?rest32
  case hy32 => (intro w hSw; (try dsimp only at hSw); have ecn := hSw.cell cn id; have ecq := hSw.cell cq id; have ecr := hSw.cell cr id; have ech := hSw.cell ch id; go_simp <;> with_reducible rfl)
  try simp only [Act.put, List.setIfInBounds_toArray, List.set_cons_zero, List.set_cons_succ]
  refine wpAnyH_take (i := 12) (oi := { dst := some 19, op := Go.Op.binOp Go.BinOp.sub 47 (Go.Operand.tmp 14) (Go.Operand.tmp 18) 47, type := 47, pos := "frag.go:148", after := #[{ on := 7, ground := Go.Ground.data }, { on := 11, ground := Go.Ground.data }, { on := 6, ground := Go.Ground.guard }], guard := some (6, true) }) (v := ?v33) rfl (by kernel_rfl) (by kernel_rfl) (by kernel_rfl) (fun _ _ _ h => h) (Or.inl ⟨by rfl, ?hy33⟩) (by assumption) ?rest33
  case hy33 => (intro w hSw; (try dsimp only at hSw); have ecn := hSw.cell cn id; have ecq := hSw.cell cq id; have ecr := hSw.cell cr id; have ech := hSw.cell ch id; go_simp <;> with_reducible rfl)
  try simp only [Act.put, List.setIfInBounds_toArray, List.set_cons_zero, List.set_cons_succ]
  refine wpAnyH_take (i := 13) (oi := { dst := some 20, op := Go.Op.load 45 (Go.Operand.tmp 3), type := 45, pos := "frag.go:148", after := #[{ on := 6, ground := Go.Ground.guard }], guard := some (6, true) }) (v := ?v34) rfl (by kernel_rfl) (by kernel_rfl) (by kernel_rfl) (fun _ _ _ h => h) (Or.inl ⟨by rfl, ?hy34⟩) (by assumption) ?rest34
  case hy34 => (intro w hSw; (try dsimp only at hSw); have ecn := hSw.cell cn id; have ecq := hSw.cell cq id; have ecr := hSw.cell cr id; have ech := hSw.cell ch id; go_simp <;> with_reducible rfl)
  try simp only [Act.put, List.setIfInBounds_toArray, List.set_cons_zero, List.set_cons_succ]
  refine wpAnyH_take (i := 14) (oi := { dst := some 21, op := Go.Op.nilCheck (Go.Operand.tmp 20), type := 0, pos := "frag.go:148", after := #[{ on := 13, ground := Go.Ground.data }, { on := 6, ground := Go.Ground.guard }], guard := some (6, true) }) (v := ?v35) rfl (by kernel_rfl) (by kernel_rfl) (by kernel_rfl) (fun _ _ _ h => h) (Or.inl ⟨by rfl, ?hy35⟩) (by assumption) ?rest35
  case hy35 => (intro w hSw; (try dsimp only at hSw); have ecn := hSw.cell cn id; have ecq := hSw.cell cq id; have ecr := hSw.cell cr id; have ech := hSw.cell ch id; go_simp <;> with_reducible rfl)
  try simp only [Act.put, List.setIfInBounds_toArray, List.set_cons_zero, List.set_cons_succ]
  refine wpAnyH_take (i := 15) (oi := { dst := some 22, op := Go.Op.fieldAddr 76 (Go.Operand.tmp 21) 0, type := 0, pos := "frag.go:148", after := #[{ on := 14, ground := Go.Ground.data }, { on := 6, ground := Go.Ground.guard }], guard := some (6, true) }) (v := ?v36) rfl (by kernel_rfl) (by kernel_rfl) (by kernel_rfl) (fun _ _ _ h => h) (Or.inl ⟨by rfl, ?hy36⟩) (by assumption) ?rest36
  case hy36 => (intro w hSw; (try dsimp only at hSw); have ecn := hSw.cell cn id; have ecq := hSw.cell cq id; have ecr := hSw.cell cr id; have ech := hSw.cell ch id; go_simp <;> with_reducible rfl)
  try simp only [Act.put, List.setIfInBounds_toArray, List.set_cons_zero, List.set_cons_succ]
  refine wpAnyH_take (i := 16) (oi := { dst := some 23, op := Go.Op.load 47 (Go.Operand.tmp 22), type := 47, pos := "frag.go:148", after := #[{ on := 15, ground := Go.Ground.data }, { on := 6, ground := Go.Ground.guard }], guard := some (6, true) }) (v := ?v37) rfl (by kernel_rfl) (by kernel_rfl) (by kernel_rfl) (fun _ _ _ h => h) (Or.inl ⟨by rfl, ?hy37⟩) (by assumption) ?rest37
  case hy37 => (intro w hSw; (try dsimp only at hSw); have ecn := hSw.cell cn id; have ecq := hSw.cell cq id; have ecr := hSw.cell cr id; have ech := hSw.cell ch id; go_simp <;> with_reducible rfl)
  try simp only [Act.put, List.setIfInBounds_toArray, List.set_cons_zero, List.set_cons_succ]
  refine wpAnyH_take (i := 17) (oi := { dst := some 24, op := Go.Op.binOp Go.BinOp.geq 47 (Go.Operand.tmp 19) (Go.Operand.tmp 23) 47, type := 4, pos := "frag.go:148", after := #[{ on := 12, ground := Go.Ground.data }, { on := 16, ground := Go.Ground.data }, { on := 6, ground := Go.Ground.guard }], guard := some (6, true) }) (v := ?v38) rfl (by kernel_rfl) (by kernel_rfl) (by kernel_rfl) (fun _ _ _ h => h) (Or.inl ⟨by rfl, ?hy38⟩) (by assumption) ?rest38
  case hy38 => (intro w hSw; (try dsimp only at hSw); have ecn := hSw.cell cn id; have ecq := hSw.cell cq id; have ecr := hSw.cell cr id; have ech := hSw.cell ch id; go_simp <;> with_reducible rfl)
  try simp only [Act.put, List.setIfInBounds_toArray, List.set_cons_zero, List.set_cons_succ]
  refine wpAnyH_take (i := 18) (oi := { dst := some 25, op := Go.Op.pick (Go.Operand.tmp 13) (Go.Operand.tmp 24) (Go.Operand.const (Go.Value.bool false)), type := 4, pos := "frag.go:148", after := #[{ on := 6, ground := Go.Ground.data }, { on := 17, ground := Go.Ground.data }], guard := none }) (v := ?v39) rfl (by kernel_rfl) (by kernel_rfl) (by kernel_rfl) (fun _ _ _ h => h) (Or.inl ⟨by rfl, ?hy39⟩) (by assumption) ?rest39
  case hy39 => (intro w hSw; (try dsimp only at hSw); have ecn := hSw.cell cn id; have ecq := hSw.cell cq id; have ecr := hSw.cell cr id; have ech := hSw.cell ch id; go_simp <;> with_reducible rfl)
  try simp only [Act.put, List.setIfInBounds_toArray, List.set_cons_zero, List.set_cons_succ]
  refine wpAnyH_take (i := 19) (oi := { dst := some 6, op := Go.Op.assign (Go.Operand.tmp 25), type := 4, pos := "frag.go:148", after := #[{ on := 18, ground := Go.Ground.data }, { on := 6, ground := Go.Ground.chain }, { on := 0, ground := Go.Ground.phase }, { on := 1, ground := Go.Ground.phase }, { on := 2, ground := Go.Ground.phase }, { on := 3, ground := Go.Ground.phase }, { on := 4, ground := Go.Ground.phase }, { on := 5, ground := Go.Ground.phase }, { on := 6, ground := Go.Ground.phase }, { on := 7, ground := Go.Ground.phase }, { on := 8, ground := Go.Ground.phase }, { on := 9, ground := Go.Ground.phase }, { on := 10, ground := Go.Ground.phase }, { on := 11, ground := Go.Ground.phase }, { on := 12, ground := Go.Ground.phase }, { on := 13, ground := Go.Ground.phase }, { on := 14, ground := Go.Ground.phase }, { on := 15, ground := Go.Ground.phase }, { on := 16, ground := Go.Ground.phase }, { on := 17, ground := Go.Ground.phase }, { on := 18, ground := Go.Ground.phase }], guard := none }) (v := ?v40) rfl (by kernel_rfl) (by kernel_rfl) (by kernel_rfl) (fun _ _ _ h => h) (Or.inl ⟨by rfl, ?hy40⟩) (by assumption) ?rest40
  case hy40 => (intro w hSw; (try dsimp only at hSw); have ecn := hSw.cell cn id; have ecq := hSw.cell cq id; have ecr := hSw.cell cr id; have ech := hSw.cell ch id; go_simp <;> with_reducible rfl)
  try simp only [Act.put, List.setIfInBounds_toArray, List.set_cons_zero, List.set_cons_succ]
  refine wpAnyH_done (by kernel_rfl) ?_ _
  go_wp2_with fail
  go_ret
  exact ⟨rfl, HX_w1.out.trans hS0⟩
set_option maxRecDepth 100000 in
set_option maxHeartbeats 4000000 in
theorem tick_c3 (now tm bg k0 k1 k2 k3 : Int) (nb rq rb bm hb : Nat) (sv : Value) (w : World) (hn : w.heap[nb]? = some (.cells #[.int .u64 now] 47)) (hq : w.heap[rq]? = some (.cells #[.pointer (some ⟨rb, 0, none⟩)] 45)) (hr : w.heap[rb]? = some (.cells #[.int .u64 tm, .map (some bm)] 76)) (hh : w.heap[hb]? = some (.cells #[.int .u64 bg, sv] 81)) (h : bg ≤ now) (hw : IntKind.u64.wrap (now - bg) = now - bg) (h2 : ¬ tm ≤ now - bg) :
    Calls Tryd.prog 35 #[.agg #[.int .u32 k0, .int .u32 k1, .int .u8 k2, .int .u16 k3], .pointer (some ⟨hb, 0, none⟩), .pointer (some ⟨nb, 0, none⟩), .pointer (some ⟨rq, 0, none⟩)] w fun e w' => e = .returned (.bool false) ∧ Ex (fun _ => False) w w' := by
  have HN := Lib.hid hn
  have HQ := Lib.hid hq
  have HR := Lib.hid hr
  have HH := Lib.hid hh
  clear hn hq hr hh
  go_enter Tryd.func35, Tryd.ntmps35
  go_upto_region 1 with fail
  have hx : Ex (fun _ => False) w (w.alloc (.cells #[.int .u32 k0, .int .u32 k1, .int .u8 k2, .int .u16 k3] 78)) := (Ex.refl _ w).alloc _
  have hb : (w.alloc (.cells #[.int .u32 k0, .int .u32 k1, .int .u8 k2, .int .u16 k3] 78)).heap[w.heap.size]? = some (.cells #[.int .u32 k0, .int .u32 k1, .int .u8 k2, .int .u16 k3] 78) := heap_alloc_new w _
  obtain ⟨kx, hkx⟩ : ∃ kx, kx = w.heap.size := ⟨_, rfl⟩
  have hb_kx : w.heap.size ≤ kx := by omega
  rw [← hkx] at hb
  try simp only [← hkx]
  generalize w.alloc (.cells #[.int .u32 k0, .int .u32 k1, .int .u8 k2, .int .u16 k3] 78) = w1 at hx hb ⊢
  clear hkx
  have HX_w1 := Lib.hid hx
  clear hx
  have B_kx := Lib.hid hb
  clear hb
  have cn := row_cell (k := 0) (v := .int .u64 now) ((HX_w1.out.block nb (row_lt HN.out) id).trans HN.out) rfl
  have cq := row_cell (k := 0) (v := .pointer (some ⟨rb, 0, none⟩)) ((HX_w1.out.block rq (row_lt HQ.out) id).trans HQ.out) rfl
  have cr := row_cell (k := 0) (v := .int .u64 tm) ((HX_w1.out.block rb (row_lt HR.out) id).trans HR.out) rfl
  have ch := row_cell (k := 0) (v := .int .u64 bg) ((HX_w1.out.block hb (row_lt HH.out) id).trans HH.out) rfl
  have hS0 : Ex (fun _ => False) w1 w1.drew := (Ex.refl _ w1).drew
  refine wp_region_held_drew (S := fun W => Ex (fun _ => False) w1 W) (by kernel_rfl) hS0 (fun _ => ?_)
  refine wpAnyH_take (i := 0) (oi := { dst := some 7, op := Go.Op.load 47 (Go.Operand.tmp 2), type := 47, pos := "frag.go:148", after := #[], guard := none }) (v := ?v41) rfl (by kernel_rfl) (by kernel_rfl) (by kernel_rfl) (fun _ _ _ h => h) (Or.inl ⟨by rfl, ?hy41⟩) (by assumption) ?rest41
  case hy41 => (intro w hSw; (try dsimp only at hSw); have ecn := hSw.cell cn id; have ecq := hSw.cell cq id; have ecr := hSw.cell cr id; have ech := hSw.cell ch id; go_simp <;> with_reducible rfl)
  try simp only [Act.put, List.setIfInBounds_toArray, List.set_cons_zero, List.set_cons_succ]
  refine wpAnyH_take (i := 1) (oi := { dst := some 8, op := Go.Op.move (Go.Operand.tmp 1), type := 79, pos := "frag.go:148", after := #[], guard := none }) (v := ?v42) rfl (by kernel_rfl) (by kernel_rfl) (by kernel_rfl) (fun _ _ _ h => h) (Or.inl ⟨by rfl, ?hy42⟩) (by assumption) ?rest42
  case hy42 => (intro w hSw; (try dsimp only at hSw); have ecn := hSw.cell cn id; have ecq := hSw.cell cq id; have ecr := hSw.cell cr id; have ech := hSw.cell ch id; go_simp <;> with_reducible rfl)
  try simp only [Act.put, List.setIfInBounds_toArray, List.set_cons_zero, List.set_cons_succ]
  refine wpAnyH_take (i := 2) (oi := { dst := some 9, op := Go.Op.nilCheck (Go.Operand.tmp 8), type := 0, pos := "frag.go:148", after := #[{ on := 1, ground := Go.Ground.data }], guard := none }) (v := ?v43) rfl (by kernel_rfl) (by kernel_rfl) (by kernel_rfl) (fun _ _ _ h => h) (Or.inl ⟨by rfl, ?hy43⟩) (by assumption) ?rest43
  case hy43 => (intro w hSw; (try dsimp only at hSw); have ecn := hSw.cell cn id; have ecq := hSw.cell cq id; have ecr := hSw.cell cr id; have ech := hSw.cell ch id; go_simp <;> with_reducible rfl)
  try simp only [Act.put, List.setIfInBounds_toArray, List.set_cons_zero, List.set_cons_succ]
  refine wpAnyH_take (i := 3) (oi := { dst := some 10, op := Go.Op.fieldAddr 81 (Go.Operand.tmp 9) 0, type := 0, pos := "frag.go:148", after := #[{ on := 2, ground := Go.Ground.data }], guard := none }) (v := ?v44) rfl (by kernel_rfl) (by kernel_rfl) (by kernel_rfl) (fun _ _ _ h => h) (Or.inl ⟨by rfl, ?hy44⟩) (by assumption) ?rest44
  case hy44 => (intro w hSw; (try dsimp only at hSw); have ecn := hSw.cell cn id; have ecq := hSw.cell cq id; have ecr := hSw.cell cr id; have ech := hSw.cell ch id; go_simp <;> with_reducible rfl)
  try simp only [Act.put, List.setIfInBounds_toArray, List.set_cons_zero, List.set_cons_succ]
  refine wpAnyH_take (i := 4) (oi := { dst := some 11, op := Go.Op.load 47 (Go.Operand.tmp 10), type := 47, pos := "frag.go:148", after := #[{ on := 3, ground := Go.Ground.data }], guard := none }) (v := ?v45) rfl (by kernel_rfl) (by kernel_rfl) (by kernel_rfl) (fun _ _ _ h => h) (Or.inl ⟨by rfl, ?hy45⟩) (by assumption) ?rest45
  case hy45 => (intro w hSw; (try dsimp only at hSw); have ecn := hSw.cell cn id; have ecq := hSw.cell cq id; have ecr := hSw.cell cr id; have ech := hSw.cell ch id; go_simp <;> with_reducible rfl)
  try simp only [Act.put, List.setIfInBounds_toArray, List.set_cons_zero, List.set_cons_succ]
  refine wpAnyH_take (i := 5) (oi := { dst := some 12, op := Go.Op.binOp Go.BinOp.geq 47 (Go.Operand.tmp 7) (Go.Operand.tmp 11) 47, type := 4, pos := "frag.go:148", after := #[{ on := 0, ground := Go.Ground.data }, { on := 4, ground := Go.Ground.data }], guard := none }) (v := ?v46) rfl (by kernel_rfl) (by kernel_rfl) (by kernel_rfl) (fun _ _ _ h => h) (Or.inl ⟨by rfl, ?hy46⟩) (by assumption) ?rest46
  case hy46 => (intro w hSw; (try dsimp only at hSw); have ecn := hSw.cell cn id; have ecq := hSw.cell cq id; have ecr := hSw.cell cr id; have ech := hSw.cell ch id; go_simp <;> with_reducible rfl)
  try simp only [Act.put, List.setIfInBounds_toArray, List.set_cons_zero, List.set_cons_succ]
  refine wpAnyH_take (i := 6) (oi := { dst := some 13, op := Go.Op.move (Go.Operand.tmp 12), type := 4, pos := "frag.go:148", after := #[{ on := 5, ground := Go.Ground.data }], guard := none }) (v := ?v47) rfl (by kernel_rfl) (by kernel_rfl) (by kernel_rfl) (fun _ _ _ h => h) (Or.inl ⟨by rfl, ?hy47⟩) (by assumption) ?rest47
  case hy47 => (intro w hSw; (try dsimp only at hSw); have ecn := hSw.cell cn id; have ecq := hSw.cell cq id; have ecr := hSw.cell cr id; have ech := hSw.cell ch id; go_simp <;> with_reducible rfl)
  try simp only [Act.put, List.setIfInBounds_toArray, List.set_cons_zero, List.set_cons_succ]
  refine wpAnyH_take (i := 7) (oi := { dst := some 14, op := Go.Op.load 47 (Go.Operand.tmp 2), type := 47, pos := "frag.go:148", after := #[{ on := 6, ground := Go.Ground.guard }], guard := some (6, true) }) (v := ?v48) rfl (by kernel_rfl) (by kernel_rfl) (by kernel_rfl) (fun _ _ _ h => h) (Or.inl ⟨by rfl, ?hy48⟩) (by assumption) ?rest48
  case hy48 => (intro w hSw; (try dsimp only at hSw); have ecn := hSw.cell cn id; have ecq := hSw.cell cq id; have ecr := hSw.cell cr id; have ech := hSw.cell ch id; go_simp <;> with_reducible rfl)
  try simp only [Act.put, List.setIfInBounds_toArray, List.set_cons_zero, List.set_cons_succ]
  refine wpAnyH_take (i := 8) (oi := { dst := some 15, op := Go.Op.move (Go.Operand.tmp 1), type := 79, pos := "frag.go:148", after := #[{ on := 6, ground := Go.Ground.guard }], guard := some (6, true) }) (v := ?v49) rfl (by kernel_rfl) (by kernel_rfl) (by kernel_rfl) (fun _ _ _ h => h) (Or.inl ⟨by rfl, ?hy49⟩) (by assumption) ?rest49
  case hy49 => (intro w hSw; (try dsimp only at hSw); have ecn := hSw.cell cn id; have ecq := hSw.cell cq id; have ecr := hSw.cell cr id; have ech := hSw.cell ch id; go_simp <;> with_reducible rfl)
  try simp only [Act.put, List.setIfInBounds_toArray, List.set_cons_zero, List.set_cons_succ]
  refine wpAnyH_take (i := 9) (oi := { dst := some 16, op := Go.Op.nilCheck (Go.Operand.tmp 15), type := 0, pos := "frag.go:148", after := #[{ on := 8, ground := Go.Ground.data }, { on := 6, ground := Go.Ground.guard }], guard := some (6, true) }) (v := ?v50) rfl (by kernel_rfl) (by kernel_rfl) (by kernel_rfl) (fun _ _ _ h => h) (Or.inl ⟨by rfl, ?hy50⟩) (by assumption) ?rest50
  case hy50 => (intro w hSw; (try dsimp only at hSw); have ecn := hSw.cell cn id; have ecq := hSw.cell cq id; have ecr := hSw.cell cr id; have ech := hSw.cell ch id; go_simp <;> with_reducible rfl)
  try simp only [Act.put, List.setIfInBounds_toArray, List.set_cons_zero, List.set_cons_succ]
  refine wpAnyH_take (i := 10) (oi := { dst := some 17, op := Go.Op.fieldAddr 81 (Go.Operand.tmp 16) 0, type := 0, pos := "frag.go:148", after := #[{ on := 9, ground := Go.Ground.data }, { on := 6, ground := Go.Ground.guard }], guard := some (6, true) }) (v := ?v51) rfl (by kernel_rfl) (by kernel_rfl) (by kernel_rfl) (fun _ _ _ h => h) (Or.inl ⟨by rfl, ?hy51⟩) (by assumption) ?rest51
  case hy51 => (intro w hSw; (try dsimp only at hSw); have ecn := hSw.cell cn id; have ecq := hSw.cell cq id; have ecr := hSw.cell cr id; have ech := hSw.cell ch id; go_simp <;> with_reducible rfl)
  try simp only [Act.put, List.setIfInBounds_toArray, List.set_cons_zero, List.set_cons_succ]
  refine wpAnyH_take (i := 11) (oi := { dst := some 18, op := Go.Op.load 47 (Go.Operand.tmp 17), type := 47, pos := "frag.go:148", after := #[{ on := 10, ground := Go.Ground.data }, { on := 6, ground := Go.Ground.guard }], guard := some (6, true) }) (v := ?v52) rfl (by kernel_rfl) (by kernel_rfl) (by kernel_rfl) (fun _ _ _ h => h) (Or.inl ⟨by rfl, ?hy52⟩) (by assumption) ?rest52
  case hy52 => (intro w hSw; (try dsimp only at hSw); have ecn := hSw.cell cn id; have ecq := hSw.cell cq id; have ecr := hSw.cell cr id; have ech := hSw.cell ch id; go_simp <;> with_reducible rfl)
  try simp only [Act.put, List.setIfInBounds_toArray, List.set_cons_zero, List.set_cons_succ]
  refine wpAnyH_take (i := 12) (oi := { dst := some 19, op := Go.Op.binOp Go.BinOp.sub 47 (Go.Operand.tmp 14) (Go.Operand.tmp 18) 47, type := 47, pos := "frag.go:148", after := #[{ on := 7, ground := Go.Ground.data }, { on := 11, ground := Go.Ground.data }, { on := 6, ground := Go.Ground.guard }], guard := some (6, true) }) (v := ?v53) rfl (by kernel_rfl) (by kernel_rfl) (by kernel_rfl) (fun _ _ _ h => h) (Or.inl ⟨by rfl, ?hy53⟩) (by assumption) ?rest53
  case hy53 => (intro w hSw; (try dsimp only at hSw); have ecn := hSw.cell cn id; have ecq := hSw.cell cq id; have ecr := hSw.cell cr id; have ech := hSw.cell ch id; go_simp <;> with_reducible rfl)
  try simp only [Act.put, List.setIfInBounds_toArray, List.set_cons_zero, List.set_cons_succ]
  refine wpAnyH_take (i := 13) (oi := { dst := some 20, op := Go.Op.load 45 (Go.Operand.tmp 3), type := 45, pos := "frag.go:148", after := #[{ on := 6, ground := Go.Ground.guard }], guard := some (6, true) }) (v := ?v54) rfl (by kernel_rfl) (by kernel_rfl) (by kernel_rfl) (fun _ _ _ h => h) (Or.inl ⟨by rfl, ?hy54⟩) (by assumption) ?rest54
  case hy54 => (intro w hSw; (try dsimp only at hSw); have ecn := hSw.cell cn id; have ecq := hSw.cell cq id; have ecr := hSw.cell cr id; have ech := hSw.cell ch id; go_simp <;> with_reducible rfl)
  try simp only [Act.put, List.setIfInBounds_toArray, List.set_cons_zero, List.set_cons_succ]
  refine wpAnyH_take (i := 14) (oi := { dst := some 21, op := Go.Op.nilCheck (Go.Operand.tmp 20), type := 0, pos := "frag.go:148", after := #[{ on := 13, ground := Go.Ground.data }, { on := 6, ground := Go.Ground.guard }], guard := some (6, true) }) (v := ?v55) rfl (by kernel_rfl) (by kernel_rfl) (by kernel_rfl) (fun _ _ _ h => h) (Or.inl ⟨by rfl, ?hy55⟩) (by assumption) ?rest55
  case hy55 => (intro w hSw; (try dsimp only at hSw); have ecn := hSw.cell cn id; have ecq := hSw.cell cq id; have ecr := hSw.cell cr id; have ech := hSw.cell ch id; go_simp <;> with_reducible rfl)
  try simp only [Act.put, List.setIfInBounds_toArray, List.set_cons_zero, List.set_cons_succ]
  refine wpAnyH_take (i := 15) (oi := { dst := some 22, op := Go.Op.fieldAddr 76 (Go.Operand.tmp 21) 0, type := 0, pos := "frag.go:148", after := #[{ on := 14, ground := Go.Ground.data }, { on := 6, ground := Go.Ground.guard }], guard := some (6, true) }) (v := ?v56) rfl (by kernel_rfl) (by kernel_rfl) (by kernel_rfl) (fun _ _ _ h => h) (Or.inl ⟨by rfl, ?hy56⟩) (by assumption) ?rest56
  case hy56 => (intro w hSw; (try dsimp only at hSw); have ecn := hSw.cell cn id; have ecq := hSw.cell cq id; have ecr := hSw.cell cr id; have ech := hSw.cell ch id; go_simp <;> with_reducible rfl)
  try simp only [Act.put, List.setIfInBounds_toArray, List.set_cons_zero, List.set_cons_succ]
  refine wpAnyH_take (i := 16) (oi := { dst := some 23, op := Go.Op.load 47 (Go.Operand.tmp 22), type := 47, pos := "frag.go:148", after := #[{ on := 15, ground := Go.Ground.data }, { on := 6, ground := Go.Ground.guard }], guard := some (6, true) }) (v := ?v57) rfl (by kernel_rfl) (by kernel_rfl) (by kernel_rfl) (fun _ _ _ h => h) (Or.inl ⟨by rfl, ?hy57⟩) (by assumption) ?rest57
  case hy57 => (intro w hSw; (try dsimp only at hSw); have ecn := hSw.cell cn id; have ecq := hSw.cell cq id; have ecr := hSw.cell cr id; have ech := hSw.cell ch id; go_simp <;> with_reducible rfl)
  try simp only [Act.put, List.setIfInBounds_toArray, List.set_cons_zero, List.set_cons_succ]
  refine wpAnyH_take (i := 17) (oi := { dst := some 24, op := Go.Op.binOp Go.BinOp.geq 47 (Go.Operand.tmp 19) (Go.Operand.tmp 23) 47, type := 4, pos := "frag.go:148", after := #[{ on := 12, ground := Go.Ground.data }, { on := 16, ground := Go.Ground.data }, { on := 6, ground := Go.Ground.guard }], guard := some (6, true) }) (v := ?v58) rfl (by kernel_rfl) (by kernel_rfl) (by kernel_rfl) (fun _ _ _ h => h) (Or.inl ⟨by rfl, ?hy58⟩) (by assumption) ?rest58
  case hy58 => (intro w hSw; (try dsimp only at hSw); have ecn := hSw.cell cn id; have ecq := hSw.cell cq id; have ecr := hSw.cell cr id; have ech := hSw.cell ch id; go_simp <;> with_reducible rfl)
  try simp only [Act.put, List.setIfInBounds_toArray, List.set_cons_zero, List.set_cons_succ]
  refine wpAnyH_take (i := 18) (oi := { dst := some 25, op := Go.Op.pick (Go.Operand.tmp 13) (Go.Operand.tmp 24) (Go.Operand.const (Go.Value.bool false)), type := 4, pos := "frag.go:148", after := #[{ on := 6, ground := Go.Ground.data }, { on := 17, ground := Go.Ground.data }], guard := none }) (v := ?v59) rfl (by kernel_rfl) (by kernel_rfl) (by kernel_rfl) (fun _ _ _ h => h) (Or.inl ⟨by rfl, ?hy59⟩) (by assumption) ?rest59
  case hy59 => (intro w hSw; (try dsimp only at hSw); have ecn := hSw.cell cn id; have ecq := hSw.cell cq id; have ecr := hSw.cell cr id; have ech := hSw.cell ch id; go_simp <;> with_reducible rfl)
  try simp only [Act.put, List.setIfInBounds_toArray, List.set_cons_zero, List.set_cons_succ]
  refine wpAnyH_take (i := 19) (oi := { dst := some 6, op := Go.Op.assign (Go.Operand.tmp 25), type := 4, pos := "frag.go:148", after := #[{ on := 18, ground := Go.Ground.data }, { on := 6, ground := Go.Ground.chain }, { on := 0, ground := Go.Ground.phase }, { on := 1, ground := Go.Ground.phase }, { on := 2, ground := Go.Ground.phase }, { on := 3, ground := Go.Ground.phase }, { on := 4, ground := Go.Ground.phase }, { on := 5, ground := Go.Ground.phase }, { on := 6, ground := Go.Ground.phase }, { on := 7, ground := Go.Ground.phase }, { on := 8, ground := Go.Ground.phase }, { on := 9, ground := Go.Ground.phase }, { on := 10, ground := Go.Ground.phase }, { on := 11, ground := Go.Ground.phase }, { on := 12, ground := Go.Ground.phase }, { on := 13, ground := Go.Ground.phase }, { on := 14, ground := Go.Ground.phase }, { on := 15, ground := Go.Ground.phase }, { on := 16, ground := Go.Ground.phase }, { on := 17, ground := Go.Ground.phase }, { on := 18, ground := Go.Ground.phase }], guard := none }) (v := ?v60) rfl (by kernel_rfl) (by kernel_rfl) (by kernel_rfl) (fun _ _ _ h => h) (Or.inl ⟨by rfl, ?hy60⟩) (by assumption) ?rest60
  case hy60 => (intro w hSw; (try dsimp only at hSw); have ecn := hSw.cell cn id; have ecq := hSw.cell cq id; have ecr := hSw.cell cr id; have ech := hSw.cell ch id; go_simp <;> with_reducible rfl)
  try simp only [Act.put, List.setIfInBounds_toArray, List.set_cons_zero, List.set_cons_succ]
  refine wpAnyH_done (by kernel_rfl) ?_ _
  go_wp2_with fail
  go_ret
  exact ⟨rfl, HX_w1.out.trans hS0⟩
theorem tick_c (now tm bg k0 k1 k2 k3 : Int) (nb rq rb bm hb : Nat) (sv : Value) (w : World) (hn : w.heap[nb]? = some (.cells #[.int .u64 now] 47)) (hq : w.heap[rq]? = some (.cells #[.pointer (some ⟨rb, 0, none⟩)] 45)) (hr : w.heap[rb]? = some (.cells #[.int .u64 tm, .map (some bm)] 76)) (hh : w.heap[hb]? = some (.cells #[.int .u64 bg, sv] 81)) (h0 : 0 ≤ bg) (h1 : now < 18446744073709551616) :
    Calls Tryd.prog 35 #[.agg #[.int .u32 k0, .int .u32 k1, .int .u8 k2, .int .u16 k3], .pointer (some ⟨hb, 0, none⟩), .pointer (some ⟨nb, 0, none⟩), .pointer (some ⟨rq, 0, none⟩)] w fun e w' => e = .returned (.bool (oldB tm now bg)) ∧ Ex (fun _ => False) w w' := by
  unfold oldB
  by_cases h : bg ≤ now
  · have hw := wrap_u64 h0 h h1
    by_cases h2 : tm ≤ now - bg
    · rw [decide_eq_true h, decide_eq_true h2]
      exact tick_c2 now tm bg k0 k1 k2 k3 nb rq rb bm hb sv w hn hq hr hh h hw h2
    · rw [decide_eq_true h, decide_eq_false h2]
      exact tick_c3 now tm bg k0 k1 k2 k3 nb rq rb bm hb sv w hn hq hr hh h hw h2
  · rw [decide_eq_false h]
    exact tick_c1 now tm bg k0 k1 k2 k3 nb rq rb bm hb sv w hn hq hr hh h
end Go.Proofs.YtabjihchcmjdmaaDoor
/-
  maps.DeleteFunc over Reass's map, and the contract of (*frag.Reass).Tick. By an AI agent.
-/
namespace Go.Proofs.YtabjihchcmjdmaaDoor
open Go.RowKit Go.Maps

def kv4 (x : Int × Int × Int × Int) : Value := .agg #[.int .u32 x.1, .int .u32 x.2.1, .int .u8 x.2.2.1, .int .u16 x.2.2.2]
theorem keyLits_int {t : TypeId} {q : IntKind} (h : Tryd.prog.underlying t = some (.int q)) (d : Nat) (cs : List Value) (ls : List Lit) (hl : Tryd.prog.keyLits (d + 1) t cs = some ls) : ∃ n, cs = [.int q n] := by
  unfold Program.keyLits at hl
  rw [h] at hl
  split at hl
  case h_2 h1 =>
    injection h1 with h1
    injection h1 with h1
    split at hl
    · rename_i h2
      rw [h2.1, ← h1]
      exact ⟨_, rfl⟩
    · cases hl
  case h_6 => cases hl
  all_goals (rename_i h1 ; cases h1)
set_option maxRecDepth 100000 in
theorem key_inv (key : Value) (kl : Lit) (h : keyOf Tryd.prog 78 key = some kl) : (∃ x, key = kv4 x) ∧ ∃ k, kl = .string k := by
  have hc : Tryd.prog.cellsOf 78 = 4 := by kernel_rfl
  have hc1 : Tryd.prog.cellsOf 24 = 1 := by kernel_rfl
  have hc2 : Tryd.prog.cellsOf 5 = 1 := by kernel_rfl
  have hc3 : Tryd.prog.cellsOf 22 = 1 := by kernel_rfl
  have hu := Tryd.underlying78
  have hs : Tryd.prog.types.size = 179 := by kernel_rfl
  obtain ⟨m, hm⟩ : ∃ m, 179 + 1 = m + 1 + 1 := ⟨179 - 1, by decide⟩
  have hko : keyOf Tryd.prog 78 key = if Tryd.prog.keyType 78 && key.formed Tryd.prog 78 then (Tryd.prog.keyLits (Tryd.prog.types.size + 1) 78 key.cells.toList).map fun ls => .string (keyBytes ls) else none := by
    unfold keyOf
    rw [hu]
  rw [hko] at h
  clear hko
  split at h
  · rename_i hk
    rw [keyTy, Bool.true_and] at hk
    rw [Option.map_eq_some_iff] at h
    obtain ⟨ls, hls, rfl⟩ := h
    refine ⟨?_, _, rfl⟩
    cases key with
    | agg cs =>
      simp only [Value.formed, hu, hc] at hk
      have hk4 : cs.size = 4 := by simpa using hk
      obtain ⟨l⟩ := cs
      obtain ⟨a, b, c, d, rfl⟩ : ∃ a b c d, l = [a, b, c, d] := by
        match l, hk4 with
        | [a, b, c, d], _ => exact ⟨a, b, c, d, rfl⟩
      rw [hs, hm] at hls
      unfold Program.keyLits at hls
      rw [hu] at hls
      simp [Value.cells, hc, hc1, hc2, hc3] at hls
      obtain ⟨la, ha, h2⟩ := Option.bind_eq_some_iff.1 hls
      obtain ⟨_, h2, _⟩ := Option.map_eq_some_iff.1 h2
      obtain ⟨_, h2, _⟩ := Option.bind_eq_some_iff.1 h2
      obtain ⟨lb, hb, h3⟩ := Option.bind_eq_some_iff.1 h2
      obtain ⟨_, h3, _⟩ := Option.bind_eq_some_iff.1 h3
      obtain ⟨lc, hc, h4⟩ := Option.bind_eq_some_iff.1 h3
      obtain ⟨_, h4, _⟩ := Option.bind_eq_some_iff.1 h4
      obtain ⟨ld, hd, _⟩ := Option.bind_eq_some_iff.1 h4
      obtain ⟨n1, e1⟩ := keyLits_int Tryd.underlying24 _ _ _ ha
      obtain ⟨n2, e2⟩ := keyLits_int Tryd.underlying24 _ _ _ hb
      obtain ⟨n3, e3⟩ := keyLits_int Tryd.underlying5 _ _ _ hc
      obtain ⟨n4, e4⟩ := keyLits_int Tryd.underlying22 _ _ _ hd
      simp only [List.cons.injEq, and_true] at e1 e2 e3 e4
      subst e1 e2 e3 e4
      exact ⟨(n1, n2, n3, n4), rfl⟩
    | tuple cs => simp [Value.formed] at hk
    | _ => simp [Value.formed, hu] at hk
  · cases h
theorem pr_shape (v : Value) (y : DataW Unit × List MemPlace) (h : pr v = some y) : ∃ c : Option Nat, v = .pointer (c.map fun b => ⟨b, 0, none⟩) := by
  unfold pr at h
  split at h
  · exact ⟨none, rfl⟩
  · rename_i b
    exact ⟨some b, rfl⟩
  · cases h
/-- what atKey finds is there -/
theorem has_of_at {D : DataW Unit} {kl : Lit} {y : DataW Unit} (h : ∀ zd, D.atKey kl zd = y) : Maps.has D kl = true := by
  cases hh : Maps.has D kl
  · have h1 := (atKey_of_not_has hh .nil).symm.trans (h .nil)
    have h2 := (atKey_of_not_has hh (.map [])).symm.trans (h (.map []))
    rw [← h1] at h2
    cases h2
  · rfl
theorem lk_some {G : List Hp} {k : List UInt8} {b : Nat} (h : lk (G.map fun h => (h.k, h.hb)) k = some b) : ∃ x ∈ G, x.k = k ∧ x.hb = b := by
  unfold lk at h
  rw [Option.map_eq_some_iff] at h
  obtain ⟨y, h1, h2⟩ := h
  have h3 := List.mem_of_find?_eq_some h1
  obtain ⟨x, hx, rfl⟩ := List.mem_map.1 h3
  have h4 := List.find?_some h1
  exact ⟨x, hx, by simpa using h4, h2⟩
theorem same_str (a b : List UInt8) : Lit.sameKey (.string a) (.string b) = decide (a = b) := by
  show (a == b) = _
  by_cases h : a = b
  · subst h; simp
  · rw [decide_eq_false h, beq_eq_false_iff_ne]
    exact h
/-- the heaps that are still there while the loop is under way -/
def still (left : Lit → Bool) (tm now : Int) (G : List Hp) : List Hp := G.filter fun h => left (.string h.k) || !oldB tm now h.bg
theorem one_of_key : ∀ {G : List Hp}, G.Pairwise (fun a b => a.k ≠ b.k) → ∀ {a x : Hp}, a ∈ G → x ∈ G → a.k = x.k → a = x
  | [], _, _, _, h, _, _ => by simp at h
  | g :: G, hp, a, x, ha, hx, e => by
    obtain ⟨h1, h2⟩ := List.pairwise_cons.1 hp
    rcases List.mem_cons.1 ha with ea | ha'
    · rcases List.mem_cons.1 hx with ex | hx'
      · rw [ea, ex]
      · exact absurd (ea ▸ e) (h1 x hx')
    · rcases List.mem_cons.1 hx with ex | hx'
      · exact absurd (ex ▸ e).symm (h1 a ha')
      · exact one_of_key h2 ha' hx' e
theorem still_drop {G : List Hp} (hap : G.Pairwise (fun a b => a.k ≠ b.k)) {x : Hp} (hx : x ∈ G) (left : Lit → Bool) (tm now : Int) (ho : oldB tm now x.bg = true) :
    ((still left tm now G).map fun h => (h.k, h.hb)).filter (fun y => y.1 != x.k) = (still (fun z => left z && !z.sameKey (.string x.k)) tm now G).map fun h => (h.k, h.hb) := by
  unfold still
  rw [List.filter_map, List.filter_filter]
  congr 1
  apply List.filter_congr
  intro a ha
  simp only [same_str, Function.comp]
  by_cases e : a.k = x.k
  · have := one_of_key hap ha hx e
    subst this
    simp [ho]
  · simp [e]
theorem still_stay {G : List Hp} (hap : G.Pairwise (fun a b => a.k ≠ b.k)) {x : Hp} (hx : x ∈ G) (left : Lit → Bool) (tm now : Int) (ho : oldB tm now x.bg = false) :
    still (fun z => left z && !z.sameKey (.string x.k)) tm now G = still left tm now G := by
  unfold still
  apply List.filter_congr
  intro a ha
  simp only [same_str]
  by_cases e : a.k = x.k
  · have := one_of_key hap ha hx e
    subst this
    simp [ho]
  · simp [e]
theorem still_start {G : List Hp} {D : DataW Unit} (h : AD D (G.map fun h => (h.k, h.hb))) (tm now : Int) : still (Maps.has D) tm now G = G := by
  unfold still
  rw [List.filter_eq_self]
  intro a ha
  rw [h.has]
  cases hl : lk (G.map fun h => (h.k, h.hb)) a.k with
  | some b => rfl
  | none =>
    unfold lk at hl
    rw [Option.map_eq_none_iff, List.find?_eq_none] at hl
    have := hl _ (List.mem_map_of_mem ha)
    simp at this
theorem still_end {G : List Hp} {left : Lit → Bool} (h : ∀ kl, left kl = false) (tm now : Int) : still left tm now G = G.filter fun h => !oldB tm now h.bg := by
  unfold still
  apply List.filter_congr
  intro a _
  rw [h]
  rfl
theorem filter_keys {G : List Hp} {p : Hp → Bool} (hap : G.Pairwise (fun a b => a.k ≠ b.k ∧ a.hb ≠ b.hb ∧ a.g ≠ b.g)) : (G.filter p).Pairwise (fun a b => a.k ≠ b.k ∧ a.hb ≠ b.hb ∧ a.g ≠ b.g) := hap.sublist List.filter_sublist
set_option maxRecDepth 100000 in
set_option maxHeartbeats 4000000 in
theorem del_any (now tm : Int) (B rb bm nb rq : Nat) (G : List Hp) (w : World) (hrs : RS w B rb bm tm G) (hn : w.heap[nb]? = some (.cells #[.int .u64 now] 47)) (hq : w.heap[rq]? = some (.cells #[.pointer (some ⟨rb, 0, none⟩)] 45)) (h0 : ∀ h ∈ G, 0 ≤ h.bg) (h1 : now < 18446744073709551616) :
    Calls Tryd.prog 34 #[.map (some bm), .func (.func 35) #[] #[.pointer (some ⟨nb, 0, none⟩), .pointer (some ⟨rq, 0, none⟩)]] w fun e w' => e = .returned (.tuple #[]) ∧ RS w' B rb bm tm (G.filter fun h => !oldB tm now h.bg) ∧ Ex (fun k => k = bm) w w' := by
  obtain ⟨D0, ha0, hown⟩ := hrs.map
  have HRS := Lib.hid hrs
  have HN := Lib.hid hn
  have HQ := Lib.hid hq
  have H0 := Lib.hid h0
  have H1 := Lib.hid h1
  have hkeys : G.Pairwise (fun a b => a.k ≠ b.k) := hrs.apart.imp (fun h => h.1)
  have HKS := Lib.hid hkeys
  have HBM := Lib.hid hrs.map.isMap
  have HA0 := Lib.hid ha0
  clear hrs hn hq h0 h1 hkeys ha0
  go_enter Tryd.func34, Tryd.ntmps34
  go_wp2_with (first
    | (at_range; refine wpList_range_own _ rfl _ 74 rfl 78 79 keyedK Tryd.underlying74 _ bm _ _ rfl hown ?_; intro w0 hrg0 hg0 hs0)
    | go_in)
  go_frame
  go_loopw [4] (fun _ wr => ∃ (left : Lit → Bool) (cnt : Nat) (D : DataW Unit), wr.ranges Tryd.prog 78 pr bm w.heap.size (Maps.size D0) D left cnt ∧ AD D ((still left tm now G).map fun h => (h.k, h.hb)) ∧ Ex (fun k => k = bm) w wr)
    (fun _ wr => wr.rangeLeft bm w.heap.size)
  case atStart => exact ⟨_, _, _, hrg0, by rw [still_start HA0.out]; exact HA0.out, (Ex.refl _ w).grown hg0 (fun k hk => by cases hk)⟩
  case round =>
    obtain ⟨left, cnt, D, hrg, had, hxr⟩ := hrel
    go_wp2_with (first
      | (at_next; refine wpList_next_ranges _ rfl _ rfl 78 keyedK pr kv4 (fun c : Option Nat => .pointer (c.map fun b => ⟨b, 0, none⟩)) (fun key kl h => (key_inv key kl h).1) (fun v y h => pr_shape v y h) bm w.heap.size (Maps.size D0) _ _ _ rfl hrg ?_ ?_)
      | go_in)
    · intro hc0 hl0
      go_wp2
      go_end0
      refine ⟨rfl, ⟨?_, ?_, ?_, filter_keys HRS.out.apart, HRS.out.lo⟩, hxr⟩
      · exact (hxr.block rb (row_lt HRS.out.cell) (fun e => map_ne HRS.out.cell HBM.out e)).trans HRS.out.cell
      · rw [still_end hl0] at had
        exact ⟨D, had, MP.tight hrg.owns⟩
      · intro h hh
        exact (HRS.out.hps h (List.mem_filter.1 hh).1).keepT hxr (fun k cs t hk e => map_ne hk HBM.out e)
    · intro k0 k1 k2 k3 c kl y1 y2 w1 cnt1 hkey hl hR hat hrg1 hlt hg1 hs1 hen
      obtain ⟨_, kk, rfl⟩ := key_inv _ _ hkey
      have hhas := has_of_at hat
      rw [had.has] at hhas
      obtain ⟨bb, hbb⟩ := Option.isSome_iff_exists.1 hhas
      obtain ⟨x, hx, hxk, hxb⟩ := lk_some hbb
      have he := had.elem _ _ hbb
      rw [hat] at he
      subst he
      have hc := pr_inv hR
      simp only [Value.pointer.injEq] at hc
      obtain rfl : c = some bb := by
        cases c with
        | none => cases hc
        | some c' =>
          simp only [Option.map_some, Option.some.injEq, Addr.mk.injEq] at hc
          rw [hc.1]
      subst hxb
      subst hxk
      have hxG : x ∈ G := (List.mem_filter.1 hx).1
      have HXG := Lib.hid hxG
      have HKEY := Lib.hid hkey
      have HAD := Lib.hid had
      have HXR := Lib.hid hxr
      have HRG1 := Lib.hid hrg1
      have HRG := Lib.hid hrg
      have HLT := Lib.hid hlt
      have HX1 := Lib.hid (hxr.grown hg1 (fun k hk => by injection hk with hk; exact .inr (by omega)))
      have HS1 := Lib.hid hs1
      clear hhas hbb hx had hxr hrg1 hrg hlt hg1 hat hR hxG hkey hl hc hs1
      rw [show kv4 (k0, k1, k2, k3) = .agg #[.int .u32 k0, .int .u32 k1, .int .u8 k2, .int .u16 k3] from rfl] at hen ⊢
      simp only [Option.map_some] at hen ⊢
      go_wp2_with fail
      have hx : Ex (fun _ => False) w1 (w1.alloc (.cells #[.int .u32 k0, .int .u32 k1, .int .u8 k2, .int .u16 k3] 78)) := (Ex.refl _ w1).alloc _
      have hb : (w1.alloc (.cells #[.int .u32 k0, .int .u32 k1, .int .u8 k2, .int .u16 k3] 78)).heap[w1.heap.size]? = some (.cells #[.int .u32 k0, .int .u32 k1, .int .u8 k2, .int .u16 k3] 78) := heap_alloc_new w1 _
      obtain ⟨kx, hkx⟩ : ∃ kx, kx = w1.heap.size := ⟨_, rfl⟩
      rw [← hkx] at hb
      try simp only [← hkx]
      generalize w1.alloc (.cells #[.int .u32 k0, .int .u32 k1, .int .u8 k2, .int .u16 k3] 78) = w2 at hx hb ⊢
      have HX2 := Lib.hid hx
      have B_kx := Lib.hid hb
      have HKX := Lib.hid hkx
      clear hx hb hkx
      have hxw2 : Ex (fun k => k = bm) w w2 := HX1.out.trans (HX2.out.mono (fun _ _ h => h.elim))
      have hnm : ∀ k cs t, w.heap[k]? = some (.cells cs t) → ¬ k = bm := fun k cs t h e => map_ne h HBM.out e
      have hxh := (HRS.out.hps x HXG.out).1
      have hcl := tick_c now tm x.bg k0 k1 k2 k3 nb rq rb bm x.hb _ w2 ((hxw2.block nb (row_lt HN.out) (hnm _ _ _ HN.out)).trans HN.out) ((hxw2.block rq (row_lt HQ.out) (hnm _ _ _ HQ.out)).trans HQ.out) ((hxw2.block rb (row_lt HRS.out.cell) (hnm _ _ _ HRS.out.cell)).trans HRS.out.cell) ((hxw2.block x.hb (row_lt hxh) (hnm _ _ _ hxh)).trans hxh) (H0.out x HXG.out) H1.out
      refine hcl.mono ?_
      rintro e w3 ⟨rfl, hx⟩
      have HX3 := Lib.hid hx
      have HXW := Lib.hid (hxw2.trans (hx.mono (fun _ _ h => h.elim)))
      have hrg3 : w3.ranges Tryd.prog 78 pr bm w.heap.size (Maps.size D0) D (fun z => left z && !z.sameKey (.string x.k)) cnt1 := by
        have h9 : Ex (fun _ => False) w1 w3 := HX2.out.trans HX3.out
        exact HRG1.out.kept (row := none) ⟨h9.os, h9.tape, h9.output, h9.size, fun k hk _ => h9.block k hk id⟩ (by simp) (by simp)
      have HRG3 := Lib.hid hrg3
      have ckx0 := row_cell (k := 0) (v := .int .u32 k0) ((HX3.out.block kx (row_lt B_kx.out) id).trans B_kx.out) rfl
      have ckx1 := row_cell (k := 1) (v := .int .u32 k1) ((HX3.out.block kx (row_lt B_kx.out) id).trans B_kx.out) rfl
      have ckx2 := row_cell (k := 2) (v := .int .u8 k2) ((HX3.out.block kx (row_lt B_kx.out) id).trans B_kx.out) rfl
      have ckx3 := row_cell (k := 3) (v := .int .u16 k3) ((HX3.out.block kx (row_lt B_kx.out) id).trans B_kx.out) rfl
      clear hx hcl hxh hnm hxw2 hen hrg3
      obtain ⟨o, ho⟩ : ∃ o, oldB tm now x.bg = o := ⟨_, rfl⟩
      rw [ho]
      have HO := Lib.hid ho
      clear ho
      cases o with
      | true =>
        go_wp2_with (first
          | (at_delete; refine wpList_delete_ranges _ rfl _ _ 74 78 rfl 79 keyedK Tryd.underlying74 _ bm w.heap.size _ _ _ _ rfl HRG3.out _ _ rfl HKEY.out ?_; intro w4 cnt4 hrg4 hle hturn)
          | fail)
        go_frame
        rw [strike_twice] at hrg4
        have hg4 := hturn.grown
        have HX4 : Ex (fun k => k = bm) w w4 := HXW.out.trans ⟨hg4.os, hg4.tape, hg4.output, hg4.size, fun k hk hne => hg4.block k hk (fun e => hne (by injection e))⟩
        have hka : ((still left tm now G).map fun h => (h.k, h.hb)).Pairwise (fun a b => a.1 ≠ b.1) := by
          rw [List.pairwise_map]
          exact HKS.out.sublist List.filter_sublist
        have had4 := HAD.out.del hka x.k
        rw [still_drop HKS.out HXG.out left tm now HO.out] at had4
        go_roundw
        case rel => exact ⟨_, cnt4, _, hrg4, had4, HX4⟩
        case measure =>
          have := HLT.out
          rw [hrg4.left_eq, HRG.out.left_eq]
          omega
      | false =>
        go_wp2_with fail
        go_roundw
        case rel => exact ⟨_, cnt1, D, HRG3.out, by rw [still_stay HKS.out HXG.out left tm now HO.out]; exact HAD.out, HXW.out⟩
        case measure =>
          have := HLT.out
          rw [HRG3.out.left_eq, HRG.out.left_eq]
          omega
end Go.Proofs.YtabjihchcmjdmaaDoor
/-
  The contract of (*frag.Reass).Tick. By an AI agent.
-/
namespace Go.Proofs.YtabjihchcmjdmaaDoor
open Go.RowKit

theorem wrap_len {a b : Nat} (h : a ≤ 1000) (h2 : b ≤ 1000) : wrap64 ((a : Int) - (b : Int)) = (a : Int) - (b : Int) ∧ IntKind.i64.wrap ((a : Int) - (b : Int)) = (a : Int) - (b : Int) := by
  constructor
  · simp only [wrap64]; omega
  · rw [IntKind.wrap_i64]; omega
set_option maxRecDepth 100000 in
set_option maxHeartbeats 4000000 in
theorem tick_any (now tm : Int) (B rb bm : Nat) (G : List Hp) (w : World) (hrs : RS w B rb bm tm G) (h0 : ∀ h ∈ G, 0 ≤ h.bg) (h1 : now < 18446744073709551616) (hg : G.length ≤ 1000) :
    Calls Tryd.prog 22 #[.pointer (some ⟨rb, 0, none⟩), .int .u64 now] w fun e w' => e = .returned (.int .i64 ((G.length : Int) - ((G.filter fun h => !oldB tm now h.bg).length : Int))) ∧ RS w' B rb bm tm (G.filter fun h => !oldB tm now h.bg) ∧ Ex (fun k => k = bm) w w' := by
  have HRS := Lib.hid hrs
  have H0 := Lib.hid h0
  have H1 := Lib.hid h1
  obtain ⟨g, hgf⟩ : ∃ g, g = G.filter fun h => !oldB tm now h.bg := ⟨_, rfl⟩
  have hgl : g.length ≤ G.length := by rw [hgf]; exact List.length_filter_le _ _
  obtain ⟨hw1, hw2⟩ := wrap_len (a := G.length) (b := g.length) hg (by omega)
  rw [← hgf]
  have HGF := Lib.hid hgf
  have HBM := Lib.hid hrs.map.isMap
  clear hrs h0 h1 hgf hg hgl
  go_enter Tryd.func22, Tryd.ntmps22
  go_upto_region 1 with fail
  have hx : Ex (fun _ => False) w (w.alloc (.cells #[.pointer (some ⟨rb, 0, none⟩)] 45)) := (Ex.refl _ w).alloc _
  have hb : (w.alloc (.cells #[.pointer (some ⟨rb, 0, none⟩)] 45)).heap[w.heap.size]? = some (.cells #[.pointer (some ⟨rb, 0, none⟩)] 45) := heap_alloc_new w _
  have hs1 : (w.alloc (.cells #[.pointer (some ⟨rb, 0, none⟩)] 45)).heap.size = w.heap.size + 1 := by simp
  obtain ⟨rq, hrq⟩ : ∃ rq, rq = w.heap.size := ⟨_, rfl⟩
  have hb_rq : w.heap.size ≤ rq := by omega
  rw [← hrq] at hb hs1 
  try simp only [← hrq]
  generalize w.alloc (.cells #[.pointer (some ⟨rb, 0, none⟩)] 45) = w1 at hx hb  hs1 ⊢
  try simp only [← hs1]
  clear hs1
  clear hrq
  have HX_w1 := Lib.hid hx
  clear hx
  have B_rq := Lib.hid hb
  clear hb
  have hx : Ex (fun _ => False) w1 (w1.alloc (.cells #[.int .u64 now] 47)) := (Ex.refl _ w1).alloc _
  have hb : (w1.alloc (.cells #[.int .u64 now] 47)).heap[w1.heap.size]? = some (.cells #[.int .u64 now] 47) := heap_alloc_new w1 _
  obtain ⟨nb, hnb⟩ : ∃ nb, nb = w1.heap.size := ⟨_, rfl⟩
  have hb_nb : w1.heap.size ≤ nb := by omega
  rw [← hnb] at hb
  try simp only [← hnb]
  generalize w1.alloc (.cells #[.int .u64 now] 47) = w2 at hx hb ⊢
  clear hnb
  have HX_w2 := Lib.hid hx
  clear hx
  have B_nb := Lib.hid hb
  clear hb
  have hrs2 := (HRS.out.keep (HX_w1.out.trans HX_w2.out))
  have crq := row_cell (k := 0) (v := .pointer (some ⟨rb, 0, none⟩)) ((HX_w2.out.block rq (row_lt B_rq.out) id).trans B_rq.out) rfl
  have crb := row_cell (k := 1) (v := .map (some bm)) hrs2.cell rfl
  have hlen := fun ty => hrs2.map.len ty
  simp only [List.length_map] at hlen
  have hmf : ∀ (fn : Fn) (first cap : Array Value) (w : World), (Instr.makeFunc fn first cap).run Tryd.prog w = .ok (.func fn first cap) w := fun _ _ _ _ => rfl
  have hdel := del_any now tm B rb bm nb rq G w2 hrs2 B_nb.out ((HX_w2.out.block rq (row_lt B_rq.out) id).trans B_rq.out) H0.out H1.out
  rw [← HGF.out] at hdel
  have HDEL := Lib.hid hdel
  have HR2 := Lib.hid hrs2.map.isMap
  clear hrs2 hdel
  go_wp2_with fail
  refine HDEL.out.mono ?_
  rintro e w3 ⟨rfl, hr3, hx⟩
  have HX3 := Lib.hid hx
  have HR3 := Lib.hid hr3
  clear crq crb hlen hx hr3
  have crq := row_cell (k := 0) (v := .pointer (some ⟨rb, 0, none⟩)) ((HX3.out.block rq (row_lt ((HX_w2.out.block rq (row_lt B_rq.out) id).trans B_rq.out)) (map_ne ((HX_w2.out.block rq (row_lt B_rq.out) id).trans B_rq.out) HR2.out)).trans ((HX_w2.out.block rq (row_lt B_rq.out) id).trans B_rq.out)) rfl
  have crb := row_cell (k := 1) (v := .map (some bm)) HR3.out.cell rfl
  have hlen := fun ty => HR3.out.map.len ty
  simp only [List.length_map] at hlen
  go_wp2_with fail
  go_ret
  exact ⟨rfl, HR3.out, ((HX_w1.out.trans HX_w2.out).mono (fun _ _ h => h.elim)).trans HX3.out⟩
end Go.Proofs.YtabjihchcmjdmaaDoor
/-
  shown of law 10. By an AI agent.
-/
namespace Go.Proofs.YtabjihchcmjdmaaDoor
open Go.RowKit

set_option maxRecDepth 100000 in
set_option maxHeartbeats 16000000 in
theorem shown10_any (w : World) (hg : ET w) : Calls Tryd.prog 12 #[] w fun e w' => e = .returned (.bool true) ∧ Ex (fun _ => False) w w' := by
  obtain ⟨i0, hi, hz0, hz1, hz2⟩ := info_parts Tryd.info5
  have HG := Lib.hid hg
  clear hg
  go_enter Tryd.func12, Tryd.ntmps12
  go_upto_region 2 with (at_make; refine wpList_make_full _ rfl (.const (.int .i64 100)) (.const (.int .i64 100)) 25 rfl w.heap.size 5 i0 (.int .u8 0) 1 Tryd.underlying25 hi hz0 hz1 .i64 .i64 (100 : Int) (100 : Int) 100 rfl rfl (by omega) (by omega) (by rw [hz2]; omega) (by simp only [maxLen]; omega) (Nat.le_refl _) ?_; intro w1 hown1 hg1; have hx1 : Ex (fun _ => False) w w1 := (Ex.refl _ w).grown hg1 (fun k h => by cases h))
  clear hi hz0 hz1 hz2
  have hob : OB w1 w.heap.size (.slice (some ⟨w.heap.size, 0, none⟩) 100 100) Z100 := by
    refine ⟨by decide, ?_⟩
    have e : (madeCells (Value.int .u8 0).cells (100 * 1)).toList = (List.replicate 100 (0 : UInt8)).map u8v := by
      rw [show (Value.int .u8 0).cells = #[Value.int .u8 0] from rfl, Nat.mul_one, toList_madeCells_one, List.map_replicate]
      rfl
    have hown1' := hown1
    rw [e] at hown1'
    exact hown1'
  obtain ⟨b0, hb0⟩ : ∃ b0, b0 = w.heap.size := ⟨_, rfl⟩
  rw [← hb0] at hob ⊢
  have hz : RB w1 (fun k => k = b0) (.slice (some ⟨b0, 0, none⟩) 100 100) Z100 := hob.rb.mono (fun k _ h => by have := h.1; injection this with this; exact this.symm)
  have hb0l : b0 < w1.heap.size := (hob.lt b0 rfl).2
  have hb_b0 : w.heap.size ≤ b0 := by omega
  have HB0L := Lib.hid hb0l
  have hx := hx1
  clear hown1 hg1 hx1 hob hb0 hb0l
  have HX_w1 := Lib.hid hx
  clear hx
  have HZ := Lib.hid hz
  clear hz
  have hx : Ex (fun _ => False) w1 (w1.alloc (.cells #[.int .u8 0, .int .u16 7, .bool false, .bool false, .int .i64 0, .int .u8 0, .int .u8 17, .int .u32 0, .int .u32 0, .slice (some ⟨b0, 0, none⟩) 100 100] 27)) := (Ex.refl _ w1).alloc _
  have hb : (w1.alloc (.cells #[.int .u8 0, .int .u16 7, .bool false, .bool false, .int .i64 0, .int .u8 0, .int .u8 17, .int .u32 0, .int .u32 0, .slice (some ⟨b0, 0, none⟩) 100 100] 27)).heap[w1.heap.size]? = some (.cells #[.int .u8 0, .int .u16 7, .bool false, .bool false, .int .i64 0, .int .u8 0, .int .u8 17, .int .u32 0, .int .u32 0, .slice (some ⟨b0, 0, none⟩) 100 100] 27) := heap_alloc_new w1 _
  obtain ⟨pb, hpb⟩ : ∃ pb, pb = w1.heap.size := ⟨_, rfl⟩
  have hb_pb : w1.heap.size ≤ pb := by omega
  rw [← hpb] at hb
  try simp only [← hpb]
  generalize w1.alloc (.cells #[.int .u8 0, .int .u16 7, .bool false, .bool false, .int .i64 0, .int .u8 0, .int .u8 17, .int .u32 0, .int .u32 0, .slice (some ⟨b0, 0, none⟩) 100 100] 27) = w2 at hx hb ⊢
  clear hpb
  have HX_w2 := Lib.hid hx
  clear hx
  have B_pb := Lib.hid hb
  clear hb
  have cpb0 := row_cell (k := 0) (v := .int .u8 0) B_pb.out rfl
  have cpb1 := row_cell (k := 1) (v := .int .u16 7) B_pb.out rfl
  have cpb2 := row_cell (k := 2) (v := .bool false) B_pb.out rfl
  have cpb3 := row_cell (k := 3) (v := .bool false) B_pb.out rfl
  have cpb4 := row_cell (k := 4) (v := .int .i64 0) B_pb.out rfl
  have cpb5 := row_cell (k := 5) (v := .int .u8 0) B_pb.out rfl
  have cpb6 := row_cell (k := 6) (v := .int .u8 17) B_pb.out rfl
  have cpb7 := row_cell (k := 7) (v := .int .u32 0) B_pb.out rfl
  have cpb8 := row_cell (k := 8) (v := .int .u32 0) B_pb.out rfl
  have cpb9 := row_cell (k := 9) (v := .slice (some ⟨b0, 0, none⟩) 100 100) B_pb.out rfl
  have HPB2 := Lib.hid (row_lt B_pb.out)
  go_wp2_with fail
  refine (split_yes _ sp10 (some ⟨b0, 0, none⟩) 100 68 w2 (RB.keep HZ.out HX_w2.out (fun _ _ _ => id)) (fun h => by cases h) (by decide) sp_spe).mono ?_
  rintro e w3 ⟨A', c', os, rfl, hos, hop, hobs, hx⟩
  rw [sp_parts] at hos
  obtain ⟨⟨x0, A0, c0⟩, ⟨x1, A1, c1⟩, ⟨x2, A2, c2⟩, rfl, rfl, rfl, rfl⟩ := list3 hos
  obtain ⟨g, gc, hv, _⟩ := hop.get 0 (by simp)
  injection hv with hv _ _
  subst hv
  have hgl := hop.lt g rfl
  have HOP := Lib.hid hop
  have HOBS := Lib.hid hobs
  clear hos hop hobs cpb0 cpb1 cpb2 cpb3 cpb4 cpb5 cpb6 cpb7 cpb8 cpb9
  have hv : (.tuple #[.slice (some ⟨g, 0, none⟩) ([(sq0, A0, c0), (sq1, A1, c1), (sq2, A2, c2)] : List Po).length c', .nilIface] : Value) = .tuple #[.slice (some ⟨g, 0, none⟩) 3 c', .nilIface] := rfl
  rw [hv]
  clear hv
  have HX_w3 := Lib.hid hx
  clear hx
  replace B_pb := Lib.hid ((HX_w3.out.block pb (row_lt B_pb.out) id).trans B_pb.out)
  replace HZ := Lib.hid (RB.keep HZ.out (HX_w2.out.trans HX_w3.out) (fun _ _ _ => id))
  replace HG := Lib.hid (HG.out.keep ((HX_w1.out.trans HX_w2.out).trans HX_w3.out) id)
  have HGL := Lib.hid hgl
  clear hgl
  go_wp2_with fail
  refine (new_any 5 w3).mono ?_
  rintro e w4 ⟨rb, bm, rfl, hrs, hx⟩
  have HRS4 := Lib.hid hrs
  obtain ⟨B, hBe⟩ : ∃ B, B = w3.heap.size := ⟨_, rfl⟩
  have hU4 : Up B w3 w4 := hx.mono (fun _ _ h => h.elim)
  have HU4 := Lib.hid hU4
  have HBE := Lib.hid hBe
  clear hrs hBe hU4
  have HX_w4 := Lib.hid hx
  clear hx
  have HRSb : Hid (RS w4 B rb bm 5 []) := by have := HRS4.out; rw [← HBE.out] at this; exact this
  clear HRS4
  go_upto_region 6 with fail
  have hrow : PRow w4 g [(sq0, A0, c0), (sq1, A1, c1), (sq2, A2, c2)] := (OP.up HOP.out HU4.out (by have := HBE.out; omega)).prow
  have l0 : w4.cell? ⟨g, 20, none⟩ = some (.int .u8 0) := hrow 2 (by simp) 0 _ rfl
  have l1 : w4.cell? ⟨g, 21, none⟩ = some (.int .u16 7) := hrow 2 (by simp) 1 _ rfl
  have l2 : w4.cell? ⟨g, 22, none⟩ = some (.bool false) := hrow 2 (by simp) 2 _ rfl
  have l3 : w4.cell? ⟨g, 23, none⟩ = some (.bool false) := hrow 2 (by simp) 3 _ rfl
  have l4 : w4.cell? ⟨g, 24, none⟩ = some (.int .i64 96) := hrow 2 (by simp) 4 _ rfl
  have l5 : w4.cell? ⟨g, 25, none⟩ = some (.int .u8 0) := hrow 2 (by simp) 5 _ rfl
  have l6 : w4.cell? ⟨g, 26, none⟩ = some (.int .u8 17) := hrow 2 (by simp) 6 _ rfl
  have l7 : w4.cell? ⟨g, 27, none⟩ = some (.int .u32 0) := hrow 2 (by simp) 7 _ rfl
  have l8 : w4.cell? ⟨g, 28, none⟩ = some (.int .u32 0) := hrow 2 (by simp) 8 _ rfl
  have l9 : w4.cell? ⟨g, 29, none⟩ = some (.slice A2 4 c2) := hrow 2 (by simp) 9 _ rfl
  clear hrow
  have hby : OB w4 w2.heap.size (.slice A2 4 c2) sq2.b := (OBS.up HOBS.out HU4.out (by have := HBE.out; omega)).1 (sq2, A2, c2) (by simp)
  have hby1 : RB w4 (fun _ => True) (.slice A2 4 c2) sq2.b := RB.any hby.rb
  have hby2 : A2 = none → c2 = 0 := hby.some (by decide)
  clear hby
  have hcall := take_new sq2 A2 c2 1 B rb bm 5 [] w4 HRSb.out sq2_ok hby1 hby2 (by decide) sq2_right (by decide) rfl (by decide)
  have HC := Lib.hid hcall
  clear hcall hby1 hby2
  go_wp2_with fail
  refine HC.out.mono ?_
  rintro e w5 ⟨rfl, ⟨h1, hrs, hk1, hb1, ho1⟩, hx⟩
  have HRS5 := Lib.hid hrs
  have HK1 := Lib.hid hk1
  have HO1 := Lib.hid ho1
  have hlo := HRSb.out.lo
  clear HC hrs hk1 hb1 ho1 l0 l1 l2 l3 l4 l5 l6 l7 l8 l9
  have HU5 := Lib.hid (show Up B w3 w5 from HU4.out.andThen hx (fun k _ h => by have h : k = bm := h; omega))
  clear hx
  clear HRSb hlo
  go_upto_region 7 with fail
  have hx : Ex (fun _ => False) w5 (w5.alloc (.cells #[.int .u8 0, .int .u16 0, .bool false, .bool false, .int .i64 0, .int .u8 0, .int .u8 0, .int .u32 0, .int .u32 0, .slice none 0 0] 27)) := (Ex.refl _ w5).alloc _
  have hb : (w5.alloc (.cells #[.int .u8 0, .int .u16 0, .bool false, .bool false, .int .i64 0, .int .u8 0, .int .u8 0, .int .u32 0, .int .u32 0, .slice none 0 0] 27)).heap[w5.heap.size]? = some (.cells #[.int .u8 0, .int .u16 0, .bool false, .bool false, .int .i64 0, .int .u8 0, .int .u8 0, .int .u32 0, .int .u32 0, .slice none 0 0] 27) := heap_alloc_new w5 _
  obtain ⟨t5, ht5⟩ : ∃ t5, t5 = w5.heap.size := ⟨_, rfl⟩
  rw [← ht5] at hb
  try simp only [← ht5]
  generalize w5.alloc (.cells #[.int .u8 0, .int .u16 0, .bool false, .bool false, .int .i64 0, .int .u8 0, .int .u8 0, .int .u32 0, .int .u32 0, .slice none 0 0] 27) = w6 at hx hb ⊢
  have HRS_w6 := Lib.hid (HRS5.out.keep hx)
  have HX_w6 := Lib.hid hx
  have Ht5 := Lib.hid ht5
  have B_t5 := Lib.hid hb
  clear ht5 hb HRS5
  have HU6 := Lib.hid (show Up B w3 w6 from HU5.out.andThen hx (fun k _ h => by exact h.elim))
  clear hx
  have hrow : PRow w6 g [(sq0, A0, c0), (sq1, A1, c1), (sq2, A2, c2)] := (OP.up HOP.out HU6.out (by have := HBE.out; omega)).prow
  have l0 : w6.cell? ⟨g, 10, none⟩ = some (.int .u8 0) := hrow 1 (by simp) 0 _ rfl
  have l1 : w6.cell? ⟨g, 11, none⟩ = some (.int .u16 7) := hrow 1 (by simp) 1 _ rfl
  have l2 : w6.cell? ⟨g, 12, none⟩ = some (.bool false) := hrow 1 (by simp) 2 _ rfl
  have l3 : w6.cell? ⟨g, 13, none⟩ = some (.bool true) := hrow 1 (by simp) 3 _ rfl
  have l4 : w6.cell? ⟨g, 14, none⟩ = some (.int .i64 48) := hrow 1 (by simp) 4 _ rfl
  have l5 : w6.cell? ⟨g, 15, none⟩ = some (.int .u8 0) := hrow 1 (by simp) 5 _ rfl
  have l6 : w6.cell? ⟨g, 16, none⟩ = some (.int .u8 17) := hrow 1 (by simp) 6 _ rfl
  have l7 : w6.cell? ⟨g, 17, none⟩ = some (.int .u32 0) := hrow 1 (by simp) 7 _ rfl
  have l8 : w6.cell? ⟨g, 18, none⟩ = some (.int .u32 0) := hrow 1 (by simp) 8 _ rfl
  have l9 : w6.cell? ⟨g, 19, none⟩ = some (.slice A1 48 c1) := hrow 1 (by simp) 9 _ rfl
  clear hrow
  have hby : OB w6 w2.heap.size (.slice A1 48 c1) sq1.b := (OBS.up HOBS.out HU6.out (by have := HBE.out; omega)).1 (sq1, A1, c1) (by simp)
  have hby1 : RB w6 (fun _ => True) (.slice A1 48 c1) sq1.b := RB.any hby.rb
  have hby2 : A1 = none → c1 = 0 := hby.some (by decide)
  clear hby
  have hln1 : h1.os.length = 1 := by have := congrArg List.length HO1.out; simpa using this
  have hcall := take_more sq1 A1 c1 1 B rb bm 5 ([] ++ [h1]) w6 HRS_w6.out sq1_ok hby1 hby2 (by decide) [] [] h1 sq1_right (by decide) rfl (HK1.out.trans kb_12) (by rw [any_fst, HO1.out]; exact sf1) (by omega)
  have HC := Lib.hid hcall
  clear hcall hby1 hby2 hln1
  go_wp2_with fail
  refine HC.out.mono ?_
  rintro e w7 hpost
  have hup := more_up hpost HRS_w6.out
  obtain ⟨_, A9, c9, ⟨hw, rfl, h2, hrs, hk2, hb2, ho2⟩ | ⟨q, A', c', hw, _⟩⟩ := hpost
  case inr =>
    have ho9 : (h1.os ++ [(sq1, A9, c9)]).map Prod.fst = [sq2, sq1] := by rw [List.map_append, HO1.out]; rfl
    cases whole_nofirst (fst_mem ho9 (fun x => x.off ≠ 0) (by intro x hx; simp only [List.mem_cons, List.not_mem_nil, or_false] at hx; rcases hx with rfl | rfl <;> decide)) hw
  have HRS7 : Hid (RS w7 B rb bm 5 [h2]) := hrs
  have HK2 := Lib.hid (hk2.trans HK1.out)
  have HO2 : Hid (h2.os.map Prod.fst = [sq2, sq1]) := by rw [ho2, List.map_append, HO1.out]; rfl
  have hx := hup
  clear HC hrs hk2 hb2 ho2 hw hup HRS_w6 l0 l1 l2 l3 l4 l5 l6 l7 l8 l9
  have HU7 := Lib.hid (show Up B w3 w7 from HU6.out.andThen hx (fun k _ h => by exact h))
  clear hx
  go_upto_region 8 with fail
  have hx : Ex (fun _ => False) w7 (w7.alloc (.cells #[.int .u8 0, .int .u16 0, .bool false, .bool false, .int .i64 0, .int .u8 0, .int .u8 0, .int .u32 0, .int .u32 0, .slice none 0 0] 27)) := (Ex.refl _ w7).alloc _
  have hb : (w7.alloc (.cells #[.int .u8 0, .int .u16 0, .bool false, .bool false, .int .i64 0, .int .u8 0, .int .u8 0, .int .u32 0, .int .u32 0, .slice none 0 0] 27)).heap[w7.heap.size]? = some (.cells #[.int .u8 0, .int .u16 0, .bool false, .bool false, .int .i64 0, .int .u8 0, .int .u8 0, .int .u32 0, .int .u32 0, .slice none 0 0] 27) := heap_alloc_new w7 _
  obtain ⟨t8, ht8⟩ : ∃ t8, t8 = w7.heap.size := ⟨_, rfl⟩
  rw [← ht8] at hb
  try simp only [← ht8]
  generalize w7.alloc (.cells #[.int .u8 0, .int .u16 0, .bool false, .bool false, .int .i64 0, .int .u8 0, .int .u8 0, .int .u32 0, .int .u32 0, .slice none 0 0] 27) = w8 at hx hb ⊢
  have HRS_w8 := Lib.hid (HRS7.out.keep hx)
  have HX_w8 := Lib.hid hx
  have Ht8 := Lib.hid ht8
  have B_t8 := Lib.hid hb
  clear ht8 hb HRS7
  have HU8 := Lib.hid (show Up B w3 w8 from HU7.out.andThen hx (fun k _ h => by exact h.elim))
  clear hx
  go_wp2_with fail
  refine (len_any B rb bm 5 [h2] w8 HRS_w8.out).mono ?_
  rintro e w8' ⟨rfl, hw8⟩
  obtain rfl : w8 = w8' := hw8.symm
  have hv : (.int .i64 (([h2] : List Hp).length : Int) : Value) = .int .i64 1 := rfl
  rw [hv]
  clear hv
  go_upto_region 9 with fail
  have hrow : PRow w8 g [(sq0, A0, c0), (sq1, A1, c1), (sq2, A2, c2)] := (OP.up HOP.out HU8.out (by have := HBE.out; omega)).prow
  have l0 : w8.cell? ⟨g, 0, none⟩ = some (.int .u8 0) := hrow 0 (by simp) 0 _ rfl
  have l1 : w8.cell? ⟨g, 1, none⟩ = some (.int .u16 7) := hrow 0 (by simp) 1 _ rfl
  have l2 : w8.cell? ⟨g, 2, none⟩ = some (.bool false) := hrow 0 (by simp) 2 _ rfl
  have l3 : w8.cell? ⟨g, 3, none⟩ = some (.bool true) := hrow 0 (by simp) 3 _ rfl
  have l4 : w8.cell? ⟨g, 4, none⟩ = some (.int .i64 0) := hrow 0 (by simp) 4 _ rfl
  have l5 : w8.cell? ⟨g, 5, none⟩ = some (.int .u8 0) := hrow 0 (by simp) 5 _ rfl
  have l6 : w8.cell? ⟨g, 6, none⟩ = some (.int .u8 17) := hrow 0 (by simp) 6 _ rfl
  have l7 : w8.cell? ⟨g, 7, none⟩ = some (.int .u32 0) := hrow 0 (by simp) 7 _ rfl
  have l8 : w8.cell? ⟨g, 8, none⟩ = some (.int .u32 0) := hrow 0 (by simp) 8 _ rfl
  have l9 : w8.cell? ⟨g, 9, none⟩ = some (.slice A0 48 c0) := hrow 0 (by simp) 9 _ rfl
  clear hrow
  have hby : OB w8 w2.heap.size (.slice A0 48 c0) sq0.b := (OBS.up HOBS.out HU8.out (by have := HBE.out; omega)).1 (sq0, A0, c0) (by simp)
  have hby1 : RB w8 (fun _ => True) (.slice A0 48 c0) sq0.b := RB.any hby.rb
  have hby2 : A0 = none → c0 = 0 := hby.some (by decide)
  clear hby
  have hln1 : h2.os.length = 2 := by have := congrArg List.length HO2.out; simpa using this
  have hcall := take_more sq0 A0 c0 1 B rb bm 5 [h2] w8 HRS_w8.out sq0_ok hby1 hby2 (by decide) [] [] h2 sq0_right (by decide) rfl (HK2.out.trans kb_02) (by rw [any_fst, HO2.out]; exact sf0) (by omega)
  have HC := Lib.hid hcall
  clear hcall hby1 hby2 hln1
  go_wp2_with fail
  refine HC.out.mono ?_
  rintro e w9 hpost
  have hup := more_up hpost HRS_w8.out
  obtain ⟨_, A9, c9, ⟨hw, _⟩ | ⟨q, A', cq, hw, rfl, hobq, hrs⟩⟩ := hpost
  case inl =>
    have ho9 : (h2.os ++ [(sq0, A9, c9)]).map Prod.fst = [sq2, sq1, sq0] := by rw [List.map_append, HO2.out]; rfl
    cases sp_whole ho9 hw
  have ho9 : (h2.os ++ [(sq0, A9, c9)]).map Prod.fst = [sq2, sq1, sq0] := by rw [List.map_append, HO2.out]; rfl
  obtain rfl : q = sp10 := by have := sp_whole ho9 hw; injection this
  clear ho9
  have HRS9 : Hid (RS w9 B rb bm 5 []) := hrs
  have hx := hup
  have hv : pkv sp10 (.slice A' sp10.b.length cq) = .agg #[.int .u8 0, .int .u16 7, .bool false, .bool false, .int .i64 0, .int .u8 0, .int .u8 17, .int .u32 0, .int .u32 0, .slice A' 100 cq] := rfl
  rw [hv]
  clear HC hrs hw hup hobq hv HRS_w8 l0 l1 l2 l3 l4 l5 l6 l7 l8 l9
  have HU9 := Lib.hid (show Up B w3 w9 from HU8.out.andThen hx (fun k _ h => by exact h))
  clear hx
  go_upto_region 10 with fail
  have hx : Ex (fun _ => False) w9 (w9.alloc (.cells #[.int .u8 0, .int .u16 7, .bool false, .bool false, .int .i64 0, .int .u8 0, .int .u8 17, .int .u32 0, .int .u32 0, .slice A' 100 cq] 27)) := (Ex.refl _ w9).alloc _
  have hb : (w9.alloc (.cells #[.int .u8 0, .int .u16 7, .bool false, .bool false, .int .i64 0, .int .u8 0, .int .u8 17, .int .u32 0, .int .u32 0, .slice A' 100 cq] 27)).heap[w9.heap.size]? = some (.cells #[.int .u8 0, .int .u16 7, .bool false, .bool false, .int .i64 0, .int .u8 0, .int .u8 17, .int .u32 0, .int .u32 0, .slice A' 100 cq] 27) := heap_alloc_new w9 _
  obtain ⟨qb, hqb⟩ : ∃ qb, qb = w9.heap.size := ⟨_, rfl⟩
  rw [← hqb] at hb
  try simp only [← hqb]
  generalize w9.alloc (.cells #[.int .u8 0, .int .u16 7, .bool false, .bool false, .int .i64 0, .int .u8 0, .int .u8 17, .int .u32 0, .int .u32 0, .slice A' 100 cq] 27) = wa at hx hb ⊢
  have HRS_wa := Lib.hid (HRS9.out.keep hx)
  have HX_wa := Lib.hid hx
  have Hqb := Lib.hid hqb
  have B_qb := Lib.hid hb
  clear hqb hb HRS9
  have HUa := Lib.hid (show Up B w3 wa from HU9.out.andThen hx (fun k _ h => by exact h.elim))
  clear hx
  have hqb9 := row_lt B_qb.out
  have HQ9 := Lib.hid hqb9
  clear hqb9
  have hrow : PRow wa g [(sq0, A0, c0), (sq1, A1, c1), (sq2, A2, c2)] := (OP.up HOP.out HUa.out (by have := HBE.out; omega)).prow
  have l0 : wa.cell? ⟨g, 10, none⟩ = some (.int .u8 0) := hrow 1 (by simp) 0 _ rfl
  have l1 : wa.cell? ⟨g, 11, none⟩ = some (.int .u16 7) := hrow 1 (by simp) 1 _ rfl
  have l2 : wa.cell? ⟨g, 12, none⟩ = some (.bool false) := hrow 1 (by simp) 2 _ rfl
  have l3 : wa.cell? ⟨g, 13, none⟩ = some (.bool true) := hrow 1 (by simp) 3 _ rfl
  have l4 : wa.cell? ⟨g, 14, none⟩ = some (.int .i64 48) := hrow 1 (by simp) 4 _ rfl
  have l5 : wa.cell? ⟨g, 15, none⟩ = some (.int .u8 0) := hrow 1 (by simp) 5 _ rfl
  have l6 : wa.cell? ⟨g, 16, none⟩ = some (.int .u8 17) := hrow 1 (by simp) 6 _ rfl
  have l7 : wa.cell? ⟨g, 17, none⟩ = some (.int .u32 0) := hrow 1 (by simp) 7 _ rfl
  have l8 : wa.cell? ⟨g, 18, none⟩ = some (.int .u32 0) := hrow 1 (by simp) 8 _ rfl
  have l9 : wa.cell? ⟨g, 19, none⟩ = some (.slice A1 48 c1) := hrow 1 (by simp) 9 _ rfl
  clear hrow
  have hby : OB wa w2.heap.size (.slice A1 48 c1) sq1.b := (OBS.up HOBS.out HUa.out (by have := HBE.out; omega)).1 (sq1, A1, c1) (by simp)
  have hby1 : RB wa (fun _ => True) (.slice A1 48 c1) sq1.b := RB.any hby.rb
  have hby2 : A1 = none → c1 = 0 := hby.some (by decide)
  clear hby
  have hcall := take_new sq1 A1 c1 2 B rb bm 5 [] wa HRS_wa.out sq1_ok hby1 hby2 (by decide) sq1_right (by decide) rfl (by decide)
  have HC := Lib.hid hcall
  clear hcall hby1 hby2
  go_wp2_with fail
  refine HC.out.mono ?_
  rintro e wb ⟨rfl, ⟨h3, hrs, hk3, hb3, ho3⟩, hx⟩
  have HRSB : Hid (RS wb B rb bm 5 [h3]) := hrs
  have HB3 := Lib.hid hb3
  have hlo := HRS_wa.out.lo
  have hqm : ¬ qb = bm := by
    obtain ⟨es, c9', h9⟩ := HRS_wa.out.map.isMap
    intro e
    have := B_qb.out
    rw [e, h9] at this
    cases this
  have HQM := Lib.hid hqm
  replace B_qb := Lib.hid ((hx.block qb HQ9.out (fun e => HQM.out e)).trans B_qb.out)
  clear HC hrs hk3 hb3 ho3 hqm l0 l1 l2 l3 l4 l5 l6 l7 l8 l9
  have HUb := Lib.hid (show Up B w3 wb from HUa.out.andThen hx (fun k _ h => by have h : k = bm := h; omega))
  clear hx
  clear HRS_wa
  have hfl : ([h3] : List Hp).filter (fun h => !oldB 5 6 h.bg) = [h3] := by
    simp only [List.filter_cons, List.filter_nil, HB3.out]
    rfl
  have hcall := tick_any 6 5 B rb bm [h3] wb HRSB.out (fun h hh => by rw [List.mem_singleton] at hh; rw [hh, HB3.out]; decide) (by decide) (by simp)
  rw [hfl] at hcall
  have HC := Lib.hid hcall
  clear hcall hfl
  go_wp2_with fail
  refine HC.out.mono ?_
  rintro e wc ⟨rfl, hrs, hx⟩
  have HRSC : Hid (RS wc B rb bm 5 [h3]) := hrs
  have hv : (.int .i64 ((([h3] : List Hp).length : Int) - (([h3] : List Hp).length : Int)) : Value) = .int .i64 0 := rfl
  rw [hv]
  have hql := row_lt B_qb.out
  replace B_qb := Lib.hid ((hx.block qb hql (fun e => HQM.out e)).trans B_qb.out)
  clear HC hrs hv hql HRSB
  have HUc := Lib.hid (show Up B w3 wc from HUb.out.andThen hx (fun k _ h => by have h : k = bm := h; omega))
  clear hx
  have hfl : ([h3] : List Hp).filter (fun h => !oldB 5 7 h.bg) = [] := by
    simp only [List.filter_cons, List.filter_nil, HB3.out]
    rfl
  have hcall := tick_any 7 5 B rb bm [h3] wc HRSC.out (fun h hh => by rw [List.mem_singleton] at hh; rw [hh, HB3.out]; decide) (by decide) (by simp)
  rw [hfl] at hcall
  have HC := Lib.hid hcall
  clear hcall hfl
  go_wp2_with fail
  refine HC.out.mono ?_
  rintro e wd ⟨rfl, hrs, hx⟩
  have HRSD : Hid (RS wd B rb bm 5 []) := hrs
  have hv : (.int .i64 ((([h3] : List Hp).length : Int) - (([] : List Hp).length : Int)) : Value) = .int .i64 1 := rfl
  rw [hv]
  have hql := row_lt B_qb.out
  replace B_qb := Lib.hid ((hx.block qb hql (fun e => HQM.out e)).trans B_qb.out)
  clear HC hrs hv hql HRSC
  have HUd := Lib.hid (show Up B w3 wd from HUc.out.andThen hx (fun k _ h => by have h : k = bm := h; omega))
  clear hx
  have hbb : B = w3.heap.size := HBE.out
  have hs23 := HX_w3.out.size
  have hs12 := HX_w2.out.size
  have hs3d := HUd.out.size
  have hp2 := HPB2.out
  have hb0 := HB0L.out
  have hgl := HGL.out
  have hqb := Hqb.out
  have hu9 := HU9.out.size
  have hlt : b0 < pb ∧ pb < g ∧ g < B ∧ B ≤ qb := by have := hb_pb; omega
  have HLT := Lib.hid hlt
  have hbd : wd.heap[pb]? = _ := box_up B_pb.out HUd.out (by omega)
  have hzd : RB wd (fun k => k = b0) (.slice (some ⟨b0, 0, none⟩) 100 100) Z100 := RB.up HZ.out HUd.out (by omega)
  have hgd : ET wd := ET.up HG.out HUd.out (by omega)
  have hopd := OP.up HOP.out HUd.out (by omega)
  have HXD := Lib.hid (show Ex (fun _ => False) w wd from ((HX_w1.out.trans HX_w2.out).trans HX_w3.out).andThen HUd.out (fun k h1 h2 => by have h3 := ((HX_w1.out.trans HX_w2.out).trans HX_w3.out).size; omega))
  replace HG := Lib.hid hgd
  replace HZ := Lib.hid hzd
  replace B_pb := Lib.hid hbd
  have HOPD := Lib.hid hopd
  have HWB := Lib.hid (show w.heap.size ≤ pb by have h1 := HX_w1.out.size; have := hb_pb; omega)
  clear hbd hzd hgd hopd hbb hs23 hs12 hs3d hp2 hb0 hgl hqb hu9 hlt
  have B_pbd := B_pb
  have cpb0 := row_cell (k := 0) (v := .int .u8 0) B_pb.out rfl
  have cpb1 := row_cell (k := 1) (v := .int .u16 7) B_pb.out rfl
  have cpb2 := row_cell (k := 2) (v := .bool false) B_pb.out rfl
  have cpb3 := row_cell (k := 3) (v := .bool false) B_pb.out rfl
  have cpb4 := row_cell (k := 4) (v := .int .i64 0) B_pb.out rfl
  have cpb5 := row_cell (k := 5) (v := .int .u8 0) B_pb.out rfl
  have cpb6 := row_cell (k := 6) (v := .int .u8 17) B_pb.out rfl
  have cpb7 := row_cell (k := 7) (v := .int .u32 0) B_pb.out rfl
  have cpb8 := row_cell (k := 8) (v := .int .u32 0) B_pb.out rfl
  have cpb9 := row_cell (k := 9) (v := .slice (some ⟨b0, 0, none⟩) 100 100) B_pb.out rfl
  go_wp2_with fail
  refine (split_no _ sp10 (some ⟨b0, 0, none⟩) 100 67 wd HZ.out (fun h => by cases h) (by decide) _ _ sp_67).mono ?_
  rintro e we ⟨t13, y13, rfl, hec, hx⟩
  clear cpb0 cpb1 cpb2 cpb3 cpb4 cpb5 cpb6 cpb7 cpb8 cpb9
  have HX_we := Lib.hid hx
  clear hx
  have HE := Lib.hid hec
  clear hec
  replace B_pb := Lib.hid ((HX_we.out.block pb (row_lt B_pb.out) id).trans B_pb.out)
  have cpb2 := row_cell (k := 2) (v := .bool false) B_pb.out rfl
  have fpb2 := row_frozen B_pb.out 2
  go_upto_region 15 with fail
  have ne_pb_b0 : pb ≠ b0 := by have := HLT.out; omega
  have ne_qb_pb : qb ≠ pb := by have := HLT.out; omega
  have hb : (we.setCell ⟨pb, 2, none⟩ (.bool true)).heap[pb]? = some (.cells #[.int .u8 0, .int .u16 7, .bool true, .bool false, .int .i64 0, .int .u8 0, .int .u8 17, .int .u32 0, .int .u32 0, .slice (some ⟨b0, 0, none⟩) 100 100] 27) := (row_set B_pb.out 2 (.bool true))
  have hx : Ex (fun j => j = pb) we (we.setCell ⟨pb, 2, none⟩ (.bool true)) := ((Ex.refl (fun j => j = pb) we).setCell (p := ⟨pb, 2, none⟩) (.inl rfl) (.bool true))
  clear cpb2 fpb2
  generalize (we.setCell ⟨pb, 2, none⟩ (.bool true)) = wf at hx hb ⊢
  clear B_pb
  have HX_wf := Lib.hid hx
  clear hx
  have B_pb := Lib.hid hb
  clear hb
  replace HZ := Lib.hid (RB.keep (RB.keep HZ.out HX_we.out (fun _ _ _ => id)) HX_wf.out (fun k _ hk e => ne_pb_b0.symm (hk.symm.trans e)))
  have cpb0 := row_cell (k := 0) (v := .int .u8 0) B_pb.out rfl
  have cpb1 := row_cell (k := 1) (v := .int .u16 7) B_pb.out rfl
  have cpb2 := row_cell (k := 2) (v := .bool true) B_pb.out rfl
  have cpb3 := row_cell (k := 3) (v := .bool false) B_pb.out rfl
  have cpb4 := row_cell (k := 4) (v := .int .i64 0) B_pb.out rfl
  have cpb5 := row_cell (k := 5) (v := .int .u8 0) B_pb.out rfl
  have cpb6 := row_cell (k := 6) (v := .int .u8 17) B_pb.out rfl
  have cpb7 := row_cell (k := 7) (v := .int .u32 0) B_pb.out rfl
  have cpb8 := row_cell (k := 8) (v := .int .u32 0) B_pb.out rfl
  have cpb9 := row_cell (k := 9) (v := .slice (some ⟨b0, 0, none⟩) 100 100) B_pb.out rfl
  go_wp2_with fail
  refine (split_no _ { sp10 with df := true } (some ⟨b0, 0, none⟩) 100 119 wf HZ.out (fun h => by cases h) (by decide) _ _ sp_119).mono ?_
  rintro e wg ⟨t15, y15, rfl, hec, hx⟩
  have hpl := row_lt B_pb.out
  have hqe : wd.heap.size ≤ we.heap.size := HX_we.out.size
  have hpd : pb < wd.heap.size := by have := HX_we.out.size; have h1 := HLT.out; have h2 := row_lt B_qb.out; omega
  have hxp : Ex (fun k => k = pb) wd wg := ((HX_we.out.mono (fun _ _ h => h.elim)).trans HX_wf.out).trans (hx.mono (fun _ _ h => h.elim))
  have hgg : ET wg := HG.out.keep hxp (fun e => by
    have h1 := HG.out
    unfold ET World.cell? at h1
    have h2 : wd.heap[pb]? = some (.cells #[.int .u8 0, .int .u16 7, .bool false, .bool false, .int .i64 0, .int .u8 0, .int .u8 17, .int .u32 0, .int .u32 0, .slice (some ⟨b0, 0, none⟩) 100 100] 27) := B_pbd.out
    subst e
    rw [h2] at h1
    simp at h1)
  have hopg := HOPD.out.keep hxp (fun k hk _ _ e => by obtain rfl := Option.some.inj hk; have h1 := HLT.out; have h2 : g = pb := e; omega)
  have hrow := hopg.prow
  have hqg := (hxp.block qb (row_lt B_qb.out) (fun e => ne_qb_pb e)).trans B_qb.out
  have he1 : EC wg (fun _ => True) [lay10] (.iface t13 y13) 1 := EC.mono (fun _ _ => trivial) (EC.keep hx (fun _ _ => id) (EC.keepB HX_wf.out hpd HE.out))
  have he2 : EC wg (fun _ => True) [lay10] (.iface t15 y15) 7 := EC.mono (fun _ _ => trivial) hec
  have HHG := Lib.hid hgg
  have HE1 := Lib.hid he1
  have HE2 := Lib.hid he2
  have HXZ := Lib.hid (HXD.out.andThen hxp (fun k h1 h2 => by have h3 := HWB.out; have h4 : k = pb := h2; omega))
  clear hgg he1 he2 hec hx hxp hopg hpl hqe hpd
  have q9 := row_cell (k := 9) (v := .slice A' 100 cq) hqg rfl
  have q3 := row_cell (k := 3) (v := .bool false) hqg rfl
  have q4 := row_cell (k := 4) (v := .int .i64 0) hqg rfl
  have m0 : wg.cell? ⟨g, 3, none⟩ = some (.bool true) := hrow 0 (by simp) 3 _ rfl
  have m2 : wg.cell? ⟨g, 23, none⟩ = some (.bool false) := hrow 2 (by simp) 3 _ rfl
  have m3 : wg.cell? ⟨g, 24, none⟩ = some (.int .i64 96) := hrow 2 (by simp) 4 _ rfl
  have m4 : wg.cell? ⟨g, 29, none⟩ = some (.slice A2 4 c2) := hrow 2 (by simp) 9 _ rfl
  clear hrow hqg cpb0 cpb1 cpb2 cpb3 cpb4 cpb5 cpb6 cpb7 cpb8 cpb9
  go_wp2_with fail
  refine (code_any _ _ _ _ _ HE1.out HHG.out).mono ?_
  rintro e wh ⟨rfl, hx⟩
  have HXH := Lib.hid hx
  have HE2H := Lib.hid (EC.keep hx (fun _ _ => id) HE2.out)
  clear hx
  go_wp2_with fail
  refine (told10_any _ _ 7 _ _ HE2H.out (by decide) (by decide)).mono ?_
  rintro e wi ⟨rfl, hx⟩
  have ht : bs (etx [lay10] 7) = ⟨#[102, 114, 97, 103, 58, 32, 101, 114, 114, 111, 114, 32, 55]⟩ := by decide
  rw [ht]
  have HXI := Lib.hid hx
  clear hx ht
  go_wp2_with fail
  go_ret
  exact ⟨rfl, (HXZ.out.trans HXH.out).trans HXI.out⟩
end Go.Proofs.YtabjihchcmjdmaaDoor
/-
  The parts of a packet, one by one: the plain law. By an AI agent.
-/
namespace Go.Proofs.YtabjihchcmjdmaaDoor
open Go.RowKit

/-- the i-th part -/
def pti (p : Pk) (z n i : Nat) : Pk := { p with off := p.off + (i * z : Nat), mf := p.mf || decide (i + 1 < n), b := (p.b.drop (i * z)).take z }
/-- l is p in n parts of z bytes -/
structure PD (p : Pk) (m : Int) (z n : Nat) (l : List Pk) : Prop where
  len : l.length = n
  pos : 1 ≤ n
  zp : 8 ≤ z ∧ z % 8 = 0 ∧ z ≤ 100000
  cov : p.b.length ≤ n * z
  lt : 1 < n → (n - 1) * z < p.b.length
  one : ∀ i, i < n → l[i]? = some (pti p z n i)
  fit : ∀ i, i < n → 20 + ((pti p z n i).b.length : Int) ≤ m
theorem mul_mod8 {z : Nat} (h : z % 8 = 0) (i : Nat) : i * z % 8 = 0 := by
  rw [Nat.mul_mod, h, Nat.mul_zero]
theorem pd_one {p : Pk} {m : Int} (h : 20 + (p.b.length : Int) ≤ m) (hl : p.b.length ≤ 4000) : PD p m ((p.b.length / 8 + 1) * 8) 1 [p] := by
  have e : pti p ((p.b.length / 8 + 1) * 8) 1 0 = p := by
    unfold pti
    obtain ⟨tos, ident, df, mf, off, ttl, pr, src, dst, b⟩ := p
    simp only [Nat.zero_mul, List.drop_zero, Nat.zero_add, Nat.lt_irrefl, decide_false, Bool.or_false]
    rw [List.take_of_length_le (by omega)]
    simp
  refine ⟨rfl, Nat.le_refl _, by omega, by omega, fun h => by omega, fun i hi => ?_, fun i hi => ?_⟩
  · obtain rfl : i = 0 := by omega
    rw [e]; rfl
  · obtain rfl : i = 0 := by omega
    rw [e]; exact h
theorem pz_spec {m : Int} (h : 68 ≤ m) : 48 ≤ pz m ∧ pz m % 8 = 0 ∧ 20 + (pz m : Int) ≤ m := by
  unfold pz
  omega
theorem parts_pd {p : Pk} {m : Int} (h : spe p m = none) (hl : p.b.length ≤ 4000) : ∃ z n, PD p m z n (parts p m) := by
  have h68 : 68 ≤ m := by
    unfold spe at h
    split at h
    · cases h
    · omega
  by_cases hf : 20 + (p.b.length : Int) ≤ m
  · refine ⟨(p.b.length / 8 + 1) * 8, 1, ?_⟩
    unfold parts
    rw [if_pos hf]
    exact pd_one hf hl
  · obtain ⟨hz, hz8, hzm⟩ := pz_spec h68
    obtain ⟨z, hze⟩ : ∃ z, z = pz m := ⟨_, rfl⟩
    obtain ⟨n, hn⟩ : ∃ n, n = cn z p.b.length := ⟨_, rfl⟩
    have hc := fun k => @cn_lt z p.b.length k (by omega)
    rw [← hn] at hc
    have hn0 : 1 ≤ n := by
      have := (hc 0).2 (by omega)
      omega
    have hlast : (n - 1) * z < p.b.length := (hc (n - 1)).1 (by omega)
    have hcov : p.b.length ≤ n * z := by
      apply Classical.byContradiction
      intro hh
      have := (hc n).2 (by omega)
      omega
    have hp : parts p m = lastMf ((List.range n).map fun i => prt p z (p.off + (i * z : Nat)) i) p.mf := by
      unfold parts
      rw [if_neg hf, ← hze, ← hn]
    have hzl : z ≤ p.b.length := by omega
    refine ⟨z, n, ?_⟩
    rw [hp]
    have hat : ∀ i, i < n → (lastMf ((List.range n).map fun i => prt p z (p.off + (i * z : Nat)) i) p.mf)[i]? = some (pti p z n i) := by
      intro i hi
      have hiz : i * z ≤ (n - 1) * z := Nat.mul_le_mul_right z (by omega)
      have hck : ckb z p.b i = (p.b.drop (i * z)).take z := by
        unfold ckb ce
        rw [List.drop_take, show i * z + min z (p.b.length - i * z) - i * z = min z (p.b.length - i * z) by omega]
        by_cases e : z ≤ p.b.length - i * z
        · rw [Nat.min_eq_left e]
        · rw [Nat.min_eq_right (by omega), List.take_of_length_le (by simp), List.take_of_length_le (by rw [List.length_drop]; omega)]
      unfold lastMf
      rw [List.getElem?_modify, List.length_map, List.length_range, List.getElem?_map, List.getElem?_range hi]
      unfold prt pti
      rw [Option.map_some, hck, Option.map_eq_map, Option.map_some]
      by_cases e : n - 1 = i
      · rw [if_pos e]
        have e2 : decide (i + 1 < n) = false := decide_eq_false (by omega)
        rw [e2, Bool.or_false]
      · rw [if_neg e]
        have e2 : decide (i + 1 < n) = true := decide_eq_true (by omega)
        rw [e2, Bool.or_true]
    refine ⟨by simp [lastMf], hn0, ⟨by omega, by omega, by omega⟩, hcov, fun _ => hlast, hat, fun i hi => ?_⟩
    show 20 + (((p.b.drop (i * z)).take z).length : Int) ≤ m
    rw [List.length_take]
    omega
theorem PD.at {p : Pk} {m : Int} {z n : Nat} {l : List Pk} (h : PD p m z n l) {i : Nat} (hi : i < l.length) : l[i] = pti p z n i := by
  have := h.one i (by rw [← h.len]; exact hi)
  rw [List.getElem?_eq_getElem hi] at this
  exact Option.some.inj this
/-- where parts lie -/
theorem PD.place {p : Pk} {m : Int} {z n : Nat} {l : List Pk} (h : PD p m z n l) {i : Nat} (hi : i < n) : i * z ≤ p.b.length ∧ (i + 1 < n → (i + 1) * z ≤ p.b.length) ∧ (pti p z n i).b.length = min z (p.b.length - i * z) := by
  have h1 := h.lt
  refine ⟨?_, ?_, ?_⟩
  · by_cases e : n = 1
    · obtain rfl : i = 0 := by omega
      omega
    · have h2 : i * z ≤ (n - 1) * z := Nat.mul_le_mul_right z (by omega)
      have := h1 (by have := h.pos; omega)
      omega
  · intro h3
    have h2 : (i + 1) * z ≤ (n - 1) * z := Nat.mul_le_mul_right z (by omega)
    have := h1 (by omega)
    omega
  · unfold pti
    rw [List.length_take, List.length_drop]
/-- each is right -/
theorem PD.right {p : Pk} {m : Int} {z n : Nat} {l : List Pk} (h : PD p m z n l) (hr : p.right = 0) {i : Nat} (hi : i < n) : (pti p z n i).right = 0 := by
  obtain ⟨q1, q2, q3⟩ := h.place hi
  have hz := h.zp
  have hm := mul_mod8 hz.2.1 i
  unfold Pk.right at hr ⊢
  rw [q3]
  have e1 : (pti p z n i).off = p.off + (i * z : Nat) := rfl
  have e2 : (pti p z n i).mf = (p.mf || decide (i + 1 < n)) := rfl
  rw [e1, e2]
  split at hr
  · omega
  · rename_i hr1
    split at hr
    · omega
    · rename_i hr2
      simp only [not_or, Int.not_lt, not_and, Decidable.not_not] at hr1
      obtain ⟨r1, r2, r3⟩ := hr1
      have hx : ¬ ((p.mf || decide (i + 1 < n)) = true ∧ (min z (p.b.length - i * z) = 0 ∨ min z (p.b.length - i * z) % 8 ≠ 0)) := by
        rintro ⟨g1, g2⟩
        by_cases e : i + 1 < n
        · have := q2 e
          rw [Nat.add_mul, Nat.one_mul] at this
          rw [Nat.min_eq_left (by omega)] at g2
          omega
        · have hmf : p.mf = true := by
            rw [Bool.or_eq_true] at g1
            rcases g1 with g1 | g1
            · exact g1
            · exact absurd (of_decide_eq_true g1) e
          have h3 := r3 hmf
          obtain rfl : i = n - 1 := by omega
          have hcov : p.b.length ≤ (n - 1) * z + z := by
            have := h.cov
            rw [show n = n - 1 + 1 by omega, Nat.add_mul, Nat.one_mul] at this
            exact this
          rw [Nat.min_eq_right (by omega)] at g2
          by_cases e1 : n = 1
          · subst e1
            simp only [Nat.sub_self, Nat.zero_mul, Nat.sub_zero] at g2
            omega
          · have := h.lt (by omega)
            omega
      rw [if_neg (by
        rintro (g | g | g)
        · omega
        · omega
        · exact hx g), if_neg (by omega)]
theorem parts_mono {p : Pk} {m m' : Int} (hm : m ≤ m') (h68 : 68 ≤ m) : (parts p m').length ≤ (parts p m).length ∧ 1 ≤ (parts p m').length := by
  unfold parts
  by_cases h1 : 20 + (p.b.length : Int) ≤ m
  · rw [if_pos h1, if_pos (by omega)]; simp
  · rw [if_neg h1]
    obtain ⟨z1, _, _⟩ := pz_spec h68
    have hc := fun k => @cn_lt (pz m) p.b.length k (by omega)
    have hn0 : 1 ≤ cn (pz m) p.b.length := by
      have := (hc 0).2 (by omega)
      omega
    by_cases h2 : 20 + (p.b.length : Int) ≤ m'
    · rw [if_pos h2]
      simp only [lastMf, List.length_modify, List.length_map, List.length_range, List.length_cons, List.length_nil]
      omega
    · rw [if_neg h2]
      simp only [lastMf, List.length_modify, List.length_map, List.length_range]
      obtain ⟨z2, _, _⟩ := pz_spec (show 68 ≤ m' by omega)
      have hc' := fun k => @cn_lt (pz m') p.b.length k (by omega)
      have hzz : pz m ≤ pz m' := by unfold pz; omega
      refine ⟨?_, ?_⟩
      · apply Classical.byContradiction
        intro hh
        have g1 := (hc' (cn (pz m) p.b.length)).1 (by omega)
        have g2 : cn (pz m) p.b.length * pz m ≤ cn (pz m) p.b.length * pz m' := Nat.mul_le_mul_left _ hzz
        have g3 := (hc (cn (pz m) p.b.length)).2 (by omega)
        omega
      · have := (hc' 0).2 (by omega)
        omega
theorem spe_none {p : Pk} {m : Int} (h : spe p m = none) : 68 ≤ m ∧ p.right = 0 ∧ (20 + (p.b.length : Int) ≤ m ∨ p.df = false) := by
  unfold spe at h
  split at h
  · cases h
  · split at h
    · cases h
    · rename_i h1 h2
      refine ⟨by omega, Classical.not_not.1 h2, ?_⟩
      split at h
      · exact .inl (by assumption)
      · split at h
        · cases h
        · exact .inr (by simpa using (by assumption : ¬ p.df = true))
theorem spe_fits {p : Pk} {m : Int} (h1 : 68 ≤ m) (h2 : p.right = 0) (h3 : 20 + (p.b.length : Int) ≤ m) : spe p m = none ∧ parts p m = [p] := by
  refine ⟨?_, ?_⟩
  · unfold spe
    rw [if_neg (by omega), if_neg (fun h => h h2), if_pos h3]
  · unfold parts
    rw [if_pos h3]
theorem right_off {p : Pk} (h : p.right = 0) : 0 ≤ p.off ∧ p.off ≤ 65535 := by
  unfold Pk.right at h
  split at h
  · omega
  · split at h
    · omega
    · rename_i h1 h2
      exact ⟨by omega, by omega⟩
theorem parts_len {p : Pk} {m : Int} (h : spe p m = none) (hl : p.b.length ≤ 2000) : (parts p m).length ≤ 42 := by
  obtain ⟨h68, _, _⟩ := spe_none h
  unfold parts
  split
  · simp
  · obtain ⟨z1, _, _⟩ := pz_spec h68
    simp only [lastMf, List.length_modify, List.length_map, List.length_range]
    rcases Nat.lt_or_ge 42 (cn (pz m) p.b.length) with h9 | h9
    · have := (cn_lt (by omega)).1 h9
      omega
    · exact h9
end Go.Proofs.YtabjihchcmjdmaaDoor
