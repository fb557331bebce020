/-
  The contracts of package ether: wrong, mac, Group. By an AI agent.
-/
import Derived.Test.YtkgieciamophkaaDoorRead2
import Derived.Laws.CopyOwn
import Derived.Laws.ResultCell
namespace Go.Proofs.YtkgieciamophkaaDoor
open Go.RowKit

/-- the layer's name -/
def lay3 : List UInt8 := [101, 116, 104, 101, 114]
theorem ewrong_any (P : Nat → Prop) (r : List (List UInt8)) (k : Nat) (v : Value) (w : World) (h : EC w P r v k) :
    Calls Tryd.prog 49 #[v] w fun e w' => ∃ v', e = .returned v' ∧ EC w' (fun j => P j ∨ j = w.heap.size) (lay3 :: r) v' k ∧ Ex (fun _ => False) w w' := by
  have hb : (⟨#[101, 116, 104, 101, 114]⟩ : ByteArray) = bs lay3 := rfl
  have H := Lib.hid h
  obtain ⟨ty, y, rfl⟩ := h.shape
  clear h
  go_enter Tryd.func49, Tryd.ntmps49
  go_wp2_with fail
  refine (wrap_any lay3 _ _ _).mono ?_
  rintro e w' ⟨rfl, rfl⟩
  go_wp2_with fail
  go_ret
  exact ⟨_, rfl, EC.wrap H.out (.inr rfl) (fun _ h => .inl h) _, (Ex.refl _ w).alloc _⟩

theorem six {l : List UInt8} (h : 6 ≤ l.length) : ∃ a b c d e f r, l = a :: b :: c :: d :: e :: f :: r := by
  match l, h with
  | a :: b :: c :: d :: e :: f :: r, _ => exact ⟨a, b, c, d, e, f, r, rfl⟩
theorem byte_size : (Tryd.prog.info? 5).map (·.size) = some 1 := by kernel_rfl

set_option maxRecDepth 100000 in
set_option maxHeartbeats 1000000 in
theorem mac_any (p g o : Nat) (a0 a1 a2 a3 a4 a5 : UInt8) (r : List UInt8) (w : World) (h : RD w p g o (a0 :: a1 :: a2 :: a3 :: a4 :: a5 :: r)) :
    Calls Tryd.prog 50 #[.pointer (some ⟨p, 0, none⟩)] w fun e w' => e = .returned (.tuple #[.agg #[.int .u8 (a0.toNat : Int), .int .u8 (a1.toNat : Int), .int .u8 (a2.toNat : Int), .int .u8 (a3.toNat : Int), .int .u8 (a4.toNat : Int), .int .u8 (a5.toNat : Int)], .nilIface]) ∧ RD w' p g (o + 6) r ∧ Ex (fun j => j = p) w w' := by
  have hpl := h.lt
  have hgl := h.ltg (by simp)
  have H := Lib.hid h
  clear h
  go_enter Tryd.func50, Tryd.ntmps50
  go_wp2_with fail
  have ha : Ex (fun _ => False) w (w.alloc (.cells #[.int .u8 0, .int .u8 0, .int .u8 0, .int .u8 0, .int .u8 0, .int .u8 0] 74)) := (Ex.refl _ w).alloc _
  have hb := heap_alloc_new w (.cells #[.int .u8 0, .int .u8 0, .int .u8 0, .int .u8 0, .int .u8 0, .int .u8 0] 74)
  have hr1 := H.out.keep ha id (fun _ => id)
  generalize w.alloc (.cells #[.int .u8 0, .int .u8 0, .int .u8 0, .int .u8 0, .int .u8 0, .int .u8 0] 74) = w1 at ha hb hr1 ⊢
  refine (rbytes_any p g o _ 6 w1 hr1 (by simp)).mono ?_
  rintro e w2 ⟨u, rfl, A, rfl, hA, hb2, hr2, hx2⟩
  obtain rfl : A = some ⟨g, o, none⟩ := hA.resolve_left (by simp)
  have hlt1 : w.heap.size < w1.heap.size := (Array.getElem?_eq_some_iff.1 hb).1
  have hb' := (hx2.block w.heap.size hlt1 (by omega)).trans hb
  have hsrc : ∀ j v, [Value.int .u8 (a0.toNat : Int), .int .u8 (a1.toNat : Int), .int .u8 (a2.toNat : Int), .int .u8 (a3.toNat : Int), .int .u8 (a4.toNat : Int), .int .u8 (a5.toNat : Int)][j]? = some v → w2.cell? ((⟨g, o, none⟩ : Addr).add j) = some v := by
    intro j v hv
    have hj := (List.getElem?_eq_some_iff.1 hv).1
    obtain ⟨_, A', c', e, _, hq⟩ := hb2
    injection e with e1 e2 e3
    obtain ⟨b', off', e4, _, h5⟩ := hq j (by simpa using hj)
    rw [← e1] at e4
    have e4 := Option.some.inj e4
    injection e4 with e5 e6
    subst e5 e6
    rw [Addr.add_lit, h5, ← hv]
    have : j = 0 ∨ j = 1 ∨ j = 2 ∨ j = 3 ∨ j = 4 ∨ j = 5 := by simp at hj; omega
    rcases this with rfl | rfl | rfl | rfl | rfl | rfl <;> rfl
  have HR2 := Lib.hid hr2
  have HX2 := Lib.hid ((ha.mono (T := fun j => j = p) (fun _ _ h => h.elim)).andThen hx2 (fun i _ e => e))
  have HB2 := Lib.hid hb'
  clear hb2 hr2 hx2 hb hb' ha hr1 hA
  obtain ⟨w3, hcp, hb3, hx3⟩ : ∃ w3, (Builtin.copy_ #[23, 23] 3 #[.slice (some ⟨w.heap.size, 0, none⟩) 6 6, .slice (some ⟨g, o, none⟩) 6 6]).run Tryd.prog w2 = .ok (.int .i64 6) w3 ∧
      w3.heap[w.heap.size]? = some (.cells #[.int .u8 (a0.toNat : Int), .int .u8 (a1.toNat : Int), .int .u8 (a2.toNat : Int), .int .u8 (a3.toNat : Int), .int .u8 (a4.toNat : Int), .int .u8 (a5.toNat : Int)] 74) ∧ Ex (fun j => j = w.heap.size) w2 w3 :=
    ⟨_, run_copy_row (P := Tryd.prog) w2 23 23 3 5 w.heap.size 0 6 6 ⟨g, o, none⟩ 6 6 _ 74 [.int .u8 (a0.toNat : Int), .int .u8 (a1.toNat : Int), .int .u8 (a2.toNat : Int), .int .u8 (a3.toNat : Int), .int .u8 (a4.toNat : Int), .int .u8 (a5.toNat : Int)] Tryd.underlying23 byte_size HB2.out rfl hsrc (by simp) (by simp [Value.oneCell']),
      setRow_heap _ _ _ _ _ _ HB2.out, ⟨rfl, rfl, rfl, by simp [World.setRow], fun k _ hk => setRow_other _ _ _ _ hk⟩⟩
  have c0 : w3.cell? ⟨w.heap.size, 0, none⟩ = some (.int .u8 (a0.toNat : Int)) := by simp [World.cell?, hb3]
  have f0 : w3.frozen? ⟨w.heap.size, 0, none⟩ = false := by simp [World.frozen?, hb3]
  have c1 : w3.cell? ⟨w.heap.size, 1, none⟩ = some (.int .u8 (a1.toNat : Int)) := by simp [World.cell?, hb3]
  have f1 : w3.frozen? ⟨w.heap.size, 1, none⟩ = false := by simp [World.frozen?, hb3]
  have c2 : w3.cell? ⟨w.heap.size, 2, none⟩ = some (.int .u8 (a2.toNat : Int)) := by simp [World.cell?, hb3]
  have f2 : w3.frozen? ⟨w.heap.size, 2, none⟩ = false := by simp [World.frozen?, hb3]
  have c3 : w3.cell? ⟨w.heap.size, 3, none⟩ = some (.int .u8 (a3.toNat : Int)) := by simp [World.cell?, hb3]
  have f3 : w3.frozen? ⟨w.heap.size, 3, none⟩ = false := by simp [World.frozen?, hb3]
  have c4 : w3.cell? ⟨w.heap.size, 4, none⟩ = some (.int .u8 (a4.toNat : Int)) := by simp [World.cell?, hb3]
  have f4 : w3.frozen? ⟨w.heap.size, 4, none⟩ = false := by simp [World.frozen?, hb3]
  have c5 : w3.cell? ⟨w.heap.size, 5, none⟩ = some (.int .u8 (a5.toNat : Int)) := by simp [World.cell?, hb3]
  have f5 : w3.frozen? ⟨w.heap.size, 5, none⟩ = false := by simp [World.frozen?, hb3]
  have HR3 := Lib.hid (HR2.out.keep hx3 (by omega) (fun _ e => by omega))
  have HX3 := Lib.hid (HX2.out.andThen hx3 (fun i hi e => by omega))
  clear hb3 hx3 HB2 hsrc HR2 HX2
  have HX4 := Lib.hid (((((((Ex.refl (fun j => j = w.heap.size) w3).setCell (p := ⟨w.heap.size, 0, none⟩) (.inl rfl) (.int .u8 (a0.toNat : Int))).setCell (p := ⟨w.heap.size, 1, none⟩) (.inl rfl) (.int .u8 (a1.toNat : Int))).setCell (p := ⟨w.heap.size, 2, none⟩) (.inl rfl) (.int .u8 (a2.toNat : Int))).setCell (p := ⟨w.heap.size, 3, none⟩) (.inl rfl) (.int .u8 (a3.toNat : Int))).setCell (p := ⟨w.heap.size, 4, none⟩) (.inl rfl) (.int .u8 (a4.toNat : Int))).setCell (p := ⟨w.heap.size, 5, none⟩) (.inl rfl) (.int .u8 (a5.toNat : Int)))
  go_wp2
  (try simp only [Exit.inBlock, Exit.then])
  refine bodyPost_ret (v := .tuple #[.agg #[.int .u8 (a0.toNat : Int), .int .u8 (a1.toNat : Int), .int .u8 (a2.toNat : Int), .int .u8 (a3.toNat : Int), .int .u8 (a4.toNat : Int), .int .u8 (a5.toNat : Int)], .nilIface]) ?_ rfl ⟨rfl, HR3.out.keep HX4.out (by omega) (fun _ e => by omega), HX3.out.andThen HX4.out (fun i hi e => by omega)⟩
  rw [results_cell_tmp rfl]
  go_simp

set_option maxRecDepth 100000 in
theorem mac_few (p g o : Nat) (l : List UInt8) (w : World) (h : RD w p g o l) (hl : l.length < 6) :
    Calls Tryd.prog 50 #[.pointer (some ⟨p, 0, none⟩)] w fun e w' => ∃ v, e = .returned (.tuple #[.agg #[.int .u8 0, .int .u8 0, .int .u8 0, .int .u8 0, .int .u8 0, .int .u8 0], v]) ∧ EC w' (fun j => w.heap.size ≤ j) [lay1] v 2 ∧ Ex (fun _ => False) w w' := by
  have H := Lib.hid h
  clear h
  go_enter Tryd.func50, Tryd.ntmps50
  go_wp2_with fail
  have ha : Ex (fun _ => False) w (w.alloc (.cells #[.int .u8 0, .int .u8 0, .int .u8 0, .int .u8 0, .int .u8 0, .int .u8 0] 74)) := (Ex.refl _ w).alloc _
  have hb := heap_alloc_new w (.cells #[.int .u8 0, .int .u8 0, .int .u8 0, .int .u8 0, .int .u8 0, .int .u8 0] 74)
  have hr1 := H.out.keep ha id (fun _ => id)
  generalize w.alloc (.cells #[.int .u8 0, .int .u8 0, .int .u8 0, .int .u8 0, .int .u8 0, .int .u8 0] 74) = w1 at ha hb hr1 ⊢
  refine (rbytes_few p g o l 6 w1 hr1 (by omega)).mono ?_
  rintro e w2 ⟨v, rfl, he, hx2⟩
  have hlt1 : w.heap.size < w1.heap.size := (Array.getElem?_eq_some_iff.1 hb).1
  have hb' := (hx2.block w.heap.size hlt1 id).trans hb
  have HX2 := Lib.hid (ha.trans hx2)
  have HE2 := Lib.hid he
  have c0 : w2.cell? ⟨w.heap.size, 0, none⟩ = some (.int .u8 0) := by simp [World.cell?, hb']
  have f0 : w2.frozen? ⟨w.heap.size, 0, none⟩ = false := by simp [World.frozen?, hb']
  have c1 : w2.cell? ⟨w.heap.size, 1, none⟩ = some (.int .u8 0) := by simp [World.cell?, hb']
  have f1 : w2.frozen? ⟨w.heap.size, 1, none⟩ = false := by simp [World.frozen?, hb']
  have c2 : w2.cell? ⟨w.heap.size, 2, none⟩ = some (.int .u8 0) := by simp [World.cell?, hb']
  have f2 : w2.frozen? ⟨w.heap.size, 2, none⟩ = false := by simp [World.frozen?, hb']
  have c3 : w2.cell? ⟨w.heap.size, 3, none⟩ = some (.int .u8 0) := by simp [World.cell?, hb']
  have f3 : w2.frozen? ⟨w.heap.size, 3, none⟩ = false := by simp [World.frozen?, hb']
  have c4 : w2.cell? ⟨w.heap.size, 4, none⟩ = some (.int .u8 0) := by simp [World.cell?, hb']
  have f4 : w2.frozen? ⟨w.heap.size, 4, none⟩ = false := by simp [World.frozen?, hb']
  have c5 : w2.cell? ⟨w.heap.size, 5, none⟩ = some (.int .u8 0) := by simp [World.cell?, hb']
  have f5 : w2.frozen? ⟨w.heap.size, 5, none⟩ = false := by simp [World.frozen?, hb']
  have hcp : (Builtin.copy_ #[23, 23] 3 #[.slice (some ⟨w.heap.size, 0, none⟩) 6 6, .slice none 0 0]).run Tryd.prog w2 = .ok (goInt 0) w2 := run_copy_nil (P := Tryd.prog) w2 23 23 3 5 ⟨w.heap.size, 0, none⟩ 6 6 Tryd.underlying23 (by rw [byte_size]; rfl)
  have hw1 := ha.size
  clear hb hb' hx2 he ha hr1
  have HX4 := Lib.hid (((((((Ex.refl (fun j => j = w.heap.size) w2).setCell (p := ⟨w.heap.size, 0, none⟩) (.inl rfl) (.int .u8 0)).setCell (p := ⟨w.heap.size, 1, none⟩) (.inl rfl) (.int .u8 0)).setCell (p := ⟨w.heap.size, 2, none⟩) (.inl rfl) (.int .u8 0)).setCell (p := ⟨w.heap.size, 3, none⟩) (.inl rfl) (.int .u8 0)).setCell (p := ⟨w.heap.size, 4, none⟩) (.inl rfl) (.int .u8 0)).setCell (p := ⟨w.heap.size, 5, none⟩) (.inl rfl) (.int .u8 0))
  go_wp2
  (try simp only [Exit.inBlock, Exit.then])
  refine bodyPost_ret (v := .tuple #[.agg #[.int .u8 0, .int .u8 0, .int .u8 0, .int .u8 0, .int .u8 0, .int .u8 0], v]) ?_ rfl ⟨v, rfl, EC.mono (fun j hj => by omega) (HE2.out.keep HX4.out (fun j hj e => by omega)), HX2.out.andThen HX4.out (fun i hi e => by omega)⟩
  rw [results_cell_tmp rfl]
  go_simp

theorem and_one_all : ∀ n : Fin 256, Go.bits .and .u8 (n.val : Int) 1 = ((n.val % 2 : Nat) : Int) := by decide +kernel
theorem and_one (a : UInt8) : Go.bits .and .u8 (a.toNat : Int) 1 = ((a.toNat % 2 : Nat) : Int) := and_one_all ⟨a.toNat, a.toNat_lt⟩
theorem group_any (a0 a1 a2 a3 a4 a5 : UInt8) (w : World) :
    Calls Tryd.prog 40 #[.agg #[.int .u8 (a0.toNat : Int), .int .u8 (a1.toNat : Int), .int .u8 (a2.toNat : Int), .int .u8 (a3.toNat : Int), .int .u8 (a4.toNat : Int), .int .u8 (a5.toNat : Int)]] w fun e w' => e = .returned (.bool (decide (a0.toNat % 2 = 1))) ∧ Ex (fun _ => False) w w' := by
  go_enter Tryd.func40, Tryd.ntmps40
  go_wp2
  go_ret
  refine ⟨?_, (Ex.refl _ w).alloc _⟩
  show Ending.returned (.bool (Go.bits .and .u8 (a0.toNat : Int) 1 == 1)) = _
  rw [and_one]
  by_cases h : a0.toNat % 2 = 1
  · simp [h]
  · have h0 : a0.toNat % 2 = 0 := by omega
    simp [h0]
end Go.Proofs.YtkgieciamophkaaDoor
