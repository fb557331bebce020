/-
  The walk of OctetsBack. By an AI agent.
-/
import Derived.Test.YtkgieciamophkaaDoorBackLaw01
import Derived.Deep.DeepCutAuto
import Derived.Deep.CutBlock
import Derived.Deep.RegionHeld
namespace Go.Proofs.YtkgieciamophkaaDoor
open Go.RowKit

theorem Tryd.info47 : (Tryd.prog.info? 47).map (fun i => (i.zero, i.size, i.bytes)) = some (some (.agg #[.int .i64 0, .int .u32 0, .slice none 0 0]), 3, 40) := by kernel_rfl

theorem rowKeep {w w' : World} {S : Nat → Prop} {B n sz : Nat} {t : TypeId} {v : Value} {vals : List Value} (h : w.ownsRow B t sz v n vals) (hx : Ex S w w') (hs : ∀ k, v.ownBlock = some k → k < w.heap.size → B ≤ k → ¬ S k) : w'.ownsRow B t sz v n vals := by
  refine ⟨h.1, ?_⟩
  rcases h.2 with hn | ⟨g, cap, cur, rfl, hb, hg, rest⟩
  · exact .inl hn
  · have hlt := (Array.getElem?_eq_some_iff.1 hg).1
    exact .inr ⟨g, cap, cur, rfl, hb, (hx.block g hlt (hs g rfl hlt hb)).trans hg, rest⟩
theorem rowShape {w : World} {B n sz : Nat} {t : TypeId} {v : Value} {vals : List Value} (h : w.ownsRow B t sz v n vals) : ∃ A c, v = .slice A n c := by
  rcases h.2 with ⟨rfl, h0⟩ | ⟨g, cap, cur, rfl, _⟩
  · exact ⟨none, 0, by rw [h0]⟩
  · exact ⟨_, _, rfl⟩
theorem flat_get : ∀ (its : List Item) (j : Nat) (h : j < its.length) (t : Nat) (u : Value), its[j].cells[t]? = some u → (its.flatMap Item.cells)[j * 3 + t]? = some u
  | [], j, h, _, _, _ => by simp at h
  | i :: r, 0, _, t, u, hu => by
    rw [List.flatMap_cons, List.getElem?_append_left]
    · simpa using hu
    · have := (List.getElem?_eq_some_iff.1 hu).1
      simpa using this
  | i :: r, j + 1, h, t, u, hu => by
    have := flat_get r j (by simpa using h) t u (by simpa using hu)
    rw [List.flatMap_cons, List.getElem?_append_right]
    · rw [← this]; congr 1; simp [Item.cells]; omega
    · simp [Item.cells]; omega
theorem rowAt {w : World} {B c : Nat} {A : Option Addr} {its : List Item} (h : w.ownsRow B 47 3 (.slice A its.length c) its.length (its.flatMap Item.cells)) (j : Nat) (hj : j < its.length) :
    ∃ g, A = some ⟨g, 0, none⟩ ∧ (B ≤ g ∧ g < w.heap.size) ∧ w.cell? ⟨g, j * 3, none⟩ = some (.int .i64 its[j].kind) ∧ w.cell? ⟨g, j * 3 + 1, none⟩ = some (.int .u32 its[j].num) ∧ w.cell? ⟨g, j * 3 + 2, none⟩ = some (.slice its[j].at' its[j].bytes.length its[j].cap) := by
  rcases h.2 with ⟨_, h0⟩ | ⟨g, cap, cur, e, hb, hg, _⟩
  · omega
  · injection e with e1 e2 e3
    subst e1 e3
    have c0 := h.cells (g := g) rfl (j * 3 + 0) _ (flat_get its j hj 0 _ rfl)
    have c1 := h.cells (g := g) rfl (j * 3 + 1) _ (flat_get its j hj 1 _ rfl)
    have c2 := h.cells (g := g) rfl (j * 3 + 2) _ (flat_get its j hj 2 _ rfl)
    simp only [Addr.add_lit, Nat.zero_add, Nat.add_zero] at c0 c1 c2
    exact ⟨g, rfl, ⟨hb, (Array.getElem?_eq_some_iff.1 hg).1⟩, c0, c1, c2⟩
theorem PutAt.keepS {w w' : World} {S : Nat → Prop} {b o c : Nat} {k n : Int} {l : List UInt8} {A : Option Addr} (h : PutAt w b o k n l A c) (hx : Ex S w w') (hs : ¬ S b) (hr : RB w' (fun _ => True) (.slice A l.length c) l) : PutAt w' b o k n l A c :=
  ⟨hx.cell h.kind hs, hx.cell h.num hs, hx.cell h.row hs, hr, h.low, h.high, h.kmin, h.kmax, h.cap, h.capn, h.none⟩
theorem putNew {b o : Nat} {nm : Int} (wr : World) (kd M : Int) (lb : List UInt8) (A' : Option Addr) (c' : Nat) (t : TypeId) (h : PutAt wr b o kd nm lb A' c') (h0 : 0 ≤ M) (h1 : M < 4294967296) :
    PutAt (wr.alloc (.cells #[.int .i64 kd, .int .u32 M, .slice A' lb.length c'] t)) wr.heap.size 0 kd M lb A' c' :=
  ⟨by rw [World.cell?_alloc_at _ _ _ _ rfl]; rfl, by rw [World.cell?_alloc_at _ _ _ _ rfl]; rfl, by rw [World.cell?_alloc_at _ _ _ _ rfl]; rfl, h.bytes.alloc _, h0, h1, h.kmin, h.kmax, h.cap, h.capn, h.none⟩
theorem putNew4 {b o : Nat} {nm : Int} (wr : World) (kd : Int) (lb l1 : List UInt8) (A' : Option Addr) (c' : Nat) (t : TypeId) (h : PutAt wr b o kd nm lb A' c') (hr : RB wr (fun _ => True) (.slice A' l1.length c') l1) (hl : l1.length ≤ c') :
    PutAt (wr.alloc (.cells #[.int .i64 kd, .int .u32 nm, .slice A' l1.length c'] t)) wr.heap.size 0 kd nm l1 A' c' :=
  ⟨by rw [World.cell?_alloc_at _ _ _ _ rfl]; rfl, by rw [World.cell?_alloc_at _ _ _ _ rfl]; rfl, by rw [World.cell?_alloc_at _ _ _ _ rfl]; rfl, hr.alloc _, h.low, h.high, h.kmin, h.kmax, hl, h.capn, h.none⟩
theorem Item.enc_num1 (n : Int) (A : Option Addr) (c : Nat) (l : List UInt8) : Item.enc ⟨1, n, A, c, l⟩ = txt n 1 := by simp [Item.enc]
theorem Item.enc_num2 (n : Int) (A : Option Addr) (c : Nat) (l : List UInt8) : Item.enc ⟨2, n, A, c, l⟩ = txt n 2 := by simp [Item.enc]
theorem Item.enc_num3 (n : Int) (A : Option Addr) (c : Nat) (l : List UInt8) : Item.enc ⟨3, n, A, c, l⟩ = txt n 4 := by simp [Item.enc]
theorem Item.enc_num4 (n : Int) (A : Option Addr) (c : Nat) (l : List UInt8) : Item.enc ⟨4, n, A, c, l⟩ = l := by simp [Item.enc]

set_option maxRecDepth 100000 in
set_option maxHeartbeats 8000000 in
theorem back_any (v : Value) (ps : List (Int × Int × List UInt8)) (cut : Bool) (w : World) (hr : RP w v ps) (hg : ET w) : Calls Tryd.prog 8 #[v, .bool cut] w fun e w' => e = .returned (.bool true) ∧ Ex (fun _ => False) w w' := by
  have HG := Lib.hid hg
  clear hg
  obtain ⟨j0, hj, hy0, hy1, hy2⟩ := info_parts Tryd.info47
  obtain ⟨hpl, A, c, rfl, hc, hcell⟩ := hr
  have HP := Lib.hid hcell
  clear hcell
  go_enter Tryd.func8, Tryd.ntmps8
  go_wp2_with fail
  refine (shown1_any w HG.out).mono ?_
  rintro e w1 ⟨rfl, hx1⟩
  have HX1 := Lib.hid hx1
  clear hx1
  go_upto_block 0 with fail
  have hw2 := WR.zero w1 38 w1.heap.size rfl
  have hx2 := HX1.out.alloc (.cells #[.slice none 0 0] 38)
  have hsw := HX1.out.size
  generalize w1.alloc (.cells #[.slice none 0 0] 38) = w2 at hw2 hx2 ⊢
  generalize w1.heap.size = p at hw2 hsw ⊢
  have HW2 := Lib.hid hw2
  have HX2 := Lib.hid hx2
  clear hw2 hx2 HX1
  go_cut [7, 8, 9] (fun own _ _ wx => ∃ (its : List Item) (q : Option Nat), its.length ≤ 50 ∧ Hid (∀ i ∈ its, i.ok w) ∧ Hid (wx.ownsRow w.heap.size 47 3 own its.length (its.flatMap Item.cells)) ∧ Hid (WR wx p q (encs its)) ∧ Hid (Ex (fun _ => False) w wx))
  case first =>
    go_wp2_with fail
    go_loopw [7, 8] (fun own i wr => ∃ (k : Nat) (its : List Item) (q : Option Nat), k ≤ 50 ∧ i = .int .i64 (k : Int) ∧ its.length ≤ k ∧ Hid (∀ i ∈ its, i.ok w) ∧ Hid (wr.ownsRow w.heap.size 47 3 own its.length (its.flatMap Item.cells)) ∧ Hid (WR wr p q (encs its)) ∧ Hid (∀ j, q = some j → w.heap.size ≤ j ∧ own.ownBlock ≠ some j) ∧ Hid (own.ownBlock ≠ some p) ∧ Hid (Ex (fun _ => False) w wr)) (fun _ i _ => 50 - (intOf i).toNat)
    case atStart => exact ⟨0, [], none, by omega, rfl, by simp, Lib.hid (by simp), Lib.hid (World.ownsRow_nil w2 _ _ 3), HW2, Lib.hid (fun j hj => by cases hj), Lib.hid (fun h => by cases h), HX2⟩
    case round =>
      clear HW2 HX2
      obtain ⟨k, its, q, hk, rfl, hil, hok, hown, hw, hq, hop, hx⟩ := hrel
      by_cases d1 : k < ps.length
      · by_cases d2 : k < 50
        · obtain ⟨b, off, A', c', rfl, hp⟩ := HP.out k d1
          have HPW := Lib.hid hp
          have HPA := Lib.hid (hp.keep hx.out)
          clear hp
          generalize ps[k].1 = kd at HPA HPW
          generalize ps[k].2.1 = nm at HPA HPW
          generalize ps[k].2.2 = lb at HPA HPW
          have g1 := HPA.out.kind
          have g2 := HPA.out.num
          have g3 := HPA.out.row
          have g4 := HPA.out.low
          have g5 := HPA.out.high
          have g6 := HPA.out.kmin
          have g7 := HPA.out.kmax
          go_upto_block 2 with fail
          have hwl := hw.out.lt
          have hwx := hx.out.size
          have hel : (encs its).length ≤ 5000 := by have := (encs_len hok.out).2; omega
          obtain ⟨l1, hm, hm1, hm100, hl1⟩ : ∃ l1 : List UInt8, (if 100 < (lb.length : Int) then (100 : Int) else (lb.length : Int)) = (l1.length : Int) ∧ l1.length ≤ lb.length ∧ l1.length ≤ 100 ∧ Hid (l1 = lb.take 100) := by
            refine ⟨lb.take 100, ?_, by simp; omega, by simp; omega, rfl⟩
            rw [List.length_take]; split <;> omega
          have hmi : (l1.length : Int) ≤ (lb.length : Int) := by omega
          have g8 := HPA.out.cap
          have g9 : l1.length ≤ c' := by omega
          go_cut [39] (fun _ wx => ∃ (nm' : Int) (l' : List UInt8) (q' : Option Nat), Hid (PutAt wx wr.heap.size 0 kd nm' l' A' c') ∧ Hid (wx.ownsRow w.heap.size 47 3 u7 its.length (its.flatMap Item.cells)) ∧ Hid (∀ j, q' = some j → w.heap.size ≤ j ∧ u7.ownBlock ≠ some j) ∧ Hid (Ex (fun _ => False) w wx) ∧
            ((Hid (Item.ok w ⟨kd, nm', A', c', l'⟩) ∧ Hid (WR wx p q' (encs its ++ Item.enc ⟨kd, nm', A', c', l'⟩))) ∨ ((kd < 1 ∨ 4 < kd ∨ (kd = 4 ∧ l'.length = 0)) ∧ Hid (WR wx p q' (encs its)))))
          case first =>
            by_cases d3 : kd = 1
            · subst d3
              as_aux_lemma =>
                have q1 : IntKind.u8.wrap (nm % 256) = (nm % 256) := by rw [IntKind.wrap_u8]; omega
                have ha : Ex (fun _ => False) wr (wr.alloc (.cells #[.int .i64 1, .int .u32 (nm % 256), .slice A' lb.length c'] 47)) := (Ex.refl _ wr).alloc _
                have hp3 := putNew wr 1 (nm % 256) lb A' c' 47 HPA.out (by omega) (by omega)
                have hw3 := hw.out.keep ha id (fun _ _ _ => id)
                have ho3 := rowKeep hown.out ha (fun _ _ _ _ => id)
                go_wp2_with fail
                refine (wu8_any p q (encs its) (nm % 256) _ (by omega) (by omega) hw3 (by omega)).mono ?_
                rintro e w4 ⟨rfl, q4, h41, h42, h43⟩
                have hq4 : ∀ j, q4 = some j → w.heap.size ≤ j ∧ u7.ownBlock ≠ some j := fun j hj => by
                  rcases h42 with e | ⟨k', e, hk'⟩
                  · exact hq.out j (e ▸ hj)
                  · rw [e] at hj; obtain rfl := Option.some.inj hj
                    refine ⟨by simp at hk'; omega, fun e' => by have := ho3.lt k' e'; omega⟩
                have hne4 : ∀ j, (j = p ∨ q = some j) → j ≠ wr.heap.size ∧ u7.ownBlock ≠ some j ∧ w.heap.size ≤ j := fun j hj => by
                  rcases hj with rfl | hj
                  · exact ⟨by have := hw.out.lt.1; omega, hop.out, hsw⟩
                  · exact ⟨by have := hw.out.lt.2 j hj; omega, (hq.out j hj).2, (hq.out j hj).1⟩
                have hx4 := (hx.out.trans ha).andThen h43 (fun i hi e => by have := (hne4 i e).2.2; omega)
                have hp4 := hp3.keepS h43 (fun e => (hne4 _ e).1 rfl) (HPW.out.bytes.keep hx4 (fun _ _ _ => id))
                have ho4 := rowKeep ho3 h43 (fun k' e1 _ _ e2 => (hne4 k' e2).2.1 e1)
                have HP4 := Lib.hid hp4
                have HO4 := Lib.hid ho4
                have HX4 := Lib.hid hx4
                have HW4 := Lib.hid h41
                have HQ4 := Lib.hid hq4
                clear hp3 hw3 ho3 h41 h42 h43 hq4 hne4 hp4 ho4 hx4 ha hw hq hx hown
                go_wp2_with fail
                go_meet
                exact ⟨(nm % 256), lb, q4, HP4, HO4, HQ4, HX4, .inl ⟨Lib.hid ⟨.inl ⟨rfl, by show nm % 256 < 256; omega⟩, by show 0 ≤ (nm % 256); omega, by show (nm % 256) < 4294967296; omega, HPW.out.bytes⟩, Lib.hid (by rw [Item.enc_num1]; exact HW4.out)⟩⟩

            by_cases d3 : kd = 2
            · subst d3
              as_aux_lemma =>
                have q1 : IntKind.u16.wrap (nm % 65536) = (nm % 65536) := by rw [IntKind.wrap_u16]; omega
                have ha : Ex (fun _ => False) wr (wr.alloc (.cells #[.int .i64 2, .int .u32 (nm % 65536), .slice A' lb.length c'] 47)) := (Ex.refl _ wr).alloc _
                have hp3 := putNew wr 2 (nm % 65536) lb A' c' 47 HPA.out (by omega) (by omega)
                have hw3 := hw.out.keep ha id (fun _ _ _ => id)
                have ho3 := rowKeep hown.out ha (fun _ _ _ _ => id)
                go_wp2_with fail
                refine (wu16_any p q (encs its) (nm % 65536) _ (by omega) (by omega) hw3 (by omega)).mono ?_
                rintro e w4 ⟨rfl, q4, h41, h42, h43⟩
                have hq4 : ∀ j, q4 = some j → w.heap.size ≤ j ∧ u7.ownBlock ≠ some j := fun j hj => by
                  rcases h42 with e | ⟨k', e, hk'⟩
                  · exact hq.out j (e ▸ hj)
                  · rw [e] at hj; obtain rfl := Option.some.inj hj
                    refine ⟨by simp at hk'; omega, fun e' => by have := ho3.lt k' e'; omega⟩
                have hne4 : ∀ j, (j = p ∨ q = some j) → j ≠ wr.heap.size ∧ u7.ownBlock ≠ some j ∧ w.heap.size ≤ j := fun j hj => by
                  rcases hj with rfl | hj
                  · exact ⟨by have := hw.out.lt.1; omega, hop.out, hsw⟩
                  · exact ⟨by have := hw.out.lt.2 j hj; omega, (hq.out j hj).2, (hq.out j hj).1⟩
                have hx4 := (hx.out.trans ha).andThen h43 (fun i hi e => by have := (hne4 i e).2.2; omega)
                have hp4 := hp3.keepS h43 (fun e => (hne4 _ e).1 rfl) (HPW.out.bytes.keep hx4 (fun _ _ _ => id))
                have ho4 := rowKeep ho3 h43 (fun k' e1 _ _ e2 => (hne4 k' e2).2.1 e1)
                have HP4 := Lib.hid hp4
                have HO4 := Lib.hid ho4
                have HX4 := Lib.hid hx4
                have HW4 := Lib.hid h41
                have HQ4 := Lib.hid hq4
                clear hp3 hw3 ho3 h41 h42 h43 hq4 hne4 hp4 ho4 hx4 ha hw hq hx hown
                go_wp2_with fail
                go_meet
                exact ⟨(nm % 65536), lb, q4, HP4, HO4, HQ4, HX4, .inl ⟨Lib.hid ⟨.inr (.inl ⟨rfl, by show nm % 65536 < 65536; omega⟩), by show 0 ≤ (nm % 65536); omega, by show (nm % 65536) < 4294967296; omega, HPW.out.bytes⟩, Lib.hid (by rw [Item.enc_num2]; exact HW4.out)⟩⟩

            by_cases d3 : kd = 3
            · subst d3
              as_aux_lemma =>
                have q1 : IntKind.u32.wrap nm = nm := by rw [IntKind.wrap_u32]; omega
                have ha : Ex (fun _ => False) wr (wr.alloc (.cells #[.int .i64 3, .int .u32 nm, .slice A' lb.length c'] 47)) := (Ex.refl _ wr).alloc _
                have hp3 := putNew wr 3 nm lb A' c' 47 HPA.out (by omega) (by omega)
                have hw3 := hw.out.keep ha id (fun _ _ _ => id)
                have ho3 := rowKeep hown.out ha (fun _ _ _ _ => id)
                go_wp2_with fail
                refine (wu32_any p q (encs its) nm _ (by omega) (by omega) hw3 (by omega)).mono ?_
                rintro e w4 ⟨rfl, q4, h41, h42, h43⟩
                have hq4 : ∀ j, q4 = some j → w.heap.size ≤ j ∧ u7.ownBlock ≠ some j := fun j hj => by
                  rcases h42 with e | ⟨k', e, hk'⟩
                  · exact hq.out j (e ▸ hj)
                  · rw [e] at hj; obtain rfl := Option.some.inj hj
                    refine ⟨by simp at hk'; omega, fun e' => by have := ho3.lt k' e'; omega⟩
                have hne4 : ∀ j, (j = p ∨ q = some j) → j ≠ wr.heap.size ∧ u7.ownBlock ≠ some j ∧ w.heap.size ≤ j := fun j hj => by
                  rcases hj with rfl | hj
                  · exact ⟨by have := hw.out.lt.1; omega, hop.out, hsw⟩
                  · exact ⟨by have := hw.out.lt.2 j hj; omega, (hq.out j hj).2, (hq.out j hj).1⟩
                have hx4 := (hx.out.trans ha).andThen h43 (fun i hi e => by have := (hne4 i e).2.2; omega)
                have hp4 := hp3.keepS h43 (fun e => (hne4 _ e).1 rfl) (HPW.out.bytes.keep hx4 (fun _ _ _ => id))
                have ho4 := rowKeep ho3 h43 (fun k' e1 _ _ e2 => (hne4 k' e2).2.1 e1)
                have HP4 := Lib.hid hp4
                have HO4 := Lib.hid ho4
                have HX4 := Lib.hid hx4
                have HW4 := Lib.hid h41
                have HQ4 := Lib.hid hq4
                clear hp3 hw3 ho3 h41 h42 h43 hq4 hne4 hp4 ho4 hx4 ha hw hq hx hown
                go_wp2_with fail
                go_meet
                exact ⟨nm, lb, q4, HP4, HO4, HQ4, HX4, .inl ⟨Lib.hid ⟨.inr (.inr (.inl rfl)), by show 0 ≤ nm; omega, by show nm < 4294967296; omega, HPW.out.bytes⟩, Lib.hid (by rw [Item.enc_num3]; exact HW4.out)⟩⟩

            by_cases d3 : kd = 4
            · subst d3
              as_aux_lemma =>
                have ha : Ex (fun _ => False) wr (wr.alloc (.cells #[.int .i64 4, .int .u32 nm, .slice A' l1.length c'] 47)) := (Ex.refl _ wr).alloc _
                have hrb := HPA.out.bytes.take 100
                have hrw := HPW.out.bytes.take 100
                rw [← hl1.out] at hrb hrw
                have hp3 := putNew4 wr 4 lb l1 A' c' 47 HPA.out hrb g9
                have hw3 := hw.out.keep ha id (fun _ _ _ => id)
                have ho3 := rowKeep hown.out ha (fun _ _ _ _ => id)
                have HRW := Lib.hid hrw
                have HRB := Lib.hid (hrb.alloc (.cells #[.int .i64 4, .int .u32 nm, .slice A' l1.length c'] 47))
                clear hrb hrw
                go_wp2_with fail
                refine (wbytes_any _ p q (encs its) l1 _ _ hw3 HRB.out (by omega)).mono ?_
                rintro e w4 ⟨rfl, q4, h41, h42, h43⟩
                have hq4 : ∀ j, q4 = some j → w.heap.size ≤ j ∧ u7.ownBlock ≠ some j := fun j hj => by
                  rcases h42 with e | ⟨k', e, hk'⟩
                  · exact hq.out j (e ▸ hj)
                  · rw [e] at hj; obtain rfl := Option.some.inj hj
                    refine ⟨by simp at hk'; omega, fun e' => by have := ho3.lt k' e'; omega⟩
                have hne4 : ∀ j, (j = p ∨ q = some j) → j ≠ wr.heap.size ∧ u7.ownBlock ≠ some j ∧ w.heap.size ≤ j := fun j hj => by
                  rcases hj with rfl | hj
                  · exact ⟨by have := hw.out.lt.1; omega, hop.out, hsw⟩
                  · exact ⟨by have := hw.out.lt.2 j hj; omega, (hq.out j hj).2, (hq.out j hj).1⟩
                have hx4 := (hx.out.trans ha).andThen h43 (fun i hi e => by have := (hne4 i e).2.2; omega)
                have hp4 := hp3.keepS h43 (fun e => (hne4 _ e).1 rfl) (HRW.out.keep hx4 (fun _ _ _ => id))
                have ho4 := rowKeep ho3 h43 (fun k' e1 _ _ e2 => (hne4 k' e2).2.1 e1)
                have HP4 := Lib.hid hp4
                have HO4 := Lib.hid ho4
                have HX4 := Lib.hid hx4
                have HW4 := Lib.hid h41
                have HQ4 := Lib.hid hq4
                clear hp3 hw3 ho3 h41 h42 h43 hq4 hne4 hp4 ho4 hx4 ha hw hq hx hown
                go_wp2_with fail
                go_meet
                by_cases h0 : l1.length = 0
                · have hnil := List.length_eq_zero_iff.1 h0
                  exact ⟨nm, l1, q4, HP4, HO4, HQ4, HX4, .inr ⟨.inr (.inr (by first | exact ⟨rfl, h0⟩ | exact ⟨trivial, h0⟩)), Lib.hid (by have := HW4.out; rw [hnil, List.append_nil] at this; exact this)⟩⟩
                · exact ⟨nm, l1, q4, HP4, HO4, HQ4, HX4, .inl ⟨Lib.hid ⟨.inr (.inr (.inr ⟨rfl, by show 0 < l1.length; omega, by show l1.length ≤ 100; omega⟩)), by show 0 ≤ nm; omega, by show nm < 4294967296; omega, HRW.out⟩, Lib.hid (by rw [Item.enc_num4]; exact HW4.out)⟩⟩
            · go_wp2_with fail
              go_meet
              exact ⟨nm, lb, q, Lib.hid (putNew wr kd nm lb A' c' 47 HPA.out g4 g5), Lib.hid (rowKeep hown.out ((Ex.refl (fun _ => False) wr).alloc _) (fun _ _ _ _ => id)), hq, Lib.hid (hx.out.alloc _), .inr ⟨by omega, Lib.hid (hw.out.keep ((Ex.refl (fun _ => False) wr).alloc _) id (fun _ _ _ => id))⟩⟩
          case rest =>
            clear hw hq hx hown
            obtain ⟨nm', l', q', hP, hO, hQ, hX, hcase⟩ := hcut
            have c0 : wc.cell? ⟨wr.heap.size, 0, none⟩ = some (.int .i64 kd) := hP.out.kind
            have c1 : wc.cell? ⟨wr.heap.size, 1, none⟩ = some (.int .u32 nm') := hP.out.num
            have c2 : wc.cell? ⟨wr.heap.size, 2, none⟩ = some (.slice A' l'.length c') := hP.out.row
            have hwx := hX.out.size
            rcases hcase with ⟨hI, hW⟩ | ⟨hno, hW⟩
            · have hI' := hI
              rcases hI.out.some with ⟨hk1, _⟩ | ⟨hk1, _⟩ | hk1 | ⟨hk1, hk2, hk3⟩
              all_goals (simp only at hk1; subst hk1)
              ·
                as_aux_lemma =>
                  go_wp2_with (at_builtin; refine wpList_append_row rfl (.tmp 100) (.tmp 102) 45 rfl w.heap.size 47 j0 (.agg #[.int .i64 0, .int .u32 0, .slice none 0 0]) 3 40 Tryd.underlying45 hj hy0 hy1 hy2 rfl (by decide) u7 its.length (its.flatMap Item.cells) rfl ?c0 (some ⟨wc.heap.size, 0, none⟩) 1 1 rfl [.int .i64 1, .int .u32 nm', .slice A' l'.length c'] rfl ?c1 ?c2 ?c3 ?c4 ?c5 ?_; (case c0 => exact rowKeep hO.out ((Ex.refl (fun _ => False) wc).alloc _) (fun _ _ _ _ => id)); (case c1 => exact new_cells wc #[.int .i64 1, .int .u32 nm', .slice A' l'.length c'] 47); (case c2 => intro u hu; simp at hu; rcases hu with rfl | rfl | rfl <;> rfl); (case c3 => simp only [maxLen]; omega); (case c4 => omega); (case c5 => simp; omega); intro v5 w5 ho5 hg5 hn5 hb5)
                  have hcx : Ex (fun j => u7.ownBlock = some j) wc w5 := (((Ex.refl (fun j => u7.ownBlock = some j) wc).alloc _).grown hg5 (fun k hk => .inl hk))
                  have hol := hO.out.lt
                  have hwl5 := hW.out.lt
                  have HX5 := Lib.hid (hX.out.andThen hcx (fun i hi e => by have := (hol i e).1; omega))
                  have HW5 := Lib.hid (hW.out.keep hcx hop.out (fun k hk _ e => (hQ.out k hk).2 e))
                  have hopo := hop.out
                  have HP5 : Hid (v5.ownBlock ≠ some p) := by
                    show v5.ownBlock ≠ some p
                    rcases hb5 with e | e
                    · rw [e]; exact hopo
                    · rw [e]; intro e'; have := Option.some.inj e'; simp at this; have := hwl5.1; omega
                  have HQ5 : Hid (∀ j, q' = some j → w.heap.size ≤ j ∧ v5.ownBlock ≠ some j) := by
                    intro j hj
                    refine ⟨(hQ.out j hj).1, ?_⟩
                    rcases hb5 with e | e
                    · rw [e]; exact (hQ.out j hj).2
                    · rw [e]; intro e'; have := Option.some.inj e'; simp at this; have := hwl5.2 j hj; omega
                  have HO5 : Hid (w5.ownsRow w.heap.size 47 3 v5 (its ++ [(⟨1, nm', A', c', l'⟩ : Item)]).length ((its ++ [(⟨1, nm', A', c', l'⟩ : Item)]).flatMap Item.cells)) := by
                    show w5.ownsRow _ _ _ _ _ _
                    rw [List.flatMap_append, List.length_append]
                    exact ho5
                  clear ho5 hg5 hn5 hb5 hcx hol hwl5
                  go_wp2_with fail
                  go_roundw
                  case rel => exact ⟨k + 1, its ++ [⟨1, nm', A', c', l'⟩], q', by omega, by go_num, by simp; omega, Lib.hid (fun i hi => by
                      rcases List.mem_append.1 hi with h | h
                      · exact hok.out i h
                      · obtain rfl := List.mem_singleton.1 h; exact hI'.out), HO5, Lib.hid (by rw [encs_snoc]; exact HW5.out), HQ5, HP5, HX5⟩
                  case measure => simp [intOf]; omega
              ·
                as_aux_lemma =>
                  go_wp2_with (at_builtin; refine wpList_append_row rfl (.tmp 100) (.tmp 102) 45 rfl w.heap.size 47 j0 (.agg #[.int .i64 0, .int .u32 0, .slice none 0 0]) 3 40 Tryd.underlying45 hj hy0 hy1 hy2 rfl (by decide) u7 its.length (its.flatMap Item.cells) rfl ?c0 (some ⟨wc.heap.size, 0, none⟩) 1 1 rfl [.int .i64 2, .int .u32 nm', .slice A' l'.length c'] rfl ?c1 ?c2 ?c3 ?c4 ?c5 ?_; (case c0 => exact rowKeep hO.out ((Ex.refl (fun _ => False) wc).alloc _) (fun _ _ _ _ => id)); (case c1 => exact new_cells wc #[.int .i64 2, .int .u32 nm', .slice A' l'.length c'] 47); (case c2 => intro u hu; simp at hu; rcases hu with rfl | rfl | rfl <;> rfl); (case c3 => simp only [maxLen]; omega); (case c4 => omega); (case c5 => simp; omega); intro v5 w5 ho5 hg5 hn5 hb5)
                  have hcx : Ex (fun j => u7.ownBlock = some j) wc w5 := (((Ex.refl (fun j => u7.ownBlock = some j) wc).alloc _).grown hg5 (fun k hk => .inl hk))
                  have hol := hO.out.lt
                  have hwl5 := hW.out.lt
                  have HX5 := Lib.hid (hX.out.andThen hcx (fun i hi e => by have := (hol i e).1; omega))
                  have HW5 := Lib.hid (hW.out.keep hcx hop.out (fun k hk _ e => (hQ.out k hk).2 e))
                  have hopo := hop.out
                  have HP5 : Hid (v5.ownBlock ≠ some p) := by
                    show v5.ownBlock ≠ some p
                    rcases hb5 with e | e
                    · rw [e]; exact hopo
                    · rw [e]; intro e'; have := Option.some.inj e'; simp at this; have := hwl5.1; omega
                  have HQ5 : Hid (∀ j, q' = some j → w.heap.size ≤ j ∧ v5.ownBlock ≠ some j) := by
                    intro j hj
                    refine ⟨(hQ.out j hj).1, ?_⟩
                    rcases hb5 with e | e
                    · rw [e]; exact (hQ.out j hj).2
                    · rw [e]; intro e'; have := Option.some.inj e'; simp at this; have := hwl5.2 j hj; omega
                  have HO5 : Hid (w5.ownsRow w.heap.size 47 3 v5 (its ++ [(⟨2, nm', A', c', l'⟩ : Item)]).length ((its ++ [(⟨2, nm', A', c', l'⟩ : Item)]).flatMap Item.cells)) := by
                    show w5.ownsRow _ _ _ _ _ _
                    rw [List.flatMap_append, List.length_append]
                    exact ho5
                  clear ho5 hg5 hn5 hb5 hcx hol hwl5
                  go_wp2_with fail
                  go_roundw
                  case rel => exact ⟨k + 1, its ++ [⟨2, nm', A', c', l'⟩], q', by omega, by go_num, by simp; omega, Lib.hid (fun i hi => by
                      rcases List.mem_append.1 hi with h | h
                      · exact hok.out i h
                      · obtain rfl := List.mem_singleton.1 h; exact hI'.out), HO5, Lib.hid (by rw [encs_snoc]; exact HW5.out), HQ5, HP5, HX5⟩
                  case measure => simp [intOf]; omega
              ·
                as_aux_lemma =>
                  go_wp2_with (at_builtin; refine wpList_append_row rfl (.tmp 100) (.tmp 102) 45 rfl w.heap.size 47 j0 (.agg #[.int .i64 0, .int .u32 0, .slice none 0 0]) 3 40 Tryd.underlying45 hj hy0 hy1 hy2 rfl (by decide) u7 its.length (its.flatMap Item.cells) rfl ?c0 (some ⟨wc.heap.size, 0, none⟩) 1 1 rfl [.int .i64 3, .int .u32 nm', .slice A' l'.length c'] rfl ?c1 ?c2 ?c3 ?c4 ?c5 ?_; (case c0 => exact rowKeep hO.out ((Ex.refl (fun _ => False) wc).alloc _) (fun _ _ _ _ => id)); (case c1 => exact new_cells wc #[.int .i64 3, .int .u32 nm', .slice A' l'.length c'] 47); (case c2 => intro u hu; simp at hu; rcases hu with rfl | rfl | rfl <;> rfl); (case c3 => simp only [maxLen]; omega); (case c4 => omega); (case c5 => simp; omega); intro v5 w5 ho5 hg5 hn5 hb5)
                  have hcx : Ex (fun j => u7.ownBlock = some j) wc w5 := (((Ex.refl (fun j => u7.ownBlock = some j) wc).alloc _).grown hg5 (fun k hk => .inl hk))
                  have hol := hO.out.lt
                  have hwl5 := hW.out.lt
                  have HX5 := Lib.hid (hX.out.andThen hcx (fun i hi e => by have := (hol i e).1; omega))
                  have HW5 := Lib.hid (hW.out.keep hcx hop.out (fun k hk _ e => (hQ.out k hk).2 e))
                  have hopo := hop.out
                  have HP5 : Hid (v5.ownBlock ≠ some p) := by
                    show v5.ownBlock ≠ some p
                    rcases hb5 with e | e
                    · rw [e]; exact hopo
                    · rw [e]; intro e'; have := Option.some.inj e'; simp at this; have := hwl5.1; omega
                  have HQ5 : Hid (∀ j, q' = some j → w.heap.size ≤ j ∧ v5.ownBlock ≠ some j) := by
                    intro j hj
                    refine ⟨(hQ.out j hj).1, ?_⟩
                    rcases hb5 with e | e
                    · rw [e]; exact (hQ.out j hj).2
                    · rw [e]; intro e'; have := Option.some.inj e'; simp at this; have := hwl5.2 j hj; omega
                  have HO5 : Hid (w5.ownsRow w.heap.size 47 3 v5 (its ++ [(⟨3, nm', A', c', l'⟩ : Item)]).length ((its ++ [(⟨3, nm', A', c', l'⟩ : Item)]).flatMap Item.cells)) := by
                    show w5.ownsRow _ _ _ _ _ _
                    rw [List.flatMap_append, List.length_append]
                    exact ho5
                  clear ho5 hg5 hn5 hb5 hcx hol hwl5
                  go_wp2_with fail
                  go_roundw
                  case rel => exact ⟨k + 1, its ++ [⟨3, nm', A', c', l'⟩], q', by omega, by go_num, by simp; omega, Lib.hid (fun i hi => by
                      rcases List.mem_append.1 hi with h | h
                      · exact hok.out i h
                      · obtain rfl := List.mem_singleton.1 h; exact hI'.out), HO5, Lib.hid (by rw [encs_snoc]; exact HW5.out), HQ5, HP5, HX5⟩
                  case measure => simp [intOf]; omega
              ·
                as_aux_lemma =>
                  have hlp : 0 < l'.length := hk2
                  go_wp2_with (at_builtin; refine wpList_append_row rfl (.tmp 100) (.tmp 102) 45 rfl w.heap.size 47 j0 (.agg #[.int .i64 0, .int .u32 0, .slice none 0 0]) 3 40 Tryd.underlying45 hj hy0 hy1 hy2 rfl (by decide) u7 its.length (its.flatMap Item.cells) rfl ?c0 (some ⟨wc.heap.size, 0, none⟩) 1 1 rfl [.int .i64 4, .int .u32 nm', .slice A' l'.length c'] rfl ?c1 ?c2 ?c3 ?c4 ?c5 ?_; (case c0 => exact rowKeep hO.out ((Ex.refl (fun _ => False) wc).alloc _) (fun _ _ _ _ => id)); (case c1 => exact new_cells wc #[.int .i64 4, .int .u32 nm', .slice A' l'.length c'] 47); (case c2 => intro u hu; simp at hu; rcases hu with rfl | rfl | rfl <;> rfl); (case c3 => simp only [maxLen]; omega); (case c4 => omega); (case c5 => simp; omega); intro v5 w5 ho5 hg5 hn5 hb5)
                  have hcx : Ex (fun j => u7.ownBlock = some j) wc w5 := (((Ex.refl (fun j => u7.ownBlock = some j) wc).alloc _).grown hg5 (fun k hk => .inl hk))
                  have hol := hO.out.lt
                  have hwl5 := hW.out.lt
                  have HX5 := Lib.hid (hX.out.andThen hcx (fun i hi e => by have := (hol i e).1; omega))
                  have HW5 := Lib.hid (hW.out.keep hcx hop.out (fun k hk _ e => (hQ.out k hk).2 e))
                  have hopo := hop.out
                  have HP5 : Hid (v5.ownBlock ≠ some p) := by
                    show v5.ownBlock ≠ some p
                    rcases hb5 with e | e
                    · rw [e]; exact hopo
                    · rw [e]; intro e'; have := Option.some.inj e'; simp at this; have := hwl5.1; omega
                  have HQ5 : Hid (∀ j, q' = some j → w.heap.size ≤ j ∧ v5.ownBlock ≠ some j) := by
                    intro j hj
                    refine ⟨(hQ.out j hj).1, ?_⟩
                    rcases hb5 with e | e
                    · rw [e]; exact (hQ.out j hj).2
                    · rw [e]; intro e'; have := Option.some.inj e'; simp at this; have := hwl5.2 j hj; omega
                  have HO5 : Hid (w5.ownsRow w.heap.size 47 3 v5 (its ++ [(⟨4, nm', A', c', l'⟩ : Item)]).length ((its ++ [(⟨4, nm', A', c', l'⟩ : Item)]).flatMap Item.cells)) := by
                    show w5.ownsRow _ _ _ _ _ _
                    rw [List.flatMap_append, List.length_append]
                    exact ho5
                  clear ho5 hg5 hn5 hb5 hcx hol hwl5
                  go_wp2_with fail
                  go_roundw
                  case rel => exact ⟨k + 1, its ++ [⟨4, nm', A', c', l'⟩], q', by omega, by go_num, by simp; omega, Lib.hid (fun i hi => by
                      rcases List.mem_append.1 hi with h | h
                      · exact hok.out i h
                      · obtain rfl := List.mem_singleton.1 h; exact hI'.out), HO5, Lib.hid (by rw [encs_snoc]; exact HW5.out), HQ5, HP5, HX5⟩
                  case measure => simp [intOf]; omega
            · rcases hno with h | h | ⟨rfl, h⟩
              · go_wp2_with fail
                go_roundw
                case rel => exact ⟨k + 1, its, q', by omega, by go_num, by omega, hok, hO, hW, hQ, hop, hX⟩
                case measure => simp [intOf]; omega
              · go_wp2_with fail
                go_roundw
                case rel => exact ⟨k + 1, its, q', by omega, by go_num, by omega, hok, hO, hW, hQ, hop, hX⟩
                case measure => simp [intOf]; omega
              · go_wp2_with fail
                go_roundw
                case rel => exact ⟨k + 1, its, q', by omega, by go_num, by omega, hok, hO, hW, hQ, hop, hX⟩
                case measure => simp [intOf]; omega
        · go_wp2_with fail
          go_meet
          exact ⟨its, q, by omega, hok, hown, hw, hx⟩
      · go_wp2_with fail
        go_meet
        exact ⟨its, q, by omega, hok, hown, hw, hx⟩
  case rest =>
    obtain ⟨its, q, hil, hok, hown, hw, hx⟩ := hcut
    have hel : (encs its).length ≤ 5000 := by have := (encs_len hok.out).2; omega
    have hlen := (encs_len hok.out).1
    obtain ⟨AO, cO, rfl⟩ := rowShape hown.out
    go_wp2_with fail
    refine (wdone_any p q (encs its) wc hw.out (by omega)).mono ?_
    rintro e w5 ⟨A5, c5, rfl, ho5, hx5⟩
    have HO5 := Lib.hid ho5
    have HX5 := Lib.hid (hx.out.trans hx5)
    have HR5 := Lib.hid (rowKeep hown.out hx5 (fun _ _ _ _ => id))
    have hwc := hx.out.size
    have hw5 := hx5.size
    have hroc := hown.out.lt
    clear ho5 hx5 hx hw hown
    obtain ⟨E, hE⟩ : ∃ E, E = encs its := ⟨_, rfl⟩
    rw [← hE] at HO5 hel hlen ⊢
    have HEQ := Lib.hid hE
    clear hE
    go_upto_region 23 with fail
    go_cut [1] (fun x wx => x = .bool (cut && decide (0 < E.length)) ∧ wx = w5)
    case first =>
      cases cut with
      | false =>
        go_wp2_with fail
        go_meet
        exact ⟨rfl, rfl⟩
      | true =>
        go_wp2_with fail
        go_meet
        refine ⟨?_, rfl⟩
        simp
    case rest =>
      obtain ⟨rfl, rfl⟩ := hcut
      cases hcb : (cut && decide (0 < E.length)) with
      | true =>
        have hE0 : 0 < E.length := by simp at hcb; exact hcb.2
        obtain ⟨M, hM⟩ : ∃ M, M = E.dropLast := ⟨_, rfl⟩
        have hMl : M.length + 1 = E.length := by rw [hM, List.length_dropLast]; omega
        have hi1 : (E.length : Int) - 1 = (M.length : Int) := by omega
        have qm := IntWalk.i64_in (M.length : Int) (by omega)
        have hbM : RB wc (fun _ => True) (.slice (some A5) M.length c5) M := by
          have h1 := HO5.out.rb.any.take M.length
          have h2 : E.take M.length = M := by rw [hM, List.length_dropLast, ← List.dropLast_eq_take]
          rw [h2] at h1
          exact h1
        have hMR : M = rest true its 0 := by rw [hM, HEQ.out]; simp [rest]
        have HMR := Lib.hid hMR
        have HBM := Lib.hid hbM
        have hc5 : E.length ≤ c5 := by obtain ⟨_, A', c', e, h, _⟩ := HO5.out.rb; injection e with _ _ e3; rw [e3]; exact h
        have HML := Lib.hid hMl
        have hM5 : M.length ≤ 5000 := by omega
        have hmc : M.length ≤ c5 := by omega
        have hme : M.length ≤ E.length := by omega
        have hits : 0 < its.length := by
          apply Nat.pos_of_ne_zero
          intro h0
          have := List.length_eq_zero_iff.1 h0
          have h3 := HEQ.out
          rw [this] at h3
          rw [h3] at hE0
          simp [encs] at hE0
        clear hM hMR hbM hMl hcb
        go_wp2_with fail
        refine (read_any _ (some A5) M.length c5 M _ HBM.out (fun h => by cases h) (by omega)).mono ?_
        rintro e w6 ⟨rp, g, rfl, hr6, hp6, hg6, hx6⟩
        rw [HMR.out] at hr6
        have HR6 := Lib.hid hr6
        have HX6 := Lib.hid (HX5.out.trans hx6)
        have HO6 := Lib.hid (rowKeep HR5.out hx6 (fun _ _ _ _ => id))
        have hgO6 : ∀ k, (Value.slice AO its.length cO).ownBlock = some k → k ≠ rp := fun k hk => by have := (hroc k hk).2; omega
        have hwrp : w.heap.size ≤ rp := by omega
        clear hr6 hx6 hp6 hg6
        go_wp2_with fail
        go_loopw [12] (fun i wr => ∃ (j o : Nat), j ≤ its.length ∧ i = .int .i64 (j : Int) ∧ j < its.length ∧ Hid (RD wr rp g o (rest true its j)) ∧ Hid (Ex (fun x => x = rp) w6 wr)) (fun i _ => its.length - (intOf i).toNat)
        case atStart => exact ⟨0, 0, by omega, rfl, by omega, HR6, Lib.hid (Ex.refl _ w6)⟩
        case round =>
          clear HR6
          obtain ⟨j, o, hj0, rfl, hjc, hrd, hxr⟩ := hrel
          by_cases dj : j < its.length
          · obtain ⟨gO, rfl, hgO, hcO⟩ := rowAt HO6.out j dj
            have hgr : gO ≠ rp := hgO6 gO rfl
            obtain ⟨it, hit⟩ : ∃ it, its[j] = it := ⟨_, rfl⟩
            rw [hit] at hcO
            obtain ⟨C0w, C1w, C2w⟩ := hcO
            have C0 := hxr.out.cell C0w hgr
            have C1 := hxr.out.cell C1w hgr
            have C2 := hxr.out.cell C2w hgr
            by_cases hlj : j + 1 = its.length
            · have hlast := rest_last (w := w) its hok.out j dj hlj
              have hi := Lib.hid (hok.out it (by rw [← hit]; exact List.getElem_mem dj))
              obtain ⟨R, hR⟩ : ∃ R, R = rest true its j := ⟨_, rfl⟩
              rw [← hR] at hlast hrd
              rw [hit] at hlast
              clear hR
              have qj := IntWalk.i64_in ((its.length : Int) - 1) (by omega)
              have hjl : ((j : Int) == (its.length : Int) - 1) = true := by simp; omega
              go_upto_block 5 with fail
              go_cut [13, 14, 15] (fun _ _ x15 wx => Hid (EC wx (fun _ => True) [lay1] x15 2) ∧ Hid (Ex (fun x => x = rp) w6 wx))
              case first =>
                by_cases d3 : it.kind = 1
                ·
                  (try clear_value *)
                  as_aux_lemma =>
                    have hel : it.enc.length = 1 := by simp [Item.enc, d3, txt_len]
                    rw [hel] at hlast
                    have hb1 : (it.kind == 1) = true := by rw [d3]; rfl
                    have hb2 : (it.kind == 2) = false := by rw [d3]; rfl
                    have hb3 : (it.kind == 3) = false := by rw [d3]; rfl
                    have hb4 : (it.kind == 4) = false := by rw [d3]; rfl
                    clear d3 hel
                    go_wp2_with fail
                    refine (ru8_few rp g o R wr hrd.out (by omega)).mono ?_
                    rintro e w8 ⟨v8, rfl, he8, hx8⟩
                    have HX8 := Lib.hid (hxr.out.trans (hx8.mono (fun _ _ h => h.elim)))
                    have HE8 := Lib.hid (EC.mono (Q := fun _ => True) (fun _ _ => trivial) he8)
                    clear he8 hx8 hrd hxr
                    go_wp2_with fail
                    go_meet
                    exact ⟨HE8, HX8⟩
                by_cases d3 : it.kind = 2
                ·
                  (try clear_value *)
                  as_aux_lemma =>
                    have hel : it.enc.length = 2 := by simp [Item.enc, d3, txt_len]
                    rw [hel] at hlast
                    have hb1 : (it.kind == 1) = false := by rw [d3]; rfl
                    have hb2 : (it.kind == 2) = true := by rw [d3]; rfl
                    have hb3 : (it.kind == 3) = false := by rw [d3]; rfl
                    have hb4 : (it.kind == 4) = false := by rw [d3]; rfl
                    clear d3 hel
                    go_wp2_with fail
                    refine (ru16_few rp g o R wr hrd.out (by omega)).mono ?_
                    rintro e w8 ⟨v8, rfl, he8, hx8⟩
                    have HX8 := Lib.hid (hxr.out.trans (hx8.mono (fun _ _ h => h.elim)))
                    have HE8 := Lib.hid (EC.mono (Q := fun _ => True) (fun _ _ => trivial) he8)
                    clear he8 hx8 hrd hxr
                    go_wp2_with fail
                    go_meet
                    exact ⟨HE8, HX8⟩
                by_cases d3 : it.kind = 3
                ·
                  (try clear_value *)
                  as_aux_lemma =>
                    have hel : it.enc.length = 4 := by simp [Item.enc, d3, txt_len]
                    rw [hel] at hlast
                    have hb1 : (it.kind == 1) = false := by rw [d3]; rfl
                    have hb2 : (it.kind == 2) = false := by rw [d3]; rfl
                    have hb3 : (it.kind == 3) = true := by rw [d3]; rfl
                    have hb4 : (it.kind == 4) = false := by rw [d3]; rfl
                    clear d3 hel
                    go_wp2_with fail
                    refine (ru32_few rp g o R wr hrd.out (by omega)).mono ?_
                    rintro e w8 ⟨v8, rfl, he8, hx8⟩
                    have HX8 := Lib.hid (hxr.out.trans (hx8.mono (fun _ _ h => h.elim)))
                    have HE8 := Lib.hid (EC.mono (Q := fun _ => True) (fun _ _ => trivial) he8)
                    clear he8 hx8 hrd hxr
                    go_wp2_with fail
                    go_meet
                    exact ⟨HE8, HX8⟩
                have d3 : it.kind = 4 := by have := hi.out.some; omega
                have hen : it.enc = it.bytes := by simp [Item.enc, d3]
                rw [hen] at hlast
                have hb1 : (it.kind == 1) = false := by rw [d3]; rfl
                have hb2 : (it.kind == 2) = false := by rw [d3]; rfl
                have hb3 : (it.kind == 3) = false := by rw [d3]; rfl
                have hb4 : (it.kind == 4) = true := by rw [d3]; rfl
                clear d3 hen
                go_wp2_with fail
                refine (rbytes_few rp g o R it.bytes.length wr hrd.out (by omega)).mono ?_
                rintro e w8 ⟨v8, rfl, he8, hx8⟩
                have HX8 := Lib.hid (hxr.out.trans (hx8.mono (fun _ _ h => h.elim)))
                have HE8 := Lib.hid (EC.mono (Q := fun _ => True) (fun _ _ => trivial) he8)
                clear he8 hx8 hrd hxr
                go_wp2_with fail
                go_meet
                exact ⟨HE8, HX8⟩
              case rest =>
                clear hrd hxr
                obtain ⟨hE, hx'⟩ := hcut
                have HXW := Lib.hid (HX6.out.andThen hx'.out (fun i hi e => by omega))
                obtain ⟨ty8, y8, rfl⟩ := hE.out.shape
                go_wp2_with fail
                refine (code_any _ _ 2 _ wc hE.out (HG.out.keep HXW.out id)).mono ?_
                rintro e w9 ⟨rfl, hx9⟩
                go_wp2_with fail
                go_ret
                exact ⟨rfl, HXW.out.trans hx9⟩
            ·
              have hi := hok.out it (by rw [← hit]; exact List.getElem_mem dj)
              have HI := Lib.hid hi
              clear hi
              have hi := HI
              obtain ⟨R, hR⟩ : ∃ R, R = rest true its j := ⟨_, rfl⟩
              obtain ⟨ht, hd, hle⟩ := rest_next (w := w) true its hok.out j dj (fun _ => by omega)
              rw [← hR] at ht hd hle hrd
              rw [hit] at ht hd hle
              have HRR := Lib.hid hR
              clear hR
              go_upto_block 5 with fail
              go_cut [13, 14, 15] (fun x13 x14 x15 wx => ∃ o' : Nat, x15 = .nilIface ∧ Hid (RD wx rp g o' (rest true its (j + 1))) ∧ Hid (Ex (fun x => x = rp) w6 wx) ∧ ((it.kind < 4 ∧ x13 = .int .u32 it.num) ∨ (it.kind = 4 ∧ ∃ A9, x14 = .slice A9 it.bytes.length it.bytes.length ∧ Hid (RB wx (fun j => j = g) x14 it.bytes))))
              case first =>
                by_cases d3 : it.kind = 1
                ·
                  (try clear_value *)
                  as_aux_lemma =>
                    have hen : it.enc = txt it.num 1 := by simp [Item.enc, d3]
                    have hel : it.enc.length = 1 := by rw [hen]; simp [txt_len]
                    rw [hel] at ht hd hle
                    rw [hen] at ht
                    have hnl : it.num < 256 ^ 1 := by
                      have h1 := hi.out.some
                      have h2 := hi.out.high
                      have : it.num < 256 := by omega
                      simpa using this
                    have hnb : (nb (R.take 1) : Int) = it.num := by rw [ht]; exact nb_txt 1 it.num hi.out.low hnl
                    have q1 : IntKind.u32.wrap it.num = it.num := by rw [IntKind.wrap_u32]; have := hi.out.low; have := hi.out.high; omega
                    have hb1 : (it.kind == 1) = true := by rw [d3]; rfl
                    have hb2 : (it.kind == 2) = false := by rw [d3]; rfl
                    have hb3 : (it.kind == 3) = false := by rw [d3]; rfl
                    have hb4 : (it.kind == 4) = false := by rw [d3]; rfl
                    have HKD := Lib.hid d3
                    have HEN := Lib.hid hen
                    have HEL := Lib.hid hel
                    have HT := Lib.hid ht
                    have HD := Lib.hid hd
                    have HNB := Lib.hid hnb
                    clear hen hel ht hd hnb hnl d3
                    go_wp2_with fail
                    refine (ru8_any rp g o R wr hrd.out hle).mono ?_
                    rintro e w8 ⟨rfl, hr8, hx8⟩
                    rw [HD.out] at hr8
                    rw [HNB.out]
                    have HX8 := Lib.hid (hxr.out.trans hx8)
                    have HR8 := Lib.hid hr8
                    clear hr8 hx8 hrd hxr
                    go_wp2_with fail
                    go_meet
                    exact ⟨o + 1, rfl, HR8, HX8, .inl ⟨by have := HKD.out; omega, rfl⟩⟩
                by_cases d3 : it.kind = 2
                ·
                  (try clear_value *)
                  as_aux_lemma =>
                    have hen : it.enc = txt it.num 2 := by simp [Item.enc, d3]
                    have hel : it.enc.length = 2 := by rw [hen]; simp [txt_len]
                    rw [hel] at ht hd hle
                    rw [hen] at ht
                    have hnl : it.num < 256 ^ 2 := by
                      have h1 := hi.out.some
                      have h2 := hi.out.high
                      have : it.num < 65536 := by omega
                      simpa using this
                    have hnb : (nb (R.take 2) : Int) = it.num := by rw [ht]; exact nb_txt 2 it.num hi.out.low hnl
                    have q1 : IntKind.u32.wrap it.num = it.num := by rw [IntKind.wrap_u32]; have := hi.out.low; have := hi.out.high; omega
                    have hb1 : (it.kind == 1) = false := by rw [d3]; rfl
                    have hb2 : (it.kind == 2) = true := by rw [d3]; rfl
                    have hb3 : (it.kind == 3) = false := by rw [d3]; rfl
                    have hb4 : (it.kind == 4) = false := by rw [d3]; rfl
                    have HKD := Lib.hid d3
                    have HEN := Lib.hid hen
                    have HEL := Lib.hid hel
                    have HT := Lib.hid ht
                    have HD := Lib.hid hd
                    have HNB := Lib.hid hnb
                    clear hen hel ht hd hnb hnl d3
                    go_wp2_with fail
                    refine (ru16_any rp g o R wr hrd.out hle).mono ?_
                    rintro e w8 ⟨rfl, hr8, hx8⟩
                    rw [HD.out] at hr8
                    rw [HNB.out]
                    have HX8 := Lib.hid (hxr.out.trans hx8)
                    have HR8 := Lib.hid hr8
                    clear hr8 hx8 hrd hxr
                    go_wp2_with fail
                    go_meet
                    exact ⟨o + 2, rfl, HR8, HX8, .inl ⟨by have := HKD.out; omega, rfl⟩⟩
                by_cases d3 : it.kind = 3
                ·
                  (try clear_value *)
                  as_aux_lemma =>
                    have hen : it.enc = txt it.num 4 := by simp [Item.enc, d3]
                    have hel : it.enc.length = 4 := by rw [hen]; simp [txt_len]
                    rw [hel] at ht hd hle
                    rw [hen] at ht
                    have hnl : it.num < 256 ^ 4 := by
                      have h1 := hi.out.some
                      have h2 := hi.out.high
                      have : it.num < 4294967296 := by omega
                      simpa using this
                    have hnb : (nb (R.take 4) : Int) = it.num := by rw [ht]; exact nb_txt 4 it.num hi.out.low hnl
                    have q1 : IntKind.u32.wrap it.num = it.num := by rw [IntKind.wrap_u32]; have := hi.out.low; have := hi.out.high; omega
                    have hb1 : (it.kind == 1) = false := by rw [d3]; rfl
                    have hb2 : (it.kind == 2) = false := by rw [d3]; rfl
                    have hb3 : (it.kind == 3) = true := by rw [d3]; rfl
                    have hb4 : (it.kind == 4) = false := by rw [d3]; rfl
                    have HKD := Lib.hid d3
                    have HEN := Lib.hid hen
                    have HEL := Lib.hid hel
                    have HT := Lib.hid ht
                    have HD := Lib.hid hd
                    have HNB := Lib.hid hnb
                    clear hen hel ht hd hnb hnl d3
                    go_wp2_with fail
                    refine (ru32_any rp g o R wr hrd.out hle).mono ?_
                    rintro e w8 ⟨rfl, hr8, hx8⟩
                    rw [HD.out] at hr8
                    rw [HNB.out]
                    have HX8 := Lib.hid (hxr.out.trans hx8)
                    have HR8 := Lib.hid hr8
                    clear hr8 hx8 hrd hxr
                    go_wp2_with fail
                    go_meet
                    exact ⟨o + 4, rfl, HR8, HX8, .inl ⟨by have := HKD.out; omega, rfl⟩⟩
                have d3 : it.kind = 4 := by have := hi.out.some; omega
                have hen : it.enc = it.bytes := by simp [Item.enc, d3]
                rw [hen] at ht hd hle
                have hb1 : (it.kind == 1) = false := by rw [d3]; rfl
                have hb2 : (it.kind == 2) = false := by rw [d3]; rfl
                have hb3 : (it.kind == 3) = false := by rw [d3]; rfl
                have hb4 : (it.kind == 4) = true := by rw [d3]; rfl
                have HKD := Lib.hid d3
                have HT := Lib.hid ht
                have HD := Lib.hid hd
                clear ht hd hen d3
                go_wp2_with fail
                refine (rbytes_any rp g o R it.bytes.length wr hrd.out hle).mono ?_
                rintro e w8 ⟨u8, rfl, A8, rfl, _, hb8, hr8, hx8⟩
                rw [HD.out] at hr8
                rw [HT.out] at hb8
                have HX8 := Lib.hid (hxr.out.trans hx8)
                have HR8 := Lib.hid hr8
                have HB8 := Lib.hid hb8
                clear hr8 hb8 hx8 hrd hxr
                go_wp2_with fail
                go_meet
                exact ⟨o + it.bytes.length, rfl, HR8, HX8, .inr ⟨HKD.out, A8, rfl, HB8⟩⟩
              case rest =>
                clear hrd hxr ht hd hle
                obtain ⟨o', rfl, hr', hx', hcase⟩ := hcut
                have C0 := hx'.out.cell C0w hgr
                have C1 := hx'.out.cell C1w hgr
                have C2 := hx'.out.cell C2w hgr
                have HXW := Lib.hid (HX6.out.andThen hx'.out (fun i hi e => by omega))
                have hS : Ex (fun _ => False) wc wc.drew := (Ex.refl _ wc).drew
                have qj := IntWalk.i64_in ((its.length : Int) - 1) (by omega)
                have hjl : ((j : Int) == (its.length : Int) - 1) = false := by first | rfl | (simp; omega)
                have hv2 : ∀ W, Ex (fun _ => False) wc W → (convert 23 9 (.slice it.at' it.bytes.length it.cap)).run Tryd.prog W = .ok (.string (bs it.bytes)) W := conv_later (HI.out.bytes.keep HXW.out (fun _ _ _ => id))
                rcases hcase with ⟨hk4, rfl⟩ | ⟨hk4, A9, rfl, hb9⟩
                · have hk5 : (it.kind == 4) = false := by simp; omega
                  have hk6 : (decide (it.kind < 4)) = true := by simp; omega
                  as_aux_lemma =>
                  go_upto_region 50 with fail
                  refine wp_region_held_drew (S := fun W => Ex (fun _ => False) wc W) (by kernel_rfl) hS (fun _ => ?_)
                  refine wpAnyH_take (i := 0) (oi := { dst := some 187, op := Go.Op.move (Go.Operand.tmp 15), type := 28, pos := "law.go:210", after := #[], guard := none }) (v := ?v1) rfl (by kernel_rfl) (by kernel_rfl) (by kernel_rfl) (fun _ _ _ h => h) (Or.inl ⟨by rfl, ?hy1⟩) (by assumption) ?rest1
                  case hy1 => (intro w hSw; (try dsimp only at hSw); have C0 := hSw.cell C0 id; have C1 := hSw.cell C1 id; have C2 := hSw.cell C2 id; go_simp <;> with_reducible rfl)
                  try simp only [Act.put, List.setIfInBounds_toArray, List.set_cons_zero, List.set_cons_succ]
                  refine wpAnyH_take (i := 1) (oi := { dst := some 188, op := Go.Op.binOp Go.BinOp.neq 28 (Go.Operand.tmp 187) (Go.Operand.const Go.Value.nilIface) 28, type := 4, pos := "law.go:210", after := #[{ on := 0, ground := Go.Ground.data }], guard := none }) (v := ?v2) rfl (by kernel_rfl) (by kernel_rfl) (by kernel_rfl) (fun _ _ _ h => h) (Or.inl ⟨by rfl, ?hy2⟩) (by assumption) ?rest2
                  case hy2 => (intro w hSw; (try dsimp only at hSw); have C0 := hSw.cell C0 id; have C1 := hSw.cell C1 id; have C2 := hSw.cell C2 id; go_simp <;> with_reducible rfl)
                  try simp only [Act.put, List.setIfInBounds_toArray, List.set_cons_zero, List.set_cons_succ]
                  refine wpAnyH_take (i := 2) (oi := { dst := some 189, op := Go.Op.move (Go.Operand.tmp 188), type := 4, pos := "law.go:210", after := #[{ on := 1, ground := Go.Ground.data }], guard := none }) (v := ?v3) rfl (by kernel_rfl) (by kernel_rfl) (by kernel_rfl) (fun _ _ _ h => h) (Or.inl ⟨by rfl, ?hy3⟩) (by assumption) ?rest3
                  case hy3 => (intro w hSw; (try dsimp only at hSw); have C0 := hSw.cell C0 id; have C1 := hSw.cell C1 id; have C2 := hSw.cell C2 id; go_simp <;> with_reducible rfl)
                  try simp only [Act.put, List.setIfInBounds_toArray, List.set_cons_zero, List.set_cons_succ]
                  refine wpAnyH_take (i := 3) (oi := { dst := some 190, op := Go.Op.move (Go.Operand.tmp 7), type := 45, pos := "law.go:210", after := #[{ on := 2, ground := Go.Ground.guard }], guard := some (2, false) }) (v := ?v4) rfl (by kernel_rfl) (by kernel_rfl) (by kernel_rfl) (fun _ _ _ h => h) (Or.inl ⟨by rfl, ?hy4⟩) (by assumption) ?rest4
                  case hy4 => (intro w hSw; (try dsimp only at hSw); have C0 := hSw.cell C0 id; have C1 := hSw.cell C1 id; have C2 := hSw.cell C2 id; go_simp <;> with_reducible rfl)
                  try simp only [Act.put, List.setIfInBounds_toArray, List.set_cons_zero, List.set_cons_succ]
                  refine wpAnyH_take (i := 4) (oi := { dst := some 191, op := Go.Op.move (Go.Operand.tmp 12), type := 3, pos := "law.go:210", after := #[{ on := 2, ground := Go.Ground.guard }], guard := some (2, false) }) (v := ?v5) rfl (by kernel_rfl) (by kernel_rfl) (by kernel_rfl) (fun _ _ _ h => h) (Or.inl ⟨by rfl, ?hy5⟩) (by assumption) ?rest5
                  case hy5 => (intro w hSw; (try dsimp only at hSw); have C0 := hSw.cell C0 id; have C1 := hSw.cell C1 id; have C2 := hSw.cell C2 id; go_simp <;> with_reducible rfl)
                  try simp only [Act.put, List.setIfInBounds_toArray, List.set_cons_zero, List.set_cons_succ]
                  refine wpAnyH_take (i := 5) (oi := { dst := some 192, op := Go.Op.indexAddr 45 (Go.Operand.tmp 190) (Go.Operand.tmp 191), type := 0, pos := "law.go:210", after := #[{ on := 3, ground := Go.Ground.data }, { on := 4, ground := Go.Ground.data }, { on := 2, ground := Go.Ground.guard }], guard := some (2, false) }) (v := ?v6) rfl (by kernel_rfl) (by kernel_rfl) (by kernel_rfl) (fun _ _ _ h => h) (Or.inl ⟨by rfl, ?hy6⟩) (by assumption) ?rest6
                  case hy6 => (intro w hSw; (try dsimp only at hSw); have C0 := hSw.cell C0 id; have C1 := hSw.cell C1 id; have C2 := hSw.cell C2 id; go_simp <;> with_reducible rfl)
                  try simp only [Act.put, List.setIfInBounds_toArray, List.set_cons_zero, List.set_cons_succ]
                  refine wpAnyH_take (i := 6) (oi := { dst := some 193, op := Go.Op.fieldAddr 47 (Go.Operand.tmp 192) 0, type := 0, pos := "law.go:210", after := #[{ on := 5, ground := Go.Ground.data }, { on := 2, ground := Go.Ground.guard }], guard := some (2, false) }) (v := ?v7) rfl (by kernel_rfl) (by kernel_rfl) (by kernel_rfl) (fun _ _ _ h => h) (Or.inl ⟨by rfl, ?hy7⟩) (by assumption) ?rest7
                  case hy7 => (intro w hSw; (try dsimp only at hSw); have C0 := hSw.cell C0 id; have C1 := hSw.cell C1 id; have C2 := hSw.cell C2 id; go_simp <;> with_reducible rfl)
                  try simp only [Act.put, List.setIfInBounds_toArray, List.set_cons_zero, List.set_cons_succ]
                  refine wpAnyH_take (i := 7) (oi := { dst := some 194, op := Go.Op.load 3 (Go.Operand.tmp 193), type := 3, pos := "law.go:210", after := #[{ on := 6, ground := Go.Ground.data }, { on := 2, ground := Go.Ground.guard }], guard := some (2, false) }) (v := ?v8) rfl (by kernel_rfl) (by kernel_rfl) (by kernel_rfl) (fun _ _ _ h => h) (Or.inl ⟨by rfl, ?hy8⟩) (by assumption) ?rest8
                  case hy8 => (intro w hSw; (try dsimp only at hSw); have C0 := hSw.cell C0 id; have C1 := hSw.cell C1 id; have C2 := hSw.cell C2 id; go_simp <;> with_reducible rfl)
                  try simp only [Act.put, List.setIfInBounds_toArray, List.set_cons_zero, List.set_cons_succ]
                  refine wpAnyH_take (i := 8) (oi := { dst := some 195, op := Go.Op.binOp Go.BinOp.lss 3 (Go.Operand.tmp 194) (Go.Operand.const (Go.Value.int Go.IntKind.i64 4)) 3, type := 4, pos := "law.go:210", after := #[{ on := 7, ground := Go.Ground.data }, { on := 2, ground := Go.Ground.guard }], guard := some (2, false) }) (v := ?v9) rfl (by kernel_rfl) (by kernel_rfl) (by kernel_rfl) (fun _ _ _ h => h) (Or.inl ⟨by rfl, ?hy9⟩) (by assumption) ?rest9
                  case hy9 => (intro w hSw; (try dsimp only at hSw); have C0 := hSw.cell C0 id; have C1 := hSw.cell C1 id; have C2 := hSw.cell C2 id; go_simp <;> with_reducible rfl)
                  try simp only [Act.put, List.setIfInBounds_toArray, List.set_cons_zero, List.set_cons_succ]
                  refine wpAnyH_take (i := 9) (oi := { dst := some 196, op := Go.Op.move (Go.Operand.tmp 195), type := 4, pos := "law.go:210", after := #[{ on := 8, ground := Go.Ground.data }, { on := 2, ground := Go.Ground.chain }, { on := 2, ground := Go.Ground.guard }], guard := some (2, false) }) (v := ?v10) rfl (by kernel_rfl) (by kernel_rfl) (by kernel_rfl) (fun _ _ _ h => h) (Or.inl ⟨by rfl, ?hy10⟩) (by assumption) ?rest10
                  case hy10 => (intro w hSw; (try dsimp only at hSw); have C0 := hSw.cell C0 id; have C1 := hSw.cell C1 id; have C2 := hSw.cell C2 id; go_simp <;> with_reducible rfl)
                  try simp only [Act.put, List.setIfInBounds_toArray, List.set_cons_zero, List.set_cons_succ]
                  refine wpAnyH_take (i := 10) (oi := { dst := some 197, op := Go.Op.move (Go.Operand.tmp 13), type := 26, pos := "law.go:210", after := #[{ on := 9, ground := Go.Ground.guard }], guard := some (9, true) }) (v := ?v11) rfl (by kernel_rfl) (by kernel_rfl) (by kernel_rfl) (fun _ _ _ h => h) (Or.inl ⟨by rfl, ?hy11⟩) (by assumption) ?rest11
                  case hy11 => (intro w hSw; (try dsimp only at hSw); have C0 := hSw.cell C0 id; have C1 := hSw.cell C1 id; have C2 := hSw.cell C2 id; go_simp <;> with_reducible rfl)
                  try simp only [Act.put, List.setIfInBounds_toArray, List.set_cons_zero, List.set_cons_succ]
                  refine wpAnyH_take (i := 11) (oi := { dst := some 198, op := Go.Op.move (Go.Operand.tmp 7), type := 45, pos := "law.go:210", after := #[{ on := 9, ground := Go.Ground.guard }], guard := some (9, true) }) (v := ?v12) rfl (by kernel_rfl) (by kernel_rfl) (by kernel_rfl) (fun _ _ _ h => h) (Or.inl ⟨by rfl, ?hy12⟩) (by assumption) ?rest12
                  case hy12 => (intro w hSw; (try dsimp only at hSw); have C0 := hSw.cell C0 id; have C1 := hSw.cell C1 id; have C2 := hSw.cell C2 id; go_simp <;> with_reducible rfl)
                  try simp only [Act.put, List.setIfInBounds_toArray, List.set_cons_zero, List.set_cons_succ]
                  refine wpAnyH_take (i := 12) (oi := { dst := some 199, op := Go.Op.move (Go.Operand.tmp 12), type := 3, pos := "law.go:210", after := #[{ on := 9, ground := Go.Ground.guard }], guard := some (9, true) }) (v := ?v13) rfl (by kernel_rfl) (by kernel_rfl) (by kernel_rfl) (fun _ _ _ h => h) (Or.inl ⟨by rfl, ?hy13⟩) (by assumption) ?rest13
                  case hy13 => (intro w hSw; (try dsimp only at hSw); have C0 := hSw.cell C0 id; have C1 := hSw.cell C1 id; have C2 := hSw.cell C2 id; go_simp <;> with_reducible rfl)
                  try simp only [Act.put, List.setIfInBounds_toArray, List.set_cons_zero, List.set_cons_succ]
                  refine wpAnyH_take (i := 13) (oi := { dst := some 200, op := Go.Op.indexAddr 45 (Go.Operand.tmp 198) (Go.Operand.tmp 199), type := 0, pos := "law.go:210", after := #[{ on := 11, ground := Go.Ground.data }, { on := 12, ground := Go.Ground.data }, { on := 9, ground := Go.Ground.guard }], guard := some (9, true) }) (v := ?v14) rfl (by kernel_rfl) (by kernel_rfl) (by kernel_rfl) (fun _ _ _ h => h) (Or.inl ⟨by rfl, ?hy14⟩) (by assumption) ?rest14
                  case hy14 => (intro w hSw; (try dsimp only at hSw); have C0 := hSw.cell C0 id; have C1 := hSw.cell C1 id; have C2 := hSw.cell C2 id; go_simp <;> with_reducible rfl)
                  try simp only [Act.put, List.setIfInBounds_toArray, List.set_cons_zero, List.set_cons_succ]
                  refine wpAnyH_take (i := 14) (oi := { dst := some 201, op := Go.Op.fieldAddr 47 (Go.Operand.tmp 200) 1, type := 0, pos := "law.go:210", after := #[{ on := 13, ground := Go.Ground.data }, { on := 9, ground := Go.Ground.guard }], guard := some (9, true) }) (v := ?v15) rfl (by kernel_rfl) (by kernel_rfl) (by kernel_rfl) (fun _ _ _ h => h) (Or.inl ⟨by rfl, ?hy15⟩) (by assumption) ?rest15
                  case hy15 => (intro w hSw; (try dsimp only at hSw); have C0 := hSw.cell C0 id; have C1 := hSw.cell C1 id; have C2 := hSw.cell C2 id; go_simp <;> with_reducible rfl)
                  try simp only [Act.put, List.setIfInBounds_toArray, List.set_cons_zero, List.set_cons_succ]
                  refine wpAnyH_take (i := 15) (oi := { dst := some 202, op := Go.Op.load 26 (Go.Operand.tmp 201), type := 26, pos := "law.go:210", after := #[{ on := 14, ground := Go.Ground.data }, { on := 9, ground := Go.Ground.guard }], guard := some (9, true) }) (v := ?v16) rfl (by kernel_rfl) (by kernel_rfl) (by kernel_rfl) (fun _ _ _ h => h) (Or.inl ⟨by rfl, ?hy16⟩) (by assumption) ?rest16
                  case hy16 => (intro w hSw; (try dsimp only at hSw); have C0 := hSw.cell C0 id; have C1 := hSw.cell C1 id; have C2 := hSw.cell C2 id; go_simp <;> with_reducible rfl)
                  try simp only [Act.put, List.setIfInBounds_toArray, List.set_cons_zero, List.set_cons_succ]
                  refine wpAnyH_take (i := 16) (oi := { dst := some 203, op := Go.Op.binOp Go.BinOp.neq 26 (Go.Operand.tmp 197) (Go.Operand.tmp 202) 26, type := 4, pos := "law.go:210", after := #[{ on := 10, ground := Go.Ground.data }, { on := 15, ground := Go.Ground.data }, { on := 9, ground := Go.Ground.guard }], guard := some (9, true) }) (v := ?v17) rfl (by kernel_rfl) (by kernel_rfl) (by kernel_rfl) (fun _ _ _ h => h) (Or.inl ⟨by rfl, ?hy17⟩) (by assumption) ?rest17
                  case hy17 => (intro w hSw; (try dsimp only at hSw); have C0 := hSw.cell C0 id; have C1 := hSw.cell C1 id; have C2 := hSw.cell C2 id; go_simp <;> with_reducible rfl)
                  try simp only [Act.put, List.setIfInBounds_toArray, List.set_cons_zero, List.set_cons_succ]
                  refine wpAnyH_take (i := 17) (oi := { dst := some 204, op := Go.Op.pick (Go.Operand.tmp 196) (Go.Operand.tmp 203) (Go.Operand.const (Go.Value.bool false)), type := 4, pos := "law.go:210", after := #[{ on := 9, ground := Go.Ground.data }, { on := 16, ground := Go.Ground.data }, { on := 2, ground := Go.Ground.guard }], guard := some (2, false) }) (v := ?v18) rfl (by kernel_rfl) (by kernel_rfl) (by kernel_rfl) (fun _ _ _ h => h) (Or.inl ⟨by rfl, ?hy18⟩) (by assumption) ?rest18
                  case hy18 => (intro w hSw; (try dsimp only at hSw); have C0 := hSw.cell C0 id; have C1 := hSw.cell C1 id; have C2 := hSw.cell C2 id; go_simp <;> with_reducible rfl)
                  try simp only [Act.put, List.setIfInBounds_toArray, List.set_cons_zero, List.set_cons_succ]
                  refine wpAnyH_take (i := 18) (oi := { dst := some 205, op := Go.Op.pick (Go.Operand.tmp 189) (Go.Operand.const (Go.Value.bool true)) (Go.Operand.tmp 204), type := 4, pos := "law.go:210", after := #[{ on := 2, ground := Go.Ground.data }, { on := 17, ground := Go.Ground.data }], guard := none }) (v := ?v19) rfl (by kernel_rfl) (by kernel_rfl) (by kernel_rfl) (fun _ _ _ h => h) (Or.inl ⟨by rfl, ?hy19⟩) (by assumption) ?rest19
                  case hy19 => (intro w hSw; (try dsimp only at hSw); have C0 := hSw.cell C0 id; have C1 := hSw.cell C1 id; have C2 := hSw.cell C2 id; go_simp <;> with_reducible rfl)
                  try simp only [Act.put, List.setIfInBounds_toArray, List.set_cons_zero, List.set_cons_succ]
                  refine wpAnyH_take (i := 19) (oi := { dst := some 206, op := Go.Op.move (Go.Operand.tmp 205), type := 4, pos := "law.go:210", after := #[{ on := 18, ground := Go.Ground.data }, { on := 9, ground := Go.Ground.chain }], guard := none }) (v := ?v20) rfl (by kernel_rfl) (by kernel_rfl) (by kernel_rfl) (fun _ _ _ h => h) (Or.inl ⟨by rfl, ?hy20⟩) (by assumption) ?rest20
                  case hy20 => (intro w hSw; (try dsimp only at hSw); have C0 := hSw.cell C0 id; have C1 := hSw.cell C1 id; have C2 := hSw.cell C2 id; go_simp <;> with_reducible rfl)
                  try simp only [Act.put, List.setIfInBounds_toArray, List.set_cons_zero, List.set_cons_succ]
                  refine wpAnyH_take (i := 20) (oi := { dst := some 207, op := Go.Op.move (Go.Operand.tmp 7), type := 45, pos := "law.go:210", after := #[{ on := 19, ground := Go.Ground.guard }], guard := some (19, false) }) (v := ?v21) rfl (by kernel_rfl) (by kernel_rfl) (by kernel_rfl) (fun _ _ _ h => h) (Or.inl ⟨by rfl, ?hy21⟩) (by assumption) ?rest21
                  case hy21 => (intro w hSw; (try dsimp only at hSw); have C0 := hSw.cell C0 id; have C1 := hSw.cell C1 id; have C2 := hSw.cell C2 id; go_simp <;> with_reducible rfl)
                  try simp only [Act.put, List.setIfInBounds_toArray, List.set_cons_zero, List.set_cons_succ]
                  refine wpAnyH_take (i := 21) (oi := { dst := some 208, op := Go.Op.move (Go.Operand.tmp 12), type := 3, pos := "law.go:210", after := #[{ on := 19, ground := Go.Ground.guard }], guard := some (19, false) }) (v := ?v22) rfl (by kernel_rfl) (by kernel_rfl) (by kernel_rfl) (fun _ _ _ h => h) (Or.inl ⟨by rfl, ?hy22⟩) (by assumption) ?rest22
                  case hy22 => (intro w hSw; (try dsimp only at hSw); have C0 := hSw.cell C0 id; have C1 := hSw.cell C1 id; have C2 := hSw.cell C2 id; go_simp <;> with_reducible rfl)
                  try simp only [Act.put, List.setIfInBounds_toArray, List.set_cons_zero, List.set_cons_succ]
                  refine wpAnyH_take (i := 22) (oi := { dst := some 209, op := Go.Op.indexAddr 45 (Go.Operand.tmp 207) (Go.Operand.tmp 208), type := 0, pos := "law.go:210", after := #[{ on := 20, ground := Go.Ground.data }, { on := 21, ground := Go.Ground.data }, { on := 19, ground := Go.Ground.guard }], guard := some (19, false) }) (v := ?v23) rfl (by kernel_rfl) (by kernel_rfl) (by kernel_rfl) (fun _ _ _ h => h) (Or.inl ⟨by rfl, ?hy23⟩) (by assumption) ?rest23
                  case hy23 => (intro w hSw; (try dsimp only at hSw); have C0 := hSw.cell C0 id; have C1 := hSw.cell C1 id; have C2 := hSw.cell C2 id; go_simp <;> with_reducible rfl)
                  try simp only [Act.put, List.setIfInBounds_toArray, List.set_cons_zero, List.set_cons_succ]
                  refine wpAnyH_take (i := 23) (oi := { dst := some 210, op := Go.Op.fieldAddr 47 (Go.Operand.tmp 209) 0, type := 0, pos := "law.go:210", after := #[{ on := 22, ground := Go.Ground.data }, { on := 19, ground := Go.Ground.guard }], guard := some (19, false) }) (v := ?v24) rfl (by kernel_rfl) (by kernel_rfl) (by kernel_rfl) (fun _ _ _ h => h) (Or.inl ⟨by rfl, ?hy24⟩) (by assumption) ?rest24
                  case hy24 => (intro w hSw; (try dsimp only at hSw); have C0 := hSw.cell C0 id; have C1 := hSw.cell C1 id; have C2 := hSw.cell C2 id; go_simp <;> with_reducible rfl)
                  try simp only [Act.put, List.setIfInBounds_toArray, List.set_cons_zero, List.set_cons_succ]
                  refine wpAnyH_take (i := 24) (oi := { dst := some 211, op := Go.Op.load 3 (Go.Operand.tmp 210), type := 3, pos := "law.go:210", after := #[{ on := 23, ground := Go.Ground.data }, { on := 19, ground := Go.Ground.guard }], guard := some (19, false) }) (v := ?v25) rfl (by kernel_rfl) (by kernel_rfl) (by kernel_rfl) (fun _ _ _ h => h) (Or.inl ⟨by rfl, ?hy25⟩) (by assumption) ?rest25
                  case hy25 => (intro w hSw; (try dsimp only at hSw); have C0 := hSw.cell C0 id; have C1 := hSw.cell C1 id; have C2 := hSw.cell C2 id; go_simp <;> with_reducible rfl)
                  try simp only [Act.put, List.setIfInBounds_toArray, List.set_cons_zero, List.set_cons_succ]
                  refine wpAnyH_take (i := 25) (oi := { dst := some 212, op := Go.Op.binOp Go.BinOp.eql 3 (Go.Operand.tmp 211) (Go.Operand.const (Go.Value.int Go.IntKind.i64 4)) 3, type := 4, pos := "law.go:210", after := #[{ on := 24, ground := Go.Ground.data }, { on := 19, ground := Go.Ground.guard }], guard := some (19, false) }) (v := ?v26) rfl (by kernel_rfl) (by kernel_rfl) (by kernel_rfl) (fun _ _ _ h => h) (Or.inl ⟨by rfl, ?hy26⟩) (by assumption) ?rest26
                  case hy26 => (intro w hSw; (try dsimp only at hSw); have C0 := hSw.cell C0 id; have C1 := hSw.cell C1 id; have C2 := hSw.cell C2 id; go_simp <;> with_reducible rfl)
                  try simp only [Act.put, List.setIfInBounds_toArray, List.set_cons_zero, List.set_cons_succ]
                  refine wpAnyH_take (i := 26) (oi := { dst := some 213, op := Go.Op.move (Go.Operand.tmp 212), type := 4, pos := "law.go:210", after := #[{ on := 25, ground := Go.Ground.data }, { on := 19, ground := Go.Ground.chain }, { on := 19, ground := Go.Ground.guard }], guard := some (19, false) }) (v := ?v27) rfl (by kernel_rfl) (by kernel_rfl) (by kernel_rfl) (fun _ _ _ h => h) (Or.inl ⟨by rfl, ?hy27⟩) (by assumption) ?rest27
                  case hy27 => (intro w hSw; (try dsimp only at hSw); have C0 := hSw.cell C0 id; have C1 := hSw.cell C1 id; have C2 := hSw.cell C2 id; go_simp <;> with_reducible rfl)
                  try simp only [Act.put, List.setIfInBounds_toArray, List.set_cons_zero, List.set_cons_succ]
                  refine wpAnyH_take (i := 27) (oi := { dst := some 214, op := Go.Op.move (Go.Operand.tmp 14), type := 23, pos := "law.go:210", after := #[{ on := 26, ground := Go.Ground.guard }], guard := some (26, true) }) (v := undef) rfl (by kernel_rfl) (by kernel_rfl) (by kernel_rfl) (fun _ _ _ h => h) (Or.inr ⟨by rfl, rfl⟩) (by assumption) ?rest28
                  try simp only [Act.put, List.setIfInBounds_toArray, List.set_cons_zero, List.set_cons_succ]
                  refine wpAnyH_take (i := 28) (oi := { dst := some 215, op := Go.Op.convert 23 9 (Go.Operand.tmp 214), type := 9, pos := "law.go:210", after := #[{ on := 27, ground := Go.Ground.data }, { on := 26, ground := Go.Ground.guard }], guard := some (26, true) }) (v := undef) rfl (by kernel_rfl) (by kernel_rfl) (by kernel_rfl) (fun _ _ _ h => h) (Or.inr ⟨by rfl, rfl⟩) (by assumption) ?rest29
                  try simp only [Act.put, List.setIfInBounds_toArray, List.set_cons_zero, List.set_cons_succ]
                  refine wpAnyH_take (i := 29) (oi := { dst := some 216, op := Go.Op.move (Go.Operand.tmp 7), type := 45, pos := "law.go:210", after := #[{ on := 26, ground := Go.Ground.guard }], guard := some (26, true) }) (v := undef) rfl (by kernel_rfl) (by kernel_rfl) (by kernel_rfl) (fun _ _ _ h => h) (Or.inr ⟨by rfl, rfl⟩) (by assumption) ?rest30
                  try simp only [Act.put, List.setIfInBounds_toArray, List.set_cons_zero, List.set_cons_succ]
                  refine wpAnyH_take (i := 30) (oi := { dst := some 217, op := Go.Op.move (Go.Operand.tmp 12), type := 3, pos := "law.go:210", after := #[{ on := 26, ground := Go.Ground.guard }], guard := some (26, true) }) (v := undef) rfl (by kernel_rfl) (by kernel_rfl) (by kernel_rfl) (fun _ _ _ h => h) (Or.inr ⟨by rfl, rfl⟩) (by assumption) ?rest31
                  try simp only [Act.put, List.setIfInBounds_toArray, List.set_cons_zero, List.set_cons_succ]
                  refine wpAnyH_take (i := 31) (oi := { dst := some 218, op := Go.Op.indexAddr 45 (Go.Operand.tmp 216) (Go.Operand.tmp 217), type := 0, pos := "law.go:210", after := #[{ on := 29, ground := Go.Ground.data }, { on := 30, ground := Go.Ground.data }, { on := 26, ground := Go.Ground.guard }], guard := some (26, true) }) (v := undef) rfl (by kernel_rfl) (by kernel_rfl) (by kernel_rfl) (fun _ _ _ h => h) (Or.inr ⟨by rfl, rfl⟩) (by assumption) ?rest32
                  try simp only [Act.put, List.setIfInBounds_toArray, List.set_cons_zero, List.set_cons_succ]
                  refine wpAnyH_take (i := 32) (oi := { dst := some 219, op := Go.Op.fieldAddr 47 (Go.Operand.tmp 218) 2, type := 0, pos := "law.go:210", after := #[{ on := 31, ground := Go.Ground.data }, { on := 26, ground := Go.Ground.guard }], guard := some (26, true) }) (v := undef) rfl (by kernel_rfl) (by kernel_rfl) (by kernel_rfl) (fun _ _ _ h => h) (Or.inr ⟨by rfl, rfl⟩) (by assumption) ?rest33
                  try simp only [Act.put, List.setIfInBounds_toArray, List.set_cons_zero, List.set_cons_succ]
                  refine wpAnyH_take (i := 33) (oi := { dst := some 220, op := Go.Op.load 23 (Go.Operand.tmp 219), type := 23, pos := "law.go:210", after := #[{ on := 32, ground := Go.Ground.data }, { on := 26, ground := Go.Ground.guard }], guard := some (26, true) }) (v := undef) rfl (by kernel_rfl) (by kernel_rfl) (by kernel_rfl) (fun _ _ _ h => h) (Or.inr ⟨by rfl, rfl⟩) (by assumption) ?rest34
                  try simp only [Act.put, List.setIfInBounds_toArray, List.set_cons_zero, List.set_cons_succ]
                  refine wpAnyH_take (i := 34) (oi := { dst := some 221, op := Go.Op.convert 23 9 (Go.Operand.tmp 220), type := 9, pos := "law.go:210", after := #[{ on := 33, ground := Go.Ground.data }, { on := 26, ground := Go.Ground.guard }], guard := some (26, true) }) (v := undef) rfl (by kernel_rfl) (by kernel_rfl) (by kernel_rfl) (fun _ _ _ h => h) (Or.inr ⟨by rfl, rfl⟩) (by assumption) ?rest35
                  try simp only [Act.put, List.setIfInBounds_toArray, List.set_cons_zero, List.set_cons_succ]
                  refine wpAnyH_take (i := 35) (oi := { dst := some 222, op := Go.Op.binOp Go.BinOp.neq 9 (Go.Operand.tmp 215) (Go.Operand.tmp 221) 9, type := 4, pos := "law.go:210", after := #[{ on := 28, ground := Go.Ground.data }, { on := 34, ground := Go.Ground.data }, { on := 26, ground := Go.Ground.guard }], guard := some (26, true) }) (v := undef) rfl (by kernel_rfl) (by kernel_rfl) (by kernel_rfl) (fun _ _ _ h => h) (Or.inr ⟨by rfl, rfl⟩) (by assumption) ?rest36
                  try simp only [Act.put, List.setIfInBounds_toArray, List.set_cons_zero, List.set_cons_succ]
                  refine wpAnyH_take (i := 36) (oi := { dst := some 223, op := Go.Op.pick (Go.Operand.tmp 213) (Go.Operand.tmp 222) (Go.Operand.const (Go.Value.bool false)), type := 4, pos := "law.go:210", after := #[{ on := 26, ground := Go.Ground.data }, { on := 35, ground := Go.Ground.data }, { on := 19, ground := Go.Ground.guard }], guard := some (19, false) }) (v := ?v37) rfl (by kernel_rfl) (by kernel_rfl) (by kernel_rfl) (fun _ _ _ h => h) (Or.inl ⟨by rfl, ?hy37⟩) (by assumption) ?rest37
                  case hy37 => (intro w hSw; (try dsimp only at hSw); have C0 := hSw.cell C0 id; have C1 := hSw.cell C1 id; have C2 := hSw.cell C2 id; go_simp <;> with_reducible rfl)
                  try simp only [Act.put, List.setIfInBounds_toArray, List.set_cons_zero, List.set_cons_succ]
                  refine wpAnyH_take (i := 37) (oi := { dst := some 224, op := Go.Op.pick (Go.Operand.tmp 206) (Go.Operand.const (Go.Value.bool true)) (Go.Operand.tmp 223), type := 4, pos := "law.go:210", after := #[{ on := 19, ground := Go.Ground.data }, { on := 36, ground := Go.Ground.data }], guard := none }) (v := ?v38) rfl (by kernel_rfl) (by kernel_rfl) (by kernel_rfl) (fun _ _ _ h => h) (Or.inl ⟨by rfl, ?hy38⟩) (by assumption) ?rest38
                  case hy38 => (intro w hSw; (try dsimp only at hSw); have C0 := hSw.cell C0 id; have C1 := hSw.cell C1 id; have C2 := hSw.cell C2 id; go_simp <;> with_reducible rfl)
                  try simp only [Act.put, List.setIfInBounds_toArray, List.set_cons_zero, List.set_cons_succ]
                  refine wpAnyH_done (by kernel_rfl) ?_ _
                  go_wp2_with fail
                  go_roundw
                  case rel => exact ⟨j + 1, o', by omega, by go_num, by omega, Lib.hid (hr'.out.keep hS id (fun _ => id)), Lib.hid (hx'.out.trans (hS.mono (fun _ _ h => h.elim)))⟩
                  case measure => simp [intOf]; omega
                · have hk5 : (it.kind == 4) = true := by simp; omega
                  have hk6 : (decide (it.kind < 4)) = false := by simp; omega
                  have hk7 : ¬ it.kind < 4 := by omega
                  have hv1 : ∀ W, Ex (fun _ => False) wc W → (convert 23 9 (.slice A9 it.bytes.length it.bytes.length)).run Tryd.prog W = .ok (.string (bs it.bytes)) W := conv_later hb9.out.any
                  as_aux_lemma =>
                  go_upto_region 50 with fail
                  refine wp_region_held_drew (S := fun W => Ex (fun _ => False) wc W) (by kernel_rfl) hS (fun _ => ?_)
                  refine wpAnyH_take (i := 0) (oi := { dst := some 187, op := Go.Op.move (Go.Operand.tmp 15), type := 28, pos := "law.go:210", after := #[], guard := none }) (v := ?v39) rfl (by kernel_rfl) (by kernel_rfl) (by kernel_rfl) (fun _ _ _ h => h) (Or.inl ⟨by rfl, ?hy39⟩) (by assumption) ?rest39
                  case hy39 => (intro w hSw; (try dsimp only at hSw); have C0 := hSw.cell C0 id; have C1 := hSw.cell C1 id; have C2 := hSw.cell C2 id; go_simp <;> with_reducible rfl)
                  try simp only [Act.put, List.setIfInBounds_toArray, List.set_cons_zero, List.set_cons_succ]
                  refine wpAnyH_take (i := 1) (oi := { dst := some 188, op := Go.Op.binOp Go.BinOp.neq 28 (Go.Operand.tmp 187) (Go.Operand.const Go.Value.nilIface) 28, type := 4, pos := "law.go:210", after := #[{ on := 0, ground := Go.Ground.data }], guard := none }) (v := ?v40) rfl (by kernel_rfl) (by kernel_rfl) (by kernel_rfl) (fun _ _ _ h => h) (Or.inl ⟨by rfl, ?hy40⟩) (by assumption) ?rest40
                  case hy40 => (intro w hSw; (try dsimp only at hSw); have C0 := hSw.cell C0 id; have C1 := hSw.cell C1 id; have C2 := hSw.cell C2 id; go_simp <;> with_reducible rfl)
                  try simp only [Act.put, List.setIfInBounds_toArray, List.set_cons_zero, List.set_cons_succ]
                  refine wpAnyH_take (i := 2) (oi := { dst := some 189, op := Go.Op.move (Go.Operand.tmp 188), type := 4, pos := "law.go:210", after := #[{ on := 1, ground := Go.Ground.data }], guard := none }) (v := ?v41) rfl (by kernel_rfl) (by kernel_rfl) (by kernel_rfl) (fun _ _ _ h => h) (Or.inl ⟨by rfl, ?hy41⟩) (by assumption) ?rest41
                  case hy41 => (intro w hSw; (try dsimp only at hSw); have C0 := hSw.cell C0 id; have C1 := hSw.cell C1 id; have C2 := hSw.cell C2 id; go_simp <;> with_reducible rfl)
                  try simp only [Act.put, List.setIfInBounds_toArray, List.set_cons_zero, List.set_cons_succ]
                  refine wpAnyH_take (i := 3) (oi := { dst := some 190, op := Go.Op.move (Go.Operand.tmp 7), type := 45, pos := "law.go:210", after := #[{ on := 2, ground := Go.Ground.guard }], guard := some (2, false) }) (v := ?v42) rfl (by kernel_rfl) (by kernel_rfl) (by kernel_rfl) (fun _ _ _ h => h) (Or.inl ⟨by rfl, ?hy42⟩) (by assumption) ?rest42
                  case hy42 => (intro w hSw; (try dsimp only at hSw); have C0 := hSw.cell C0 id; have C1 := hSw.cell C1 id; have C2 := hSw.cell C2 id; go_simp <;> with_reducible rfl)
                  try simp only [Act.put, List.setIfInBounds_toArray, List.set_cons_zero, List.set_cons_succ]
                  refine wpAnyH_take (i := 4) (oi := { dst := some 191, op := Go.Op.move (Go.Operand.tmp 12), type := 3, pos := "law.go:210", after := #[{ on := 2, ground := Go.Ground.guard }], guard := some (2, false) }) (v := ?v43) rfl (by kernel_rfl) (by kernel_rfl) (by kernel_rfl) (fun _ _ _ h => h) (Or.inl ⟨by rfl, ?hy43⟩) (by assumption) ?rest43
                  case hy43 => (intro w hSw; (try dsimp only at hSw); have C0 := hSw.cell C0 id; have C1 := hSw.cell C1 id; have C2 := hSw.cell C2 id; go_simp <;> with_reducible rfl)
                  try simp only [Act.put, List.setIfInBounds_toArray, List.set_cons_zero, List.set_cons_succ]
                  refine wpAnyH_take (i := 5) (oi := { dst := some 192, op := Go.Op.indexAddr 45 (Go.Operand.tmp 190) (Go.Operand.tmp 191), type := 0, pos := "law.go:210", after := #[{ on := 3, ground := Go.Ground.data }, { on := 4, ground := Go.Ground.data }, { on := 2, ground := Go.Ground.guard }], guard := some (2, false) }) (v := ?v44) rfl (by kernel_rfl) (by kernel_rfl) (by kernel_rfl) (fun _ _ _ h => h) (Or.inl ⟨by rfl, ?hy44⟩) (by assumption) ?rest44
                  case hy44 => (intro w hSw; (try dsimp only at hSw); have C0 := hSw.cell C0 id; have C1 := hSw.cell C1 id; have C2 := hSw.cell C2 id; go_simp <;> with_reducible rfl)
                  try simp only [Act.put, List.setIfInBounds_toArray, List.set_cons_zero, List.set_cons_succ]
                  refine wpAnyH_take (i := 6) (oi := { dst := some 193, op := Go.Op.fieldAddr 47 (Go.Operand.tmp 192) 0, type := 0, pos := "law.go:210", after := #[{ on := 5, ground := Go.Ground.data }, { on := 2, ground := Go.Ground.guard }], guard := some (2, false) }) (v := ?v45) rfl (by kernel_rfl) (by kernel_rfl) (by kernel_rfl) (fun _ _ _ h => h) (Or.inl ⟨by rfl, ?hy45⟩) (by assumption) ?rest45
                  case hy45 => (intro w hSw; (try dsimp only at hSw); have C0 := hSw.cell C0 id; have C1 := hSw.cell C1 id; have C2 := hSw.cell C2 id; go_simp <;> with_reducible rfl)
                  try simp only [Act.put, List.setIfInBounds_toArray, List.set_cons_zero, List.set_cons_succ]
                  refine wpAnyH_take (i := 7) (oi := { dst := some 194, op := Go.Op.load 3 (Go.Operand.tmp 193), type := 3, pos := "law.go:210", after := #[{ on := 6, ground := Go.Ground.data }, { on := 2, ground := Go.Ground.guard }], guard := some (2, false) }) (v := ?v46) rfl (by kernel_rfl) (by kernel_rfl) (by kernel_rfl) (fun _ _ _ h => h) (Or.inl ⟨by rfl, ?hy46⟩) (by assumption) ?rest46
                  case hy46 => (intro w hSw; (try dsimp only at hSw); have C0 := hSw.cell C0 id; have C1 := hSw.cell C1 id; have C2 := hSw.cell C2 id; go_simp <;> with_reducible rfl)
                  try simp only [Act.put, List.setIfInBounds_toArray, List.set_cons_zero, List.set_cons_succ]
                  refine wpAnyH_take (i := 8) (oi := { dst := some 195, op := Go.Op.binOp Go.BinOp.lss 3 (Go.Operand.tmp 194) (Go.Operand.const (Go.Value.int Go.IntKind.i64 4)) 3, type := 4, pos := "law.go:210", after := #[{ on := 7, ground := Go.Ground.data }, { on := 2, ground := Go.Ground.guard }], guard := some (2, false) }) (v := ?v47) rfl (by kernel_rfl) (by kernel_rfl) (by kernel_rfl) (fun _ _ _ h => h) (Or.inl ⟨by rfl, ?hy47⟩) (by assumption) ?rest47
                  case hy47 => (intro w hSw; (try dsimp only at hSw); have C0 := hSw.cell C0 id; have C1 := hSw.cell C1 id; have C2 := hSw.cell C2 id; go_simp <;> with_reducible rfl)
                  try simp only [Act.put, List.setIfInBounds_toArray, List.set_cons_zero, List.set_cons_succ]
                  refine wpAnyH_take (i := 9) (oi := { dst := some 196, op := Go.Op.move (Go.Operand.tmp 195), type := 4, pos := "law.go:210", after := #[{ on := 8, ground := Go.Ground.data }, { on := 2, ground := Go.Ground.chain }, { on := 2, ground := Go.Ground.guard }], guard := some (2, false) }) (v := ?v48) rfl (by kernel_rfl) (by kernel_rfl) (by kernel_rfl) (fun _ _ _ h => h) (Or.inl ⟨by rfl, ?hy48⟩) (by assumption) ?rest48
                  case hy48 => (intro w hSw; (try dsimp only at hSw); have C0 := hSw.cell C0 id; have C1 := hSw.cell C1 id; have C2 := hSw.cell C2 id; go_simp <;> with_reducible rfl)
                  try simp only [Act.put, List.setIfInBounds_toArray, List.set_cons_zero, List.set_cons_succ]
                  refine wpAnyH_take (i := 10) (oi := { dst := some 197, op := Go.Op.move (Go.Operand.tmp 13), type := 26, pos := "law.go:210", after := #[{ on := 9, ground := Go.Ground.guard }], guard := some (9, true) }) (v := undef) rfl (by kernel_rfl) (by kernel_rfl) (by kernel_rfl) (fun _ _ _ h => h) (Or.inr ⟨by rfl, rfl⟩) (by assumption) ?rest49
                  try simp only [Act.put, List.setIfInBounds_toArray, List.set_cons_zero, List.set_cons_succ]
                  refine wpAnyH_take (i := 11) (oi := { dst := some 198, op := Go.Op.move (Go.Operand.tmp 7), type := 45, pos := "law.go:210", after := #[{ on := 9, ground := Go.Ground.guard }], guard := some (9, true) }) (v := undef) rfl (by kernel_rfl) (by kernel_rfl) (by kernel_rfl) (fun _ _ _ h => h) (Or.inr ⟨by rfl, rfl⟩) (by assumption) ?rest50
                  try simp only [Act.put, List.setIfInBounds_toArray, List.set_cons_zero, List.set_cons_succ]
                  refine wpAnyH_take (i := 12) (oi := { dst := some 199, op := Go.Op.move (Go.Operand.tmp 12), type := 3, pos := "law.go:210", after := #[{ on := 9, ground := Go.Ground.guard }], guard := some (9, true) }) (v := undef) rfl (by kernel_rfl) (by kernel_rfl) (by kernel_rfl) (fun _ _ _ h => h) (Or.inr ⟨by rfl, rfl⟩) (by assumption) ?rest51
                  try simp only [Act.put, List.setIfInBounds_toArray, List.set_cons_zero, List.set_cons_succ]
                  refine wpAnyH_take (i := 13) (oi := { dst := some 200, op := Go.Op.indexAddr 45 (Go.Operand.tmp 198) (Go.Operand.tmp 199), type := 0, pos := "law.go:210", after := #[{ on := 11, ground := Go.Ground.data }, { on := 12, ground := Go.Ground.data }, { on := 9, ground := Go.Ground.guard }], guard := some (9, true) }) (v := undef) rfl (by kernel_rfl) (by kernel_rfl) (by kernel_rfl) (fun _ _ _ h => h) (Or.inr ⟨by rfl, rfl⟩) (by assumption) ?rest52
                  try simp only [Act.put, List.setIfInBounds_toArray, List.set_cons_zero, List.set_cons_succ]
                  refine wpAnyH_take (i := 14) (oi := { dst := some 201, op := Go.Op.fieldAddr 47 (Go.Operand.tmp 200) 1, type := 0, pos := "law.go:210", after := #[{ on := 13, ground := Go.Ground.data }, { on := 9, ground := Go.Ground.guard }], guard := some (9, true) }) (v := undef) rfl (by kernel_rfl) (by kernel_rfl) (by kernel_rfl) (fun _ _ _ h => h) (Or.inr ⟨by rfl, rfl⟩) (by assumption) ?rest53
                  try simp only [Act.put, List.setIfInBounds_toArray, List.set_cons_zero, List.set_cons_succ]
                  refine wpAnyH_take (i := 15) (oi := { dst := some 202, op := Go.Op.load 26 (Go.Operand.tmp 201), type := 26, pos := "law.go:210", after := #[{ on := 14, ground := Go.Ground.data }, { on := 9, ground := Go.Ground.guard }], guard := some (9, true) }) (v := undef) rfl (by kernel_rfl) (by kernel_rfl) (by kernel_rfl) (fun _ _ _ h => h) (Or.inr ⟨by rfl, rfl⟩) (by assumption) ?rest54
                  try simp only [Act.put, List.setIfInBounds_toArray, List.set_cons_zero, List.set_cons_succ]
                  refine wpAnyH_take (i := 16) (oi := { dst := some 203, op := Go.Op.binOp Go.BinOp.neq 26 (Go.Operand.tmp 197) (Go.Operand.tmp 202) 26, type := 4, pos := "law.go:210", after := #[{ on := 10, ground := Go.Ground.data }, { on := 15, ground := Go.Ground.data }, { on := 9, ground := Go.Ground.guard }], guard := some (9, true) }) (v := undef) rfl (by kernel_rfl) (by kernel_rfl) (by kernel_rfl) (fun _ _ _ h => h) (Or.inr ⟨by rfl, rfl⟩) (by assumption) ?rest55
                  try simp only [Act.put, List.setIfInBounds_toArray, List.set_cons_zero, List.set_cons_succ]
                  refine wpAnyH_take (i := 17) (oi := { dst := some 204, op := Go.Op.pick (Go.Operand.tmp 196) (Go.Operand.tmp 203) (Go.Operand.const (Go.Value.bool false)), type := 4, pos := "law.go:210", after := #[{ on := 9, ground := Go.Ground.data }, { on := 16, ground := Go.Ground.data }, { on := 2, ground := Go.Ground.guard }], guard := some (2, false) }) (v := ?v56) rfl (by kernel_rfl) (by kernel_rfl) (by kernel_rfl) (fun _ _ _ h => h) (Or.inl ⟨by rfl, ?hy56⟩) (by assumption) ?rest56
                  case hy56 => (intro w hSw; (try dsimp only at hSw); have C0 := hSw.cell C0 id; have C1 := hSw.cell C1 id; have C2 := hSw.cell C2 id; go_simp <;> with_reducible rfl)
                  try simp only [Act.put, List.setIfInBounds_toArray, List.set_cons_zero, List.set_cons_succ]
                  refine wpAnyH_take (i := 18) (oi := { dst := some 205, op := Go.Op.pick (Go.Operand.tmp 189) (Go.Operand.const (Go.Value.bool true)) (Go.Operand.tmp 204), type := 4, pos := "law.go:210", after := #[{ on := 2, ground := Go.Ground.data }, { on := 17, ground := Go.Ground.data }], guard := none }) (v := ?v57) rfl (by kernel_rfl) (by kernel_rfl) (by kernel_rfl) (fun _ _ _ h => h) (Or.inl ⟨by rfl, ?hy57⟩) (by assumption) ?rest57
                  case hy57 => (intro w hSw; (try dsimp only at hSw); have C0 := hSw.cell C0 id; have C1 := hSw.cell C1 id; have C2 := hSw.cell C2 id; go_simp <;> with_reducible rfl)
                  try simp only [Act.put, List.setIfInBounds_toArray, List.set_cons_zero, List.set_cons_succ]
                  refine wpAnyH_take (i := 19) (oi := { dst := some 206, op := Go.Op.move (Go.Operand.tmp 205), type := 4, pos := "law.go:210", after := #[{ on := 18, ground := Go.Ground.data }, { on := 9, ground := Go.Ground.chain }], guard := none }) (v := ?v58) rfl (by kernel_rfl) (by kernel_rfl) (by kernel_rfl) (fun _ _ _ h => h) (Or.inl ⟨by rfl, ?hy58⟩) (by assumption) ?rest58
                  case hy58 => (intro w hSw; (try dsimp only at hSw); have C0 := hSw.cell C0 id; have C1 := hSw.cell C1 id; have C2 := hSw.cell C2 id; go_simp <;> with_reducible rfl)
                  try simp only [Act.put, List.setIfInBounds_toArray, List.set_cons_zero, List.set_cons_succ]
                  refine wpAnyH_take (i := 20) (oi := { dst := some 207, op := Go.Op.move (Go.Operand.tmp 7), type := 45, pos := "law.go:210", after := #[{ on := 19, ground := Go.Ground.guard }], guard := some (19, false) }) (v := ?v59) rfl (by kernel_rfl) (by kernel_rfl) (by kernel_rfl) (fun _ _ _ h => h) (Or.inl ⟨by rfl, ?hy59⟩) (by assumption) ?rest59
                  case hy59 => (intro w hSw; (try dsimp only at hSw); have C0 := hSw.cell C0 id; have C1 := hSw.cell C1 id; have C2 := hSw.cell C2 id; go_simp <;> with_reducible rfl)
                  try simp only [Act.put, List.setIfInBounds_toArray, List.set_cons_zero, List.set_cons_succ]
                  refine wpAnyH_take (i := 21) (oi := { dst := some 208, op := Go.Op.move (Go.Operand.tmp 12), type := 3, pos := "law.go:210", after := #[{ on := 19, ground := Go.Ground.guard }], guard := some (19, false) }) (v := ?v60) rfl (by kernel_rfl) (by kernel_rfl) (by kernel_rfl) (fun _ _ _ h => h) (Or.inl ⟨by rfl, ?hy60⟩) (by assumption) ?rest60
                  case hy60 => (intro w hSw; (try dsimp only at hSw); have C0 := hSw.cell C0 id; have C1 := hSw.cell C1 id; have C2 := hSw.cell C2 id; go_simp <;> with_reducible rfl)
                  try simp only [Act.put, List.setIfInBounds_toArray, List.set_cons_zero, List.set_cons_succ]
                  refine wpAnyH_take (i := 22) (oi := { dst := some 209, op := Go.Op.indexAddr 45 (Go.Operand.tmp 207) (Go.Operand.tmp 208), type := 0, pos := "law.go:210", after := #[{ on := 20, ground := Go.Ground.data }, { on := 21, ground := Go.Ground.data }, { on := 19, ground := Go.Ground.guard }], guard := some (19, false) }) (v := ?v61) rfl (by kernel_rfl) (by kernel_rfl) (by kernel_rfl) (fun _ _ _ h => h) (Or.inl ⟨by rfl, ?hy61⟩) (by assumption) ?rest61
                  case hy61 => (intro w hSw; (try dsimp only at hSw); have C0 := hSw.cell C0 id; have C1 := hSw.cell C1 id; have C2 := hSw.cell C2 id; go_simp <;> with_reducible rfl)
                  try simp only [Act.put, List.setIfInBounds_toArray, List.set_cons_zero, List.set_cons_succ]
                  refine wpAnyH_take (i := 23) (oi := { dst := some 210, op := Go.Op.fieldAddr 47 (Go.Operand.tmp 209) 0, type := 0, pos := "law.go:210", after := #[{ on := 22, ground := Go.Ground.data }, { on := 19, ground := Go.Ground.guard }], guard := some (19, false) }) (v := ?v62) rfl (by kernel_rfl) (by kernel_rfl) (by kernel_rfl) (fun _ _ _ h => h) (Or.inl ⟨by rfl, ?hy62⟩) (by assumption) ?rest62
                  case hy62 => (intro w hSw; (try dsimp only at hSw); have C0 := hSw.cell C0 id; have C1 := hSw.cell C1 id; have C2 := hSw.cell C2 id; go_simp <;> with_reducible rfl)
                  try simp only [Act.put, List.setIfInBounds_toArray, List.set_cons_zero, List.set_cons_succ]
                  refine wpAnyH_take (i := 24) (oi := { dst := some 211, op := Go.Op.load 3 (Go.Operand.tmp 210), type := 3, pos := "law.go:210", after := #[{ on := 23, ground := Go.Ground.data }, { on := 19, ground := Go.Ground.guard }], guard := some (19, false) }) (v := ?v63) rfl (by kernel_rfl) (by kernel_rfl) (by kernel_rfl) (fun _ _ _ h => h) (Or.inl ⟨by rfl, ?hy63⟩) (by assumption) ?rest63
                  case hy63 => (intro w hSw; (try dsimp only at hSw); have C0 := hSw.cell C0 id; have C1 := hSw.cell C1 id; have C2 := hSw.cell C2 id; go_simp <;> with_reducible rfl)
                  try simp only [Act.put, List.setIfInBounds_toArray, List.set_cons_zero, List.set_cons_succ]
                  refine wpAnyH_take (i := 25) (oi := { dst := some 212, op := Go.Op.binOp Go.BinOp.eql 3 (Go.Operand.tmp 211) (Go.Operand.const (Go.Value.int Go.IntKind.i64 4)) 3, type := 4, pos := "law.go:210", after := #[{ on := 24, ground := Go.Ground.data }, { on := 19, ground := Go.Ground.guard }], guard := some (19, false) }) (v := ?v64) rfl (by kernel_rfl) (by kernel_rfl) (by kernel_rfl) (fun _ _ _ h => h) (Or.inl ⟨by rfl, ?hy64⟩) (by assumption) ?rest64
                  case hy64 => (intro w hSw; (try dsimp only at hSw); have C0 := hSw.cell C0 id; have C1 := hSw.cell C1 id; have C2 := hSw.cell C2 id; go_simp <;> with_reducible rfl)
                  try simp only [Act.put, List.setIfInBounds_toArray, List.set_cons_zero, List.set_cons_succ]
                  refine wpAnyH_take (i := 26) (oi := { dst := some 213, op := Go.Op.move (Go.Operand.tmp 212), type := 4, pos := "law.go:210", after := #[{ on := 25, ground := Go.Ground.data }, { on := 19, ground := Go.Ground.chain }, { on := 19, ground := Go.Ground.guard }], guard := some (19, false) }) (v := ?v65) rfl (by kernel_rfl) (by kernel_rfl) (by kernel_rfl) (fun _ _ _ h => h) (Or.inl ⟨by rfl, ?hy65⟩) (by assumption) ?rest65
                  case hy65 => (intro w hSw; (try dsimp only at hSw); have C0 := hSw.cell C0 id; have C1 := hSw.cell C1 id; have C2 := hSw.cell C2 id; go_simp <;> with_reducible rfl)
                  try simp only [Act.put, List.setIfInBounds_toArray, List.set_cons_zero, List.set_cons_succ]
                  refine wpAnyH_take (i := 27) (oi := { dst := some 214, op := Go.Op.move (Go.Operand.tmp 14), type := 23, pos := "law.go:210", after := #[{ on := 26, ground := Go.Ground.guard }], guard := some (26, true) }) (v := ?v66) rfl (by kernel_rfl) (by kernel_rfl) (by kernel_rfl) (fun _ _ _ h => h) (Or.inl ⟨by rfl, ?hy66⟩) (by assumption) ?rest66
                  case hy66 => (intro w hSw; (try dsimp only at hSw); have C0 := hSw.cell C0 id; have C1 := hSw.cell C1 id; have C2 := hSw.cell C2 id; go_simp <;> with_reducible rfl)
                  try simp only [Act.put, List.setIfInBounds_toArray, List.set_cons_zero, List.set_cons_succ]
                  refine wpAnyH_take (i := 28) (oi := { dst := some 215, op := Go.Op.convert 23 9 (Go.Operand.tmp 214), type := 9, pos := "law.go:210", after := #[{ on := 27, ground := Go.Ground.data }, { on := 26, ground := Go.Ground.guard }], guard := some (26, true) }) (v := ?v67) rfl (by kernel_rfl) (by kernel_rfl) (by kernel_rfl) (fun _ _ _ h => h) (Or.inl ⟨by rfl, ?hy67⟩) (by assumption) ?rest67
                  case hy67 => (intro w hSw; (try dsimp only at hSw); have C0 := hSw.cell C0 id; have C1 := hSw.cell C1 id; have C2 := hSw.cell C2 id; go_simp <;> with_reducible rfl)
                  try simp only [Act.put, List.setIfInBounds_toArray, List.set_cons_zero, List.set_cons_succ]
                  refine wpAnyH_take (i := 29) (oi := { dst := some 216, op := Go.Op.move (Go.Operand.tmp 7), type := 45, pos := "law.go:210", after := #[{ on := 26, ground := Go.Ground.guard }], guard := some (26, true) }) (v := ?v68) rfl (by kernel_rfl) (by kernel_rfl) (by kernel_rfl) (fun _ _ _ h => h) (Or.inl ⟨by rfl, ?hy68⟩) (by assumption) ?rest68
                  case hy68 => (intro w hSw; (try dsimp only at hSw); have C0 := hSw.cell C0 id; have C1 := hSw.cell C1 id; have C2 := hSw.cell C2 id; go_simp <;> with_reducible rfl)
                  try simp only [Act.put, List.setIfInBounds_toArray, List.set_cons_zero, List.set_cons_succ]
                  refine wpAnyH_take (i := 30) (oi := { dst := some 217, op := Go.Op.move (Go.Operand.tmp 12), type := 3, pos := "law.go:210", after := #[{ on := 26, ground := Go.Ground.guard }], guard := some (26, true) }) (v := ?v69) rfl (by kernel_rfl) (by kernel_rfl) (by kernel_rfl) (fun _ _ _ h => h) (Or.inl ⟨by rfl, ?hy69⟩) (by assumption) ?rest69
                  case hy69 => (intro w hSw; (try dsimp only at hSw); have C0 := hSw.cell C0 id; have C1 := hSw.cell C1 id; have C2 := hSw.cell C2 id; go_simp <;> with_reducible rfl)
                  try simp only [Act.put, List.setIfInBounds_toArray, List.set_cons_zero, List.set_cons_succ]
                  refine wpAnyH_take (i := 31) (oi := { dst := some 218, op := Go.Op.indexAddr 45 (Go.Operand.tmp 216) (Go.Operand.tmp 217), type := 0, pos := "law.go:210", after := #[{ on := 29, ground := Go.Ground.data }, { on := 30, ground := Go.Ground.data }, { on := 26, ground := Go.Ground.guard }], guard := some (26, true) }) (v := ?v70) rfl (by kernel_rfl) (by kernel_rfl) (by kernel_rfl) (fun _ _ _ h => h) (Or.inl ⟨by rfl, ?hy70⟩) (by assumption) ?rest70
                  case hy70 => (intro w hSw; (try dsimp only at hSw); have C0 := hSw.cell C0 id; have C1 := hSw.cell C1 id; have C2 := hSw.cell C2 id; go_simp <;> with_reducible rfl)
                  try simp only [Act.put, List.setIfInBounds_toArray, List.set_cons_zero, List.set_cons_succ]
                  refine wpAnyH_take (i := 32) (oi := { dst := some 219, op := Go.Op.fieldAddr 47 (Go.Operand.tmp 218) 2, type := 0, pos := "law.go:210", after := #[{ on := 31, ground := Go.Ground.data }, { on := 26, ground := Go.Ground.guard }], guard := some (26, true) }) (v := ?v71) rfl (by kernel_rfl) (by kernel_rfl) (by kernel_rfl) (fun _ _ _ h => h) (Or.inl ⟨by rfl, ?hy71⟩) (by assumption) ?rest71
                  case hy71 => (intro w hSw; (try dsimp only at hSw); have C0 := hSw.cell C0 id; have C1 := hSw.cell C1 id; have C2 := hSw.cell C2 id; go_simp <;> with_reducible rfl)
                  try simp only [Act.put, List.setIfInBounds_toArray, List.set_cons_zero, List.set_cons_succ]
                  refine wpAnyH_take (i := 33) (oi := { dst := some 220, op := Go.Op.load 23 (Go.Operand.tmp 219), type := 23, pos := "law.go:210", after := #[{ on := 32, ground := Go.Ground.data }, { on := 26, ground := Go.Ground.guard }], guard := some (26, true) }) (v := ?v72) rfl (by kernel_rfl) (by kernel_rfl) (by kernel_rfl) (fun _ _ _ h => h) (Or.inl ⟨by rfl, ?hy72⟩) (by assumption) ?rest72
                  case hy72 => (intro w hSw; (try dsimp only at hSw); have C0 := hSw.cell C0 id; have C1 := hSw.cell C1 id; have C2 := hSw.cell C2 id; go_simp <;> with_reducible rfl)
                  try simp only [Act.put, List.setIfInBounds_toArray, List.set_cons_zero, List.set_cons_succ]
                  refine wpAnyH_take (i := 34) (oi := { dst := some 221, op := Go.Op.convert 23 9 (Go.Operand.tmp 220), type := 9, pos := "law.go:210", after := #[{ on := 33, ground := Go.Ground.data }, { on := 26, ground := Go.Ground.guard }], guard := some (26, true) }) (v := ?v73) rfl (by kernel_rfl) (by kernel_rfl) (by kernel_rfl) (fun _ _ _ h => h) (Or.inl ⟨by rfl, ?hy73⟩) (by assumption) ?rest73
                  case hy73 => (intro w hSw; (try dsimp only at hSw); have C0 := hSw.cell C0 id; have C1 := hSw.cell C1 id; have C2 := hSw.cell C2 id; go_simp <;> with_reducible rfl)
                  try simp only [Act.put, List.setIfInBounds_toArray, List.set_cons_zero, List.set_cons_succ]
                  refine wpAnyH_take (i := 35) (oi := { dst := some 222, op := Go.Op.binOp Go.BinOp.neq 9 (Go.Operand.tmp 215) (Go.Operand.tmp 221) 9, type := 4, pos := "law.go:210", after := #[{ on := 28, ground := Go.Ground.data }, { on := 34, ground := Go.Ground.data }, { on := 26, ground := Go.Ground.guard }], guard := some (26, true) }) (v := ?v74) rfl (by kernel_rfl) (by kernel_rfl) (by kernel_rfl) (fun _ _ _ h => h) (Or.inl ⟨by rfl, ?hy74⟩) (by assumption) ?rest74
                  case hy74 => (intro w hSw; (try dsimp only at hSw); have C0 := hSw.cell C0 id; have C1 := hSw.cell C1 id; have C2 := hSw.cell C2 id; go_simp <;> with_reducible rfl)
                  try simp only [Act.put, List.setIfInBounds_toArray, List.set_cons_zero, List.set_cons_succ]
                  refine wpAnyH_take (i := 36) (oi := { dst := some 223, op := Go.Op.pick (Go.Operand.tmp 213) (Go.Operand.tmp 222) (Go.Operand.const (Go.Value.bool false)), type := 4, pos := "law.go:210", after := #[{ on := 26, ground := Go.Ground.data }, { on := 35, ground := Go.Ground.data }, { on := 19, ground := Go.Ground.guard }], guard := some (19, false) }) (v := ?v75) rfl (by kernel_rfl) (by kernel_rfl) (by kernel_rfl) (fun _ _ _ h => h) (Or.inl ⟨by rfl, ?hy75⟩) (by assumption) ?rest75
                  case hy75 => (intro w hSw; (try dsimp only at hSw); have C0 := hSw.cell C0 id; have C1 := hSw.cell C1 id; have C2 := hSw.cell C2 id; go_simp <;> with_reducible rfl)
                  try simp only [Act.put, List.setIfInBounds_toArray, List.set_cons_zero, List.set_cons_succ]
                  refine wpAnyH_take (i := 37) (oi := { dst := some 224, op := Go.Op.pick (Go.Operand.tmp 206) (Go.Operand.const (Go.Value.bool true)) (Go.Operand.tmp 223), type := 4, pos := "law.go:210", after := #[{ on := 19, ground := Go.Ground.data }, { on := 36, ground := Go.Ground.data }], guard := none }) (v := ?v76) rfl (by kernel_rfl) (by kernel_rfl) (by kernel_rfl) (fun _ _ _ h => h) (Or.inl ⟨by rfl, ?hy76⟩) (by assumption) ?rest76
                  case hy76 => (intro w hSw; (try dsimp only at hSw); have C0 := hSw.cell C0 id; have C1 := hSw.cell C1 id; have C2 := hSw.cell C2 id; go_simp <;> with_reducible rfl)
                  try simp only [Act.put, List.setIfInBounds_toArray, List.set_cons_zero, List.set_cons_succ]
                  refine wpAnyH_done (by kernel_rfl) ?_ _
                  go_wp2_with fail
                  go_roundw
                  case rel => exact ⟨j + 1, o', by omega, by go_num, by omega, Lib.hid (hr'.out.keep hS id (fun _ => id)), Lib.hid (hx'.out.trans (hS.mono (fun _ _ h => h.elim)))⟩
                  case measure => simp [intOf]; omega
          · exact absurd hjc dj
      | false =>
        go_wp2_with fail
        refine (read_any _ (some A5) E.length c5 E _ HO5.out.rb (fun h => by cases h) (by omega)).mono ?_
        rintro e w6 ⟨rp, g, rfl, hr6, hp6, hg6, hx6⟩
        have hER : E = rest false its 0 := by rw [HEQ.out]; simp [rest]
        rw [hER] at hr6
        clear hER
        have HR6 := Lib.hid hr6
        have HX6 := Lib.hid (HX5.out.trans hx6)
        have HO6 := Lib.hid (rowKeep HR5.out hx6 (fun _ _ _ _ => id))
        have hgO6 : ∀ k, (Value.slice AO its.length cO).ownBlock = some k → k ≠ rp := fun k hk => by have := (hroc k hk).2; omega
        have hwrp : w.heap.size ≤ rp := by omega
        clear hr6 hx6 hp6 hg6
        go_wp2_with fail
        go_loopw [12] (fun i wr => ∃ (j o : Nat), j ≤ its.length ∧ i = .int .i64 (j : Int) ∧ True ∧ Hid (RD wr rp g o (rest false its j)) ∧ Hid (Ex (fun x => x = rp) w6 wr)) (fun i _ => its.length - (intOf i).toNat)
        case atStart => exact ⟨0, 0, by omega, rfl, trivial, HR6, Lib.hid (Ex.refl _ w6)⟩
        case round =>
          clear HR6
          obtain ⟨j, o, hj0, rfl, hjc, hrd, hxr⟩ := hrel
          by_cases dj : j < its.length
          · obtain ⟨gO, rfl, hgO, hcO⟩ := rowAt HO6.out j dj
            have hgr : gO ≠ rp := hgO6 gO rfl
            obtain ⟨it, hit⟩ : ∃ it, its[j] = it := ⟨_, rfl⟩
            rw [hit] at hcO
            obtain ⟨C0w, C1w, C2w⟩ := hcO
            have C0 := hxr.out.cell C0w hgr
            have C1 := hxr.out.cell C1w hgr
            have C2 := hxr.out.cell C2w hgr
            have hi := hok.out it (by rw [← hit]; exact List.getElem_mem dj)
            have HI := Lib.hid hi
            clear hi
            have hi := HI
            obtain ⟨R, hR⟩ : ∃ R, R = rest false its j := ⟨_, rfl⟩
            obtain ⟨ht, hd, hle⟩ := rest_next (w := w) false its hok.out j dj (fun h => by cases h)
            rw [← hR] at ht hd hle hrd
            rw [hit] at ht hd hle
            have HRR := Lib.hid hR
            clear hR
            go_upto_block 5 with fail
            go_cut [13, 14, 15] (fun x13 x14 x15 wx => ∃ o' : Nat, x15 = .nilIface ∧ Hid (RD wx rp g o' (rest false its (j + 1))) ∧ Hid (Ex (fun x => x = rp) w6 wx) ∧ ((it.kind < 4 ∧ x13 = .int .u32 it.num) ∨ (it.kind = 4 ∧ ∃ A9, x14 = .slice A9 it.bytes.length it.bytes.length ∧ Hid (RB wx (fun j => j = g) x14 it.bytes))))
            case first =>
              by_cases d3 : it.kind = 1
              ·
                (try clear_value *)
                as_aux_lemma =>
                  have hen : it.enc = txt it.num 1 := by simp [Item.enc, d3]
                  have hel : it.enc.length = 1 := by rw [hen]; simp [txt_len]
                  rw [hel] at ht hd hle
                  rw [hen] at ht
                  have hnl : it.num < 256 ^ 1 := by
                    have h1 := hi.out.some
                    have h2 := hi.out.high
                    have : it.num < 256 := by omega
                    simpa using this
                  have hnb : (nb (R.take 1) : Int) = it.num := by rw [ht]; exact nb_txt 1 it.num hi.out.low hnl
                  have q1 : IntKind.u32.wrap it.num = it.num := by rw [IntKind.wrap_u32]; have := hi.out.low; have := hi.out.high; omega
                  have hb1 : (it.kind == 1) = true := by rw [d3]; rfl
                  have hb2 : (it.kind == 2) = false := by rw [d3]; rfl
                  have hb3 : (it.kind == 3) = false := by rw [d3]; rfl
                  have hb4 : (it.kind == 4) = false := by rw [d3]; rfl
                  have HKD := Lib.hid d3
                  have HEN := Lib.hid hen
                  have HEL := Lib.hid hel
                  have HT := Lib.hid ht
                  have HD := Lib.hid hd
                  have HNB := Lib.hid hnb
                  clear hen hel ht hd hnb hnl d3
                  go_wp2_with fail
                  refine (ru8_any rp g o R wr hrd.out hle).mono ?_
                  rintro e w8 ⟨rfl, hr8, hx8⟩
                  rw [HD.out] at hr8
                  rw [HNB.out]
                  have HX8 := Lib.hid (hxr.out.trans hx8)
                  have HR8 := Lib.hid hr8
                  clear hr8 hx8 hrd hxr
                  go_wp2_with fail
                  go_meet
                  exact ⟨o + 1, rfl, HR8, HX8, .inl ⟨by have := HKD.out; omega, rfl⟩⟩
              by_cases d3 : it.kind = 2
              ·
                (try clear_value *)
                as_aux_lemma =>
                  have hen : it.enc = txt it.num 2 := by simp [Item.enc, d3]
                  have hel : it.enc.length = 2 := by rw [hen]; simp [txt_len]
                  rw [hel] at ht hd hle
                  rw [hen] at ht
                  have hnl : it.num < 256 ^ 2 := by
                    have h1 := hi.out.some
                    have h2 := hi.out.high
                    have : it.num < 65536 := by omega
                    simpa using this
                  have hnb : (nb (R.take 2) : Int) = it.num := by rw [ht]; exact nb_txt 2 it.num hi.out.low hnl
                  have q1 : IntKind.u32.wrap it.num = it.num := by rw [IntKind.wrap_u32]; have := hi.out.low; have := hi.out.high; omega
                  have hb1 : (it.kind == 1) = false := by rw [d3]; rfl
                  have hb2 : (it.kind == 2) = true := by rw [d3]; rfl
                  have hb3 : (it.kind == 3) = false := by rw [d3]; rfl
                  have hb4 : (it.kind == 4) = false := by rw [d3]; rfl
                  have HKD := Lib.hid d3
                  have HEN := Lib.hid hen
                  have HEL := Lib.hid hel
                  have HT := Lib.hid ht
                  have HD := Lib.hid hd
                  have HNB := Lib.hid hnb
                  clear hen hel ht hd hnb hnl d3
                  go_wp2_with fail
                  refine (ru16_any rp g o R wr hrd.out hle).mono ?_
                  rintro e w8 ⟨rfl, hr8, hx8⟩
                  rw [HD.out] at hr8
                  rw [HNB.out]
                  have HX8 := Lib.hid (hxr.out.trans hx8)
                  have HR8 := Lib.hid hr8
                  clear hr8 hx8 hrd hxr
                  go_wp2_with fail
                  go_meet
                  exact ⟨o + 2, rfl, HR8, HX8, .inl ⟨by have := HKD.out; omega, rfl⟩⟩
              by_cases d3 : it.kind = 3
              ·
                (try clear_value *)
                as_aux_lemma =>
                  have hen : it.enc = txt it.num 4 := by simp [Item.enc, d3]
                  have hel : it.enc.length = 4 := by rw [hen]; simp [txt_len]
                  rw [hel] at ht hd hle
                  rw [hen] at ht
                  have hnl : it.num < 256 ^ 4 := by
                    have h1 := hi.out.some
                    have h2 := hi.out.high
                    have : it.num < 4294967296 := by omega
                    simpa using this
                  have hnb : (nb (R.take 4) : Int) = it.num := by rw [ht]; exact nb_txt 4 it.num hi.out.low hnl
                  have q1 : IntKind.u32.wrap it.num = it.num := by rw [IntKind.wrap_u32]; have := hi.out.low; have := hi.out.high; omega
                  have hb1 : (it.kind == 1) = false := by rw [d3]; rfl
                  have hb2 : (it.kind == 2) = false := by rw [d3]; rfl
                  have hb3 : (it.kind == 3) = true := by rw [d3]; rfl
                  have hb4 : (it.kind == 4) = false := by rw [d3]; rfl
                  have HKD := Lib.hid d3
                  have HEN := Lib.hid hen
                  have HEL := Lib.hid hel
                  have HT := Lib.hid ht
                  have HD := Lib.hid hd
                  have HNB := Lib.hid hnb
                  clear hen hel ht hd hnb hnl d3
                  go_wp2_with fail
                  refine (ru32_any rp g o R wr hrd.out hle).mono ?_
                  rintro e w8 ⟨rfl, hr8, hx8⟩
                  rw [HD.out] at hr8
                  rw [HNB.out]
                  have HX8 := Lib.hid (hxr.out.trans hx8)
                  have HR8 := Lib.hid hr8
                  clear hr8 hx8 hrd hxr
                  go_wp2_with fail
                  go_meet
                  exact ⟨o + 4, rfl, HR8, HX8, .inl ⟨by have := HKD.out; omega, rfl⟩⟩
              have d3 : it.kind = 4 := by have := hi.out.some; omega
              have hen : it.enc = it.bytes := by simp [Item.enc, d3]
              rw [hen] at ht hd hle
              have hb1 : (it.kind == 1) = false := by rw [d3]; rfl
              have hb2 : (it.kind == 2) = false := by rw [d3]; rfl
              have hb3 : (it.kind == 3) = false := by rw [d3]; rfl
              have hb4 : (it.kind == 4) = true := by rw [d3]; rfl
              have HKD := Lib.hid d3
              have HT := Lib.hid ht
              have HD := Lib.hid hd
              clear ht hd hen d3
              go_wp2_with fail
              refine (rbytes_any rp g o R it.bytes.length wr hrd.out hle).mono ?_
              rintro e w8 ⟨u8, rfl, A8, rfl, _, hb8, hr8, hx8⟩
              rw [HD.out] at hr8
              rw [HT.out] at hb8
              have HX8 := Lib.hid (hxr.out.trans hx8)
              have HR8 := Lib.hid hr8
              have HB8 := Lib.hid hb8
              clear hr8 hb8 hx8 hrd hxr
              go_wp2_with fail
              go_meet
              exact ⟨o + it.bytes.length, rfl, HR8, HX8, .inr ⟨HKD.out, A8, rfl, HB8⟩⟩
            case rest =>
              clear hrd hxr ht hd hle
              obtain ⟨o', rfl, hr', hx', hcase⟩ := hcut
              have C0 := hx'.out.cell C0w hgr
              have C1 := hx'.out.cell C1w hgr
              have C2 := hx'.out.cell C2w hgr
              have HXW := Lib.hid (HX6.out.andThen hx'.out (fun i hi e => by omega))
              have hS : Ex (fun _ => False) wc wc.drew := (Ex.refl _ wc).drew
              have qj := IntWalk.i64_in ((its.length : Int) - 1) (by omega)
              have hjl : ((j : Int) == (its.length : Int) - 1) = decide ((j : Int) = (its.length : Int) - 1) := by first | rfl | (simp; omega)
              have hv2 : ∀ W, Ex (fun _ => False) wc W → (convert 23 9 (.slice it.at' it.bytes.length it.cap)).run Tryd.prog W = .ok (.string (bs it.bytes)) W := conv_later (HI.out.bytes.keep HXW.out (fun _ _ _ => id))
              rcases hcase with ⟨hk4, rfl⟩ | ⟨hk4, A9, rfl, hb9⟩
              · have hk5 : (it.kind == 4) = false := by simp; omega
                have hk6 : (decide (it.kind < 4)) = true := by simp; omega
                as_aux_lemma =>
                go_upto_region 50 with fail
                refine wp_region_held_drew (S := fun W => Ex (fun _ => False) wc W) (by kernel_rfl) hS (fun _ => ?_)
                refine wpAnyH_take (i := 0) (oi := { dst := some 187, op := Go.Op.move (Go.Operand.tmp 15), type := 28, pos := "law.go:210", after := #[], guard := none }) (v := ?v77) rfl (by kernel_rfl) (by kernel_rfl) (by kernel_rfl) (fun _ _ _ h => h) (Or.inl ⟨by rfl, ?hy77⟩) (by assumption) ?rest77
                case hy77 => (intro w hSw; (try dsimp only at hSw); have C0 := hSw.cell C0 id; have C1 := hSw.cell C1 id; have C2 := hSw.cell C2 id; go_simp <;> with_reducible rfl)
                try simp only [Act.put, List.setIfInBounds_toArray, List.set_cons_zero, List.set_cons_succ]
                refine wpAnyH_take (i := 1) (oi := { dst := some 188, op := Go.Op.binOp Go.BinOp.neq 28 (Go.Operand.tmp 187) (Go.Operand.const Go.Value.nilIface) 28, type := 4, pos := "law.go:210", after := #[{ on := 0, ground := Go.Ground.data }], guard := none }) (v := ?v78) rfl (by kernel_rfl) (by kernel_rfl) (by kernel_rfl) (fun _ _ _ h => h) (Or.inl ⟨by rfl, ?hy78⟩) (by assumption) ?rest78
                case hy78 => (intro w hSw; (try dsimp only at hSw); have C0 := hSw.cell C0 id; have C1 := hSw.cell C1 id; have C2 := hSw.cell C2 id; go_simp <;> with_reducible rfl)
                try simp only [Act.put, List.setIfInBounds_toArray, List.set_cons_zero, List.set_cons_succ]
                refine wpAnyH_take (i := 2) (oi := { dst := some 189, op := Go.Op.move (Go.Operand.tmp 188), type := 4, pos := "law.go:210", after := #[{ on := 1, ground := Go.Ground.data }], guard := none }) (v := ?v79) rfl (by kernel_rfl) (by kernel_rfl) (by kernel_rfl) (fun _ _ _ h => h) (Or.inl ⟨by rfl, ?hy79⟩) (by assumption) ?rest79
                case hy79 => (intro w hSw; (try dsimp only at hSw); have C0 := hSw.cell C0 id; have C1 := hSw.cell C1 id; have C2 := hSw.cell C2 id; go_simp <;> with_reducible rfl)
                try simp only [Act.put, List.setIfInBounds_toArray, List.set_cons_zero, List.set_cons_succ]
                refine wpAnyH_take (i := 3) (oi := { dst := some 190, op := Go.Op.move (Go.Operand.tmp 7), type := 45, pos := "law.go:210", after := #[{ on := 2, ground := Go.Ground.guard }], guard := some (2, false) }) (v := ?v80) rfl (by kernel_rfl) (by kernel_rfl) (by kernel_rfl) (fun _ _ _ h => h) (Or.inl ⟨by rfl, ?hy80⟩) (by assumption) ?rest80
                case hy80 => (intro w hSw; (try dsimp only at hSw); have C0 := hSw.cell C0 id; have C1 := hSw.cell C1 id; have C2 := hSw.cell C2 id; go_simp <;> with_reducible rfl)
                try simp only [Act.put, List.setIfInBounds_toArray, List.set_cons_zero, List.set_cons_succ]
                refine wpAnyH_take (i := 4) (oi := { dst := some 191, op := Go.Op.move (Go.Operand.tmp 12), type := 3, pos := "law.go:210", after := #[{ on := 2, ground := Go.Ground.guard }], guard := some (2, false) }) (v := ?v81) rfl (by kernel_rfl) (by kernel_rfl) (by kernel_rfl) (fun _ _ _ h => h) (Or.inl ⟨by rfl, ?hy81⟩) (by assumption) ?rest81
                case hy81 => (intro w hSw; (try dsimp only at hSw); have C0 := hSw.cell C0 id; have C1 := hSw.cell C1 id; have C2 := hSw.cell C2 id; go_simp <;> with_reducible rfl)
                try simp only [Act.put, List.setIfInBounds_toArray, List.set_cons_zero, List.set_cons_succ]
                refine wpAnyH_take (i := 5) (oi := { dst := some 192, op := Go.Op.indexAddr 45 (Go.Operand.tmp 190) (Go.Operand.tmp 191), type := 0, pos := "law.go:210", after := #[{ on := 3, ground := Go.Ground.data }, { on := 4, ground := Go.Ground.data }, { on := 2, ground := Go.Ground.guard }], guard := some (2, false) }) (v := ?v82) rfl (by kernel_rfl) (by kernel_rfl) (by kernel_rfl) (fun _ _ _ h => h) (Or.inl ⟨by rfl, ?hy82⟩) (by assumption) ?rest82
                case hy82 => (intro w hSw; (try dsimp only at hSw); have C0 := hSw.cell C0 id; have C1 := hSw.cell C1 id; have C2 := hSw.cell C2 id; go_simp <;> with_reducible rfl)
                try simp only [Act.put, List.setIfInBounds_toArray, List.set_cons_zero, List.set_cons_succ]
                refine wpAnyH_take (i := 6) (oi := { dst := some 193, op := Go.Op.fieldAddr 47 (Go.Operand.tmp 192) 0, type := 0, pos := "law.go:210", after := #[{ on := 5, ground := Go.Ground.data }, { on := 2, ground := Go.Ground.guard }], guard := some (2, false) }) (v := ?v83) rfl (by kernel_rfl) (by kernel_rfl) (by kernel_rfl) (fun _ _ _ h => h) (Or.inl ⟨by rfl, ?hy83⟩) (by assumption) ?rest83
                case hy83 => (intro w hSw; (try dsimp only at hSw); have C0 := hSw.cell C0 id; have C1 := hSw.cell C1 id; have C2 := hSw.cell C2 id; go_simp <;> with_reducible rfl)
                try simp only [Act.put, List.setIfInBounds_toArray, List.set_cons_zero, List.set_cons_succ]
                refine wpAnyH_take (i := 7) (oi := { dst := some 194, op := Go.Op.load 3 (Go.Operand.tmp 193), type := 3, pos := "law.go:210", after := #[{ on := 6, ground := Go.Ground.data }, { on := 2, ground := Go.Ground.guard }], guard := some (2, false) }) (v := ?v84) rfl (by kernel_rfl) (by kernel_rfl) (by kernel_rfl) (fun _ _ _ h => h) (Or.inl ⟨by rfl, ?hy84⟩) (by assumption) ?rest84
                case hy84 => (intro w hSw; (try dsimp only at hSw); have C0 := hSw.cell C0 id; have C1 := hSw.cell C1 id; have C2 := hSw.cell C2 id; go_simp <;> with_reducible rfl)
                try simp only [Act.put, List.setIfInBounds_toArray, List.set_cons_zero, List.set_cons_succ]
                refine wpAnyH_take (i := 8) (oi := { dst := some 195, op := Go.Op.binOp Go.BinOp.lss 3 (Go.Operand.tmp 194) (Go.Operand.const (Go.Value.int Go.IntKind.i64 4)) 3, type := 4, pos := "law.go:210", after := #[{ on := 7, ground := Go.Ground.data }, { on := 2, ground := Go.Ground.guard }], guard := some (2, false) }) (v := ?v85) rfl (by kernel_rfl) (by kernel_rfl) (by kernel_rfl) (fun _ _ _ h => h) (Or.inl ⟨by rfl, ?hy85⟩) (by assumption) ?rest85
                case hy85 => (intro w hSw; (try dsimp only at hSw); have C0 := hSw.cell C0 id; have C1 := hSw.cell C1 id; have C2 := hSw.cell C2 id; go_simp <;> with_reducible rfl)
                try simp only [Act.put, List.setIfInBounds_toArray, List.set_cons_zero, List.set_cons_succ]
                refine wpAnyH_take (i := 9) (oi := { dst := some 196, op := Go.Op.move (Go.Operand.tmp 195), type := 4, pos := "law.go:210", after := #[{ on := 8, ground := Go.Ground.data }, { on := 2, ground := Go.Ground.chain }, { on := 2, ground := Go.Ground.guard }], guard := some (2, false) }) (v := ?v86) rfl (by kernel_rfl) (by kernel_rfl) (by kernel_rfl) (fun _ _ _ h => h) (Or.inl ⟨by rfl, ?hy86⟩) (by assumption) ?rest86
                case hy86 => (intro w hSw; (try dsimp only at hSw); have C0 := hSw.cell C0 id; have C1 := hSw.cell C1 id; have C2 := hSw.cell C2 id; go_simp <;> with_reducible rfl)
                try simp only [Act.put, List.setIfInBounds_toArray, List.set_cons_zero, List.set_cons_succ]
                refine wpAnyH_take (i := 10) (oi := { dst := some 197, op := Go.Op.move (Go.Operand.tmp 13), type := 26, pos := "law.go:210", after := #[{ on := 9, ground := Go.Ground.guard }], guard := some (9, true) }) (v := ?v87) rfl (by kernel_rfl) (by kernel_rfl) (by kernel_rfl) (fun _ _ _ h => h) (Or.inl ⟨by rfl, ?hy87⟩) (by assumption) ?rest87
                case hy87 => (intro w hSw; (try dsimp only at hSw); have C0 := hSw.cell C0 id; have C1 := hSw.cell C1 id; have C2 := hSw.cell C2 id; go_simp <;> with_reducible rfl)
                try simp only [Act.put, List.setIfInBounds_toArray, List.set_cons_zero, List.set_cons_succ]
                refine wpAnyH_take (i := 11) (oi := { dst := some 198, op := Go.Op.move (Go.Operand.tmp 7), type := 45, pos := "law.go:210", after := #[{ on := 9, ground := Go.Ground.guard }], guard := some (9, true) }) (v := ?v88) rfl (by kernel_rfl) (by kernel_rfl) (by kernel_rfl) (fun _ _ _ h => h) (Or.inl ⟨by rfl, ?hy88⟩) (by assumption) ?rest88
                case hy88 => (intro w hSw; (try dsimp only at hSw); have C0 := hSw.cell C0 id; have C1 := hSw.cell C1 id; have C2 := hSw.cell C2 id; go_simp <;> with_reducible rfl)
                try simp only [Act.put, List.setIfInBounds_toArray, List.set_cons_zero, List.set_cons_succ]
                refine wpAnyH_take (i := 12) (oi := { dst := some 199, op := Go.Op.move (Go.Operand.tmp 12), type := 3, pos := "law.go:210", after := #[{ on := 9, ground := Go.Ground.guard }], guard := some (9, true) }) (v := ?v89) rfl (by kernel_rfl) (by kernel_rfl) (by kernel_rfl) (fun _ _ _ h => h) (Or.inl ⟨by rfl, ?hy89⟩) (by assumption) ?rest89
                case hy89 => (intro w hSw; (try dsimp only at hSw); have C0 := hSw.cell C0 id; have C1 := hSw.cell C1 id; have C2 := hSw.cell C2 id; go_simp <;> with_reducible rfl)
                try simp only [Act.put, List.setIfInBounds_toArray, List.set_cons_zero, List.set_cons_succ]
                refine wpAnyH_take (i := 13) (oi := { dst := some 200, op := Go.Op.indexAddr 45 (Go.Operand.tmp 198) (Go.Operand.tmp 199), type := 0, pos := "law.go:210", after := #[{ on := 11, ground := Go.Ground.data }, { on := 12, ground := Go.Ground.data }, { on := 9, ground := Go.Ground.guard }], guard := some (9, true) }) (v := ?v90) rfl (by kernel_rfl) (by kernel_rfl) (by kernel_rfl) (fun _ _ _ h => h) (Or.inl ⟨by rfl, ?hy90⟩) (by assumption) ?rest90
                case hy90 => (intro w hSw; (try dsimp only at hSw); have C0 := hSw.cell C0 id; have C1 := hSw.cell C1 id; have C2 := hSw.cell C2 id; go_simp <;> with_reducible rfl)
                try simp only [Act.put, List.setIfInBounds_toArray, List.set_cons_zero, List.set_cons_succ]
                refine wpAnyH_take (i := 14) (oi := { dst := some 201, op := Go.Op.fieldAddr 47 (Go.Operand.tmp 200) 1, type := 0, pos := "law.go:210", after := #[{ on := 13, ground := Go.Ground.data }, { on := 9, ground := Go.Ground.guard }], guard := some (9, true) }) (v := ?v91) rfl (by kernel_rfl) (by kernel_rfl) (by kernel_rfl) (fun _ _ _ h => h) (Or.inl ⟨by rfl, ?hy91⟩) (by assumption) ?rest91
                case hy91 => (intro w hSw; (try dsimp only at hSw); have C0 := hSw.cell C0 id; have C1 := hSw.cell C1 id; have C2 := hSw.cell C2 id; go_simp <;> with_reducible rfl)
                try simp only [Act.put, List.setIfInBounds_toArray, List.set_cons_zero, List.set_cons_succ]
                refine wpAnyH_take (i := 15) (oi := { dst := some 202, op := Go.Op.load 26 (Go.Operand.tmp 201), type := 26, pos := "law.go:210", after := #[{ on := 14, ground := Go.Ground.data }, { on := 9, ground := Go.Ground.guard }], guard := some (9, true) }) (v := ?v92) rfl (by kernel_rfl) (by kernel_rfl) (by kernel_rfl) (fun _ _ _ h => h) (Or.inl ⟨by rfl, ?hy92⟩) (by assumption) ?rest92
                case hy92 => (intro w hSw; (try dsimp only at hSw); have C0 := hSw.cell C0 id; have C1 := hSw.cell C1 id; have C2 := hSw.cell C2 id; go_simp <;> with_reducible rfl)
                try simp only [Act.put, List.setIfInBounds_toArray, List.set_cons_zero, List.set_cons_succ]
                refine wpAnyH_take (i := 16) (oi := { dst := some 203, op := Go.Op.binOp Go.BinOp.neq 26 (Go.Operand.tmp 197) (Go.Operand.tmp 202) 26, type := 4, pos := "law.go:210", after := #[{ on := 10, ground := Go.Ground.data }, { on := 15, ground := Go.Ground.data }, { on := 9, ground := Go.Ground.guard }], guard := some (9, true) }) (v := ?v93) rfl (by kernel_rfl) (by kernel_rfl) (by kernel_rfl) (fun _ _ _ h => h) (Or.inl ⟨by rfl, ?hy93⟩) (by assumption) ?rest93
                case hy93 => (intro w hSw; (try dsimp only at hSw); have C0 := hSw.cell C0 id; have C1 := hSw.cell C1 id; have C2 := hSw.cell C2 id; go_simp <;> with_reducible rfl)
                try simp only [Act.put, List.setIfInBounds_toArray, List.set_cons_zero, List.set_cons_succ]
                refine wpAnyH_take (i := 17) (oi := { dst := some 204, op := Go.Op.pick (Go.Operand.tmp 196) (Go.Operand.tmp 203) (Go.Operand.const (Go.Value.bool false)), type := 4, pos := "law.go:210", after := #[{ on := 9, ground := Go.Ground.data }, { on := 16, ground := Go.Ground.data }, { on := 2, ground := Go.Ground.guard }], guard := some (2, false) }) (v := ?v94) rfl (by kernel_rfl) (by kernel_rfl) (by kernel_rfl) (fun _ _ _ h => h) (Or.inl ⟨by rfl, ?hy94⟩) (by assumption) ?rest94
                case hy94 => (intro w hSw; (try dsimp only at hSw); have C0 := hSw.cell C0 id; have C1 := hSw.cell C1 id; have C2 := hSw.cell C2 id; go_simp <;> with_reducible rfl)
                try simp only [Act.put, List.setIfInBounds_toArray, List.set_cons_zero, List.set_cons_succ]
                refine wpAnyH_take (i := 18) (oi := { dst := some 205, op := Go.Op.pick (Go.Operand.tmp 189) (Go.Operand.const (Go.Value.bool true)) (Go.Operand.tmp 204), type := 4, pos := "law.go:210", after := #[{ on := 2, ground := Go.Ground.data }, { on := 17, ground := Go.Ground.data }], guard := none }) (v := ?v95) rfl (by kernel_rfl) (by kernel_rfl) (by kernel_rfl) (fun _ _ _ h => h) (Or.inl ⟨by rfl, ?hy95⟩) (by assumption) ?rest95
                case hy95 => (intro w hSw; (try dsimp only at hSw); have C0 := hSw.cell C0 id; have C1 := hSw.cell C1 id; have C2 := hSw.cell C2 id; go_simp <;> with_reducible rfl)
                try simp only [Act.put, List.setIfInBounds_toArray, List.set_cons_zero, List.set_cons_succ]
                refine wpAnyH_take (i := 19) (oi := { dst := some 206, op := Go.Op.move (Go.Operand.tmp 205), type := 4, pos := "law.go:210", after := #[{ on := 18, ground := Go.Ground.data }, { on := 9, ground := Go.Ground.chain }], guard := none }) (v := ?v96) rfl (by kernel_rfl) (by kernel_rfl) (by kernel_rfl) (fun _ _ _ h => h) (Or.inl ⟨by rfl, ?hy96⟩) (by assumption) ?rest96
                case hy96 => (intro w hSw; (try dsimp only at hSw); have C0 := hSw.cell C0 id; have C1 := hSw.cell C1 id; have C2 := hSw.cell C2 id; go_simp <;> with_reducible rfl)
                try simp only [Act.put, List.setIfInBounds_toArray, List.set_cons_zero, List.set_cons_succ]
                refine wpAnyH_take (i := 20) (oi := { dst := some 207, op := Go.Op.move (Go.Operand.tmp 7), type := 45, pos := "law.go:210", after := #[{ on := 19, ground := Go.Ground.guard }], guard := some (19, false) }) (v := ?v97) rfl (by kernel_rfl) (by kernel_rfl) (by kernel_rfl) (fun _ _ _ h => h) (Or.inl ⟨by rfl, ?hy97⟩) (by assumption) ?rest97
                case hy97 => (intro w hSw; (try dsimp only at hSw); have C0 := hSw.cell C0 id; have C1 := hSw.cell C1 id; have C2 := hSw.cell C2 id; go_simp <;> with_reducible rfl)
                try simp only [Act.put, List.setIfInBounds_toArray, List.set_cons_zero, List.set_cons_succ]
                refine wpAnyH_take (i := 21) (oi := { dst := some 208, op := Go.Op.move (Go.Operand.tmp 12), type := 3, pos := "law.go:210", after := #[{ on := 19, ground := Go.Ground.guard }], guard := some (19, false) }) (v := ?v98) rfl (by kernel_rfl) (by kernel_rfl) (by kernel_rfl) (fun _ _ _ h => h) (Or.inl ⟨by rfl, ?hy98⟩) (by assumption) ?rest98
                case hy98 => (intro w hSw; (try dsimp only at hSw); have C0 := hSw.cell C0 id; have C1 := hSw.cell C1 id; have C2 := hSw.cell C2 id; go_simp <;> with_reducible rfl)
                try simp only [Act.put, List.setIfInBounds_toArray, List.set_cons_zero, List.set_cons_succ]
                refine wpAnyH_take (i := 22) (oi := { dst := some 209, op := Go.Op.indexAddr 45 (Go.Operand.tmp 207) (Go.Operand.tmp 208), type := 0, pos := "law.go:210", after := #[{ on := 20, ground := Go.Ground.data }, { on := 21, ground := Go.Ground.data }, { on := 19, ground := Go.Ground.guard }], guard := some (19, false) }) (v := ?v99) rfl (by kernel_rfl) (by kernel_rfl) (by kernel_rfl) (fun _ _ _ h => h) (Or.inl ⟨by rfl, ?hy99⟩) (by assumption) ?rest99
                case hy99 => (intro w hSw; (try dsimp only at hSw); have C0 := hSw.cell C0 id; have C1 := hSw.cell C1 id; have C2 := hSw.cell C2 id; go_simp <;> with_reducible rfl)
                try simp only [Act.put, List.setIfInBounds_toArray, List.set_cons_zero, List.set_cons_succ]
                refine wpAnyH_take (i := 23) (oi := { dst := some 210, op := Go.Op.fieldAddr 47 (Go.Operand.tmp 209) 0, type := 0, pos := "law.go:210", after := #[{ on := 22, ground := Go.Ground.data }, { on := 19, ground := Go.Ground.guard }], guard := some (19, false) }) (v := ?v100) rfl (by kernel_rfl) (by kernel_rfl) (by kernel_rfl) (fun _ _ _ h => h) (Or.inl ⟨by rfl, ?hy100⟩) (by assumption) ?rest100
                case hy100 => (intro w hSw; (try dsimp only at hSw); have C0 := hSw.cell C0 id; have C1 := hSw.cell C1 id; have C2 := hSw.cell C2 id; go_simp <;> with_reducible rfl)
                try simp only [Act.put, List.setIfInBounds_toArray, List.set_cons_zero, List.set_cons_succ]
                refine wpAnyH_take (i := 24) (oi := { dst := some 211, op := Go.Op.load 3 (Go.Operand.tmp 210), type := 3, pos := "law.go:210", after := #[{ on := 23, ground := Go.Ground.data }, { on := 19, ground := Go.Ground.guard }], guard := some (19, false) }) (v := ?v101) rfl (by kernel_rfl) (by kernel_rfl) (by kernel_rfl) (fun _ _ _ h => h) (Or.inl ⟨by rfl, ?hy101⟩) (by assumption) ?rest101
                case hy101 => (intro w hSw; (try dsimp only at hSw); have C0 := hSw.cell C0 id; have C1 := hSw.cell C1 id; have C2 := hSw.cell C2 id; go_simp <;> with_reducible rfl)
                try simp only [Act.put, List.setIfInBounds_toArray, List.set_cons_zero, List.set_cons_succ]
                refine wpAnyH_take (i := 25) (oi := { dst := some 212, op := Go.Op.binOp Go.BinOp.eql 3 (Go.Operand.tmp 211) (Go.Operand.const (Go.Value.int Go.IntKind.i64 4)) 3, type := 4, pos := "law.go:210", after := #[{ on := 24, ground := Go.Ground.data }, { on := 19, ground := Go.Ground.guard }], guard := some (19, false) }) (v := ?v102) rfl (by kernel_rfl) (by kernel_rfl) (by kernel_rfl) (fun _ _ _ h => h) (Or.inl ⟨by rfl, ?hy102⟩) (by assumption) ?rest102
                case hy102 => (intro w hSw; (try dsimp only at hSw); have C0 := hSw.cell C0 id; have C1 := hSw.cell C1 id; have C2 := hSw.cell C2 id; go_simp <;> with_reducible rfl)
                try simp only [Act.put, List.setIfInBounds_toArray, List.set_cons_zero, List.set_cons_succ]
                refine wpAnyH_take (i := 26) (oi := { dst := some 213, op := Go.Op.move (Go.Operand.tmp 212), type := 4, pos := "law.go:210", after := #[{ on := 25, ground := Go.Ground.data }, { on := 19, ground := Go.Ground.chain }, { on := 19, ground := Go.Ground.guard }], guard := some (19, false) }) (v := ?v103) rfl (by kernel_rfl) (by kernel_rfl) (by kernel_rfl) (fun _ _ _ h => h) (Or.inl ⟨by rfl, ?hy103⟩) (by assumption) ?rest103
                case hy103 => (intro w hSw; (try dsimp only at hSw); have C0 := hSw.cell C0 id; have C1 := hSw.cell C1 id; have C2 := hSw.cell C2 id; go_simp <;> with_reducible rfl)
                try simp only [Act.put, List.setIfInBounds_toArray, List.set_cons_zero, List.set_cons_succ]
                refine wpAnyH_take (i := 27) (oi := { dst := some 214, op := Go.Op.move (Go.Operand.tmp 14), type := 23, pos := "law.go:210", after := #[{ on := 26, ground := Go.Ground.guard }], guard := some (26, true) }) (v := undef) rfl (by kernel_rfl) (by kernel_rfl) (by kernel_rfl) (fun _ _ _ h => h) (Or.inr ⟨by rfl, rfl⟩) (by assumption) ?rest104
                try simp only [Act.put, List.setIfInBounds_toArray, List.set_cons_zero, List.set_cons_succ]
                refine wpAnyH_take (i := 28) (oi := { dst := some 215, op := Go.Op.convert 23 9 (Go.Operand.tmp 214), type := 9, pos := "law.go:210", after := #[{ on := 27, ground := Go.Ground.data }, { on := 26, ground := Go.Ground.guard }], guard := some (26, true) }) (v := undef) rfl (by kernel_rfl) (by kernel_rfl) (by kernel_rfl) (fun _ _ _ h => h) (Or.inr ⟨by rfl, rfl⟩) (by assumption) ?rest105
                try simp only [Act.put, List.setIfInBounds_toArray, List.set_cons_zero, List.set_cons_succ]
                refine wpAnyH_take (i := 29) (oi := { dst := some 216, op := Go.Op.move (Go.Operand.tmp 7), type := 45, pos := "law.go:210", after := #[{ on := 26, ground := Go.Ground.guard }], guard := some (26, true) }) (v := undef) rfl (by kernel_rfl) (by kernel_rfl) (by kernel_rfl) (fun _ _ _ h => h) (Or.inr ⟨by rfl, rfl⟩) (by assumption) ?rest106
                try simp only [Act.put, List.setIfInBounds_toArray, List.set_cons_zero, List.set_cons_succ]
                refine wpAnyH_take (i := 30) (oi := { dst := some 217, op := Go.Op.move (Go.Operand.tmp 12), type := 3, pos := "law.go:210", after := #[{ on := 26, ground := Go.Ground.guard }], guard := some (26, true) }) (v := undef) rfl (by kernel_rfl) (by kernel_rfl) (by kernel_rfl) (fun _ _ _ h => h) (Or.inr ⟨by rfl, rfl⟩) (by assumption) ?rest107
                try simp only [Act.put, List.setIfInBounds_toArray, List.set_cons_zero, List.set_cons_succ]
                refine wpAnyH_take (i := 31) (oi := { dst := some 218, op := Go.Op.indexAddr 45 (Go.Operand.tmp 216) (Go.Operand.tmp 217), type := 0, pos := "law.go:210", after := #[{ on := 29, ground := Go.Ground.data }, { on := 30, ground := Go.Ground.data }, { on := 26, ground := Go.Ground.guard }], guard := some (26, true) }) (v := undef) rfl (by kernel_rfl) (by kernel_rfl) (by kernel_rfl) (fun _ _ _ h => h) (Or.inr ⟨by rfl, rfl⟩) (by assumption) ?rest108
                try simp only [Act.put, List.setIfInBounds_toArray, List.set_cons_zero, List.set_cons_succ]
                refine wpAnyH_take (i := 32) (oi := { dst := some 219, op := Go.Op.fieldAddr 47 (Go.Operand.tmp 218) 2, type := 0, pos := "law.go:210", after := #[{ on := 31, ground := Go.Ground.data }, { on := 26, ground := Go.Ground.guard }], guard := some (26, true) }) (v := undef) rfl (by kernel_rfl) (by kernel_rfl) (by kernel_rfl) (fun _ _ _ h => h) (Or.inr ⟨by rfl, rfl⟩) (by assumption) ?rest109
                try simp only [Act.put, List.setIfInBounds_toArray, List.set_cons_zero, List.set_cons_succ]
                refine wpAnyH_take (i := 33) (oi := { dst := some 220, op := Go.Op.load 23 (Go.Operand.tmp 219), type := 23, pos := "law.go:210", after := #[{ on := 32, ground := Go.Ground.data }, { on := 26, ground := Go.Ground.guard }], guard := some (26, true) }) (v := undef) rfl (by kernel_rfl) (by kernel_rfl) (by kernel_rfl) (fun _ _ _ h => h) (Or.inr ⟨by rfl, rfl⟩) (by assumption) ?rest110
                try simp only [Act.put, List.setIfInBounds_toArray, List.set_cons_zero, List.set_cons_succ]
                refine wpAnyH_take (i := 34) (oi := { dst := some 221, op := Go.Op.convert 23 9 (Go.Operand.tmp 220), type := 9, pos := "law.go:210", after := #[{ on := 33, ground := Go.Ground.data }, { on := 26, ground := Go.Ground.guard }], guard := some (26, true) }) (v := undef) rfl (by kernel_rfl) (by kernel_rfl) (by kernel_rfl) (fun _ _ _ h => h) (Or.inr ⟨by rfl, rfl⟩) (by assumption) ?rest111
                try simp only [Act.put, List.setIfInBounds_toArray, List.set_cons_zero, List.set_cons_succ]
                refine wpAnyH_take (i := 35) (oi := { dst := some 222, op := Go.Op.binOp Go.BinOp.neq 9 (Go.Operand.tmp 215) (Go.Operand.tmp 221) 9, type := 4, pos := "law.go:210", after := #[{ on := 28, ground := Go.Ground.data }, { on := 34, ground := Go.Ground.data }, { on := 26, ground := Go.Ground.guard }], guard := some (26, true) }) (v := undef) rfl (by kernel_rfl) (by kernel_rfl) (by kernel_rfl) (fun _ _ _ h => h) (Or.inr ⟨by rfl, rfl⟩) (by assumption) ?rest112
                try simp only [Act.put, List.setIfInBounds_toArray, List.set_cons_zero, List.set_cons_succ]
                refine wpAnyH_take (i := 36) (oi := { dst := some 223, op := Go.Op.pick (Go.Operand.tmp 213) (Go.Operand.tmp 222) (Go.Operand.const (Go.Value.bool false)), type := 4, pos := "law.go:210", after := #[{ on := 26, ground := Go.Ground.data }, { on := 35, ground := Go.Ground.data }, { on := 19, ground := Go.Ground.guard }], guard := some (19, false) }) (v := ?v113) rfl (by kernel_rfl) (by kernel_rfl) (by kernel_rfl) (fun _ _ _ h => h) (Or.inl ⟨by rfl, ?hy113⟩) (by assumption) ?rest113
                case hy113 => (intro w hSw; (try dsimp only at hSw); have C0 := hSw.cell C0 id; have C1 := hSw.cell C1 id; have C2 := hSw.cell C2 id; go_simp <;> with_reducible rfl)
                try simp only [Act.put, List.setIfInBounds_toArray, List.set_cons_zero, List.set_cons_succ]
                refine wpAnyH_take (i := 37) (oi := { dst := some 224, op := Go.Op.pick (Go.Operand.tmp 206) (Go.Operand.const (Go.Value.bool true)) (Go.Operand.tmp 223), type := 4, pos := "law.go:210", after := #[{ on := 19, ground := Go.Ground.data }, { on := 36, ground := Go.Ground.data }], guard := none }) (v := ?v114) rfl (by kernel_rfl) (by kernel_rfl) (by kernel_rfl) (fun _ _ _ h => h) (Or.inl ⟨by rfl, ?hy114⟩) (by assumption) ?rest114
                case hy114 => (intro w hSw; (try dsimp only at hSw); have C0 := hSw.cell C0 id; have C1 := hSw.cell C1 id; have C2 := hSw.cell C2 id; go_simp <;> with_reducible rfl)
                try simp only [Act.put, List.setIfInBounds_toArray, List.set_cons_zero, List.set_cons_succ]
                refine wpAnyH_done (by kernel_rfl) ?_ _
                go_wp2_with fail
                go_roundw
                case rel => exact ⟨j + 1, o', by omega, by go_num, trivial, Lib.hid (hr'.out.keep hS id (fun _ => id)), Lib.hid (hx'.out.trans (hS.mono (fun _ _ h => h.elim)))⟩
                case measure => simp [intOf]; omega
              · have hk5 : (it.kind == 4) = true := by simp; omega
                have hk6 : (decide (it.kind < 4)) = false := by simp; omega
                have hk7 : ¬ it.kind < 4 := by omega
                have hv1 : ∀ W, Ex (fun _ => False) wc W → (convert 23 9 (.slice A9 it.bytes.length it.bytes.length)).run Tryd.prog W = .ok (.string (bs it.bytes)) W := conv_later hb9.out.any
                as_aux_lemma =>
                go_upto_region 50 with fail
                refine wp_region_held_drew (S := fun W => Ex (fun _ => False) wc W) (by kernel_rfl) hS (fun _ => ?_)
                refine wpAnyH_take (i := 0) (oi := { dst := some 187, op := Go.Op.move (Go.Operand.tmp 15), type := 28, pos := "law.go:210", after := #[], guard := none }) (v := ?v115) rfl (by kernel_rfl) (by kernel_rfl) (by kernel_rfl) (fun _ _ _ h => h) (Or.inl ⟨by rfl, ?hy115⟩) (by assumption) ?rest115
                case hy115 => (intro w hSw; (try dsimp only at hSw); have C0 := hSw.cell C0 id; have C1 := hSw.cell C1 id; have C2 := hSw.cell C2 id; go_simp <;> with_reducible rfl)
                try simp only [Act.put, List.setIfInBounds_toArray, List.set_cons_zero, List.set_cons_succ]
                refine wpAnyH_take (i := 1) (oi := { dst := some 188, op := Go.Op.binOp Go.BinOp.neq 28 (Go.Operand.tmp 187) (Go.Operand.const Go.Value.nilIface) 28, type := 4, pos := "law.go:210", after := #[{ on := 0, ground := Go.Ground.data }], guard := none }) (v := ?v116) rfl (by kernel_rfl) (by kernel_rfl) (by kernel_rfl) (fun _ _ _ h => h) (Or.inl ⟨by rfl, ?hy116⟩) (by assumption) ?rest116
                case hy116 => (intro w hSw; (try dsimp only at hSw); have C0 := hSw.cell C0 id; have C1 := hSw.cell C1 id; have C2 := hSw.cell C2 id; go_simp <;> with_reducible rfl)
                try simp only [Act.put, List.setIfInBounds_toArray, List.set_cons_zero, List.set_cons_succ]
                refine wpAnyH_take (i := 2) (oi := { dst := some 189, op := Go.Op.move (Go.Operand.tmp 188), type := 4, pos := "law.go:210", after := #[{ on := 1, ground := Go.Ground.data }], guard := none }) (v := ?v117) rfl (by kernel_rfl) (by kernel_rfl) (by kernel_rfl) (fun _ _ _ h => h) (Or.inl ⟨by rfl, ?hy117⟩) (by assumption) ?rest117
                case hy117 => (intro w hSw; (try dsimp only at hSw); have C0 := hSw.cell C0 id; have C1 := hSw.cell C1 id; have C2 := hSw.cell C2 id; go_simp <;> with_reducible rfl)
                try simp only [Act.put, List.setIfInBounds_toArray, List.set_cons_zero, List.set_cons_succ]
                refine wpAnyH_take (i := 3) (oi := { dst := some 190, op := Go.Op.move (Go.Operand.tmp 7), type := 45, pos := "law.go:210", after := #[{ on := 2, ground := Go.Ground.guard }], guard := some (2, false) }) (v := ?v118) rfl (by kernel_rfl) (by kernel_rfl) (by kernel_rfl) (fun _ _ _ h => h) (Or.inl ⟨by rfl, ?hy118⟩) (by assumption) ?rest118
                case hy118 => (intro w hSw; (try dsimp only at hSw); have C0 := hSw.cell C0 id; have C1 := hSw.cell C1 id; have C2 := hSw.cell C2 id; go_simp <;> with_reducible rfl)
                try simp only [Act.put, List.setIfInBounds_toArray, List.set_cons_zero, List.set_cons_succ]
                refine wpAnyH_take (i := 4) (oi := { dst := some 191, op := Go.Op.move (Go.Operand.tmp 12), type := 3, pos := "law.go:210", after := #[{ on := 2, ground := Go.Ground.guard }], guard := some (2, false) }) (v := ?v119) rfl (by kernel_rfl) (by kernel_rfl) (by kernel_rfl) (fun _ _ _ h => h) (Or.inl ⟨by rfl, ?hy119⟩) (by assumption) ?rest119
                case hy119 => (intro w hSw; (try dsimp only at hSw); have C0 := hSw.cell C0 id; have C1 := hSw.cell C1 id; have C2 := hSw.cell C2 id; go_simp <;> with_reducible rfl)
                try simp only [Act.put, List.setIfInBounds_toArray, List.set_cons_zero, List.set_cons_succ]
                refine wpAnyH_take (i := 5) (oi := { dst := some 192, op := Go.Op.indexAddr 45 (Go.Operand.tmp 190) (Go.Operand.tmp 191), type := 0, pos := "law.go:210", after := #[{ on := 3, ground := Go.Ground.data }, { on := 4, ground := Go.Ground.data }, { on := 2, ground := Go.Ground.guard }], guard := some (2, false) }) (v := ?v120) rfl (by kernel_rfl) (by kernel_rfl) (by kernel_rfl) (fun _ _ _ h => h) (Or.inl ⟨by rfl, ?hy120⟩) (by assumption) ?rest120
                case hy120 => (intro w hSw; (try dsimp only at hSw); have C0 := hSw.cell C0 id; have C1 := hSw.cell C1 id; have C2 := hSw.cell C2 id; go_simp <;> with_reducible rfl)
                try simp only [Act.put, List.setIfInBounds_toArray, List.set_cons_zero, List.set_cons_succ]
                refine wpAnyH_take (i := 6) (oi := { dst := some 193, op := Go.Op.fieldAddr 47 (Go.Operand.tmp 192) 0, type := 0, pos := "law.go:210", after := #[{ on := 5, ground := Go.Ground.data }, { on := 2, ground := Go.Ground.guard }], guard := some (2, false) }) (v := ?v121) rfl (by kernel_rfl) (by kernel_rfl) (by kernel_rfl) (fun _ _ _ h => h) (Or.inl ⟨by rfl, ?hy121⟩) (by assumption) ?rest121
                case hy121 => (intro w hSw; (try dsimp only at hSw); have C0 := hSw.cell C0 id; have C1 := hSw.cell C1 id; have C2 := hSw.cell C2 id; go_simp <;> with_reducible rfl)
                try simp only [Act.put, List.setIfInBounds_toArray, List.set_cons_zero, List.set_cons_succ]
                refine wpAnyH_take (i := 7) (oi := { dst := some 194, op := Go.Op.load 3 (Go.Operand.tmp 193), type := 3, pos := "law.go:210", after := #[{ on := 6, ground := Go.Ground.data }, { on := 2, ground := Go.Ground.guard }], guard := some (2, false) }) (v := ?v122) rfl (by kernel_rfl) (by kernel_rfl) (by kernel_rfl) (fun _ _ _ h => h) (Or.inl ⟨by rfl, ?hy122⟩) (by assumption) ?rest122
                case hy122 => (intro w hSw; (try dsimp only at hSw); have C0 := hSw.cell C0 id; have C1 := hSw.cell C1 id; have C2 := hSw.cell C2 id; go_simp <;> with_reducible rfl)
                try simp only [Act.put, List.setIfInBounds_toArray, List.set_cons_zero, List.set_cons_succ]
                refine wpAnyH_take (i := 8) (oi := { dst := some 195, op := Go.Op.binOp Go.BinOp.lss 3 (Go.Operand.tmp 194) (Go.Operand.const (Go.Value.int Go.IntKind.i64 4)) 3, type := 4, pos := "law.go:210", after := #[{ on := 7, ground := Go.Ground.data }, { on := 2, ground := Go.Ground.guard }], guard := some (2, false) }) (v := ?v123) rfl (by kernel_rfl) (by kernel_rfl) (by kernel_rfl) (fun _ _ _ h => h) (Or.inl ⟨by rfl, ?hy123⟩) (by assumption) ?rest123
                case hy123 => (intro w hSw; (try dsimp only at hSw); have C0 := hSw.cell C0 id; have C1 := hSw.cell C1 id; have C2 := hSw.cell C2 id; go_simp <;> with_reducible rfl)
                try simp only [Act.put, List.setIfInBounds_toArray, List.set_cons_zero, List.set_cons_succ]
                refine wpAnyH_take (i := 9) (oi := { dst := some 196, op := Go.Op.move (Go.Operand.tmp 195), type := 4, pos := "law.go:210", after := #[{ on := 8, ground := Go.Ground.data }, { on := 2, ground := Go.Ground.chain }, { on := 2, ground := Go.Ground.guard }], guard := some (2, false) }) (v := ?v124) rfl (by kernel_rfl) (by kernel_rfl) (by kernel_rfl) (fun _ _ _ h => h) (Or.inl ⟨by rfl, ?hy124⟩) (by assumption) ?rest124
                case hy124 => (intro w hSw; (try dsimp only at hSw); have C0 := hSw.cell C0 id; have C1 := hSw.cell C1 id; have C2 := hSw.cell C2 id; go_simp <;> with_reducible rfl)
                try simp only [Act.put, List.setIfInBounds_toArray, List.set_cons_zero, List.set_cons_succ]
                refine wpAnyH_take (i := 10) (oi := { dst := some 197, op := Go.Op.move (Go.Operand.tmp 13), type := 26, pos := "law.go:210", after := #[{ on := 9, ground := Go.Ground.guard }], guard := some (9, true) }) (v := undef) rfl (by kernel_rfl) (by kernel_rfl) (by kernel_rfl) (fun _ _ _ h => h) (Or.inr ⟨by rfl, rfl⟩) (by assumption) ?rest125
                try simp only [Act.put, List.setIfInBounds_toArray, List.set_cons_zero, List.set_cons_succ]
                refine wpAnyH_take (i := 11) (oi := { dst := some 198, op := Go.Op.move (Go.Operand.tmp 7), type := 45, pos := "law.go:210", after := #[{ on := 9, ground := Go.Ground.guard }], guard := some (9, true) }) (v := undef) rfl (by kernel_rfl) (by kernel_rfl) (by kernel_rfl) (fun _ _ _ h => h) (Or.inr ⟨by rfl, rfl⟩) (by assumption) ?rest126
                try simp only [Act.put, List.setIfInBounds_toArray, List.set_cons_zero, List.set_cons_succ]
                refine wpAnyH_take (i := 12) (oi := { dst := some 199, op := Go.Op.move (Go.Operand.tmp 12), type := 3, pos := "law.go:210", after := #[{ on := 9, ground := Go.Ground.guard }], guard := some (9, true) }) (v := undef) rfl (by kernel_rfl) (by kernel_rfl) (by kernel_rfl) (fun _ _ _ h => h) (Or.inr ⟨by rfl, rfl⟩) (by assumption) ?rest127
                try simp only [Act.put, List.setIfInBounds_toArray, List.set_cons_zero, List.set_cons_succ]
                refine wpAnyH_take (i := 13) (oi := { dst := some 200, op := Go.Op.indexAddr 45 (Go.Operand.tmp 198) (Go.Operand.tmp 199), type := 0, pos := "law.go:210", after := #[{ on := 11, ground := Go.Ground.data }, { on := 12, ground := Go.Ground.data }, { on := 9, ground := Go.Ground.guard }], guard := some (9, true) }) (v := undef) rfl (by kernel_rfl) (by kernel_rfl) (by kernel_rfl) (fun _ _ _ h => h) (Or.inr ⟨by rfl, rfl⟩) (by assumption) ?rest128
                try simp only [Act.put, List.setIfInBounds_toArray, List.set_cons_zero, List.set_cons_succ]
                refine wpAnyH_take (i := 14) (oi := { dst := some 201, op := Go.Op.fieldAddr 47 (Go.Operand.tmp 200) 1, type := 0, pos := "law.go:210", after := #[{ on := 13, ground := Go.Ground.data }, { on := 9, ground := Go.Ground.guard }], guard := some (9, true) }) (v := undef) rfl (by kernel_rfl) (by kernel_rfl) (by kernel_rfl) (fun _ _ _ h => h) (Or.inr ⟨by rfl, rfl⟩) (by assumption) ?rest129
                try simp only [Act.put, List.setIfInBounds_toArray, List.set_cons_zero, List.set_cons_succ]
                refine wpAnyH_take (i := 15) (oi := { dst := some 202, op := Go.Op.load 26 (Go.Operand.tmp 201), type := 26, pos := "law.go:210", after := #[{ on := 14, ground := Go.Ground.data }, { on := 9, ground := Go.Ground.guard }], guard := some (9, true) }) (v := undef) rfl (by kernel_rfl) (by kernel_rfl) (by kernel_rfl) (fun _ _ _ h => h) (Or.inr ⟨by rfl, rfl⟩) (by assumption) ?rest130
                try simp only [Act.put, List.setIfInBounds_toArray, List.set_cons_zero, List.set_cons_succ]
                refine wpAnyH_take (i := 16) (oi := { dst := some 203, op := Go.Op.binOp Go.BinOp.neq 26 (Go.Operand.tmp 197) (Go.Operand.tmp 202) 26, type := 4, pos := "law.go:210", after := #[{ on := 10, ground := Go.Ground.data }, { on := 15, ground := Go.Ground.data }, { on := 9, ground := Go.Ground.guard }], guard := some (9, true) }) (v := undef) rfl (by kernel_rfl) (by kernel_rfl) (by kernel_rfl) (fun _ _ _ h => h) (Or.inr ⟨by rfl, rfl⟩) (by assumption) ?rest131
                try simp only [Act.put, List.setIfInBounds_toArray, List.set_cons_zero, List.set_cons_succ]
                refine wpAnyH_take (i := 17) (oi := { dst := some 204, op := Go.Op.pick (Go.Operand.tmp 196) (Go.Operand.tmp 203) (Go.Operand.const (Go.Value.bool false)), type := 4, pos := "law.go:210", after := #[{ on := 9, ground := Go.Ground.data }, { on := 16, ground := Go.Ground.data }, { on := 2, ground := Go.Ground.guard }], guard := some (2, false) }) (v := ?v132) rfl (by kernel_rfl) (by kernel_rfl) (by kernel_rfl) (fun _ _ _ h => h) (Or.inl ⟨by rfl, ?hy132⟩) (by assumption) ?rest132
                case hy132 => (intro w hSw; (try dsimp only at hSw); have C0 := hSw.cell C0 id; have C1 := hSw.cell C1 id; have C2 := hSw.cell C2 id; go_simp <;> with_reducible rfl)
                try simp only [Act.put, List.setIfInBounds_toArray, List.set_cons_zero, List.set_cons_succ]
                refine wpAnyH_take (i := 18) (oi := { dst := some 205, op := Go.Op.pick (Go.Operand.tmp 189) (Go.Operand.const (Go.Value.bool true)) (Go.Operand.tmp 204), type := 4, pos := "law.go:210", after := #[{ on := 2, ground := Go.Ground.data }, { on := 17, ground := Go.Ground.data }], guard := none }) (v := ?v133) rfl (by kernel_rfl) (by kernel_rfl) (by kernel_rfl) (fun _ _ _ h => h) (Or.inl ⟨by rfl, ?hy133⟩) (by assumption) ?rest133
                case hy133 => (intro w hSw; (try dsimp only at hSw); have C0 := hSw.cell C0 id; have C1 := hSw.cell C1 id; have C2 := hSw.cell C2 id; go_simp <;> with_reducible rfl)
                try simp only [Act.put, List.setIfInBounds_toArray, List.set_cons_zero, List.set_cons_succ]
                refine wpAnyH_take (i := 19) (oi := { dst := some 206, op := Go.Op.move (Go.Operand.tmp 205), type := 4, pos := "law.go:210", after := #[{ on := 18, ground := Go.Ground.data }, { on := 9, ground := Go.Ground.chain }], guard := none }) (v := ?v134) rfl (by kernel_rfl) (by kernel_rfl) (by kernel_rfl) (fun _ _ _ h => h) (Or.inl ⟨by rfl, ?hy134⟩) (by assumption) ?rest134
                case hy134 => (intro w hSw; (try dsimp only at hSw); have C0 := hSw.cell C0 id; have C1 := hSw.cell C1 id; have C2 := hSw.cell C2 id; go_simp <;> with_reducible rfl)
                try simp only [Act.put, List.setIfInBounds_toArray, List.set_cons_zero, List.set_cons_succ]
                refine wpAnyH_take (i := 20) (oi := { dst := some 207, op := Go.Op.move (Go.Operand.tmp 7), type := 45, pos := "law.go:210", after := #[{ on := 19, ground := Go.Ground.guard }], guard := some (19, false) }) (v := ?v135) rfl (by kernel_rfl) (by kernel_rfl) (by kernel_rfl) (fun _ _ _ h => h) (Or.inl ⟨by rfl, ?hy135⟩) (by assumption) ?rest135
                case hy135 => (intro w hSw; (try dsimp only at hSw); have C0 := hSw.cell C0 id; have C1 := hSw.cell C1 id; have C2 := hSw.cell C2 id; go_simp <;> with_reducible rfl)
                try simp only [Act.put, List.setIfInBounds_toArray, List.set_cons_zero, List.set_cons_succ]
                refine wpAnyH_take (i := 21) (oi := { dst := some 208, op := Go.Op.move (Go.Operand.tmp 12), type := 3, pos := "law.go:210", after := #[{ on := 19, ground := Go.Ground.guard }], guard := some (19, false) }) (v := ?v136) rfl (by kernel_rfl) (by kernel_rfl) (by kernel_rfl) (fun _ _ _ h => h) (Or.inl ⟨by rfl, ?hy136⟩) (by assumption) ?rest136
                case hy136 => (intro w hSw; (try dsimp only at hSw); have C0 := hSw.cell C0 id; have C1 := hSw.cell C1 id; have C2 := hSw.cell C2 id; go_simp <;> with_reducible rfl)
                try simp only [Act.put, List.setIfInBounds_toArray, List.set_cons_zero, List.set_cons_succ]
                refine wpAnyH_take (i := 22) (oi := { dst := some 209, op := Go.Op.indexAddr 45 (Go.Operand.tmp 207) (Go.Operand.tmp 208), type := 0, pos := "law.go:210", after := #[{ on := 20, ground := Go.Ground.data }, { on := 21, ground := Go.Ground.data }, { on := 19, ground := Go.Ground.guard }], guard := some (19, false) }) (v := ?v137) rfl (by kernel_rfl) (by kernel_rfl) (by kernel_rfl) (fun _ _ _ h => h) (Or.inl ⟨by rfl, ?hy137⟩) (by assumption) ?rest137
                case hy137 => (intro w hSw; (try dsimp only at hSw); have C0 := hSw.cell C0 id; have C1 := hSw.cell C1 id; have C2 := hSw.cell C2 id; go_simp <;> with_reducible rfl)
                try simp only [Act.put, List.setIfInBounds_toArray, List.set_cons_zero, List.set_cons_succ]
                refine wpAnyH_take (i := 23) (oi := { dst := some 210, op := Go.Op.fieldAddr 47 (Go.Operand.tmp 209) 0, type := 0, pos := "law.go:210", after := #[{ on := 22, ground := Go.Ground.data }, { on := 19, ground := Go.Ground.guard }], guard := some (19, false) }) (v := ?v138) rfl (by kernel_rfl) (by kernel_rfl) (by kernel_rfl) (fun _ _ _ h => h) (Or.inl ⟨by rfl, ?hy138⟩) (by assumption) ?rest138
                case hy138 => (intro w hSw; (try dsimp only at hSw); have C0 := hSw.cell C0 id; have C1 := hSw.cell C1 id; have C2 := hSw.cell C2 id; go_simp <;> with_reducible rfl)
                try simp only [Act.put, List.setIfInBounds_toArray, List.set_cons_zero, List.set_cons_succ]
                refine wpAnyH_take (i := 24) (oi := { dst := some 211, op := Go.Op.load 3 (Go.Operand.tmp 210), type := 3, pos := "law.go:210", after := #[{ on := 23, ground := Go.Ground.data }, { on := 19, ground := Go.Ground.guard }], guard := some (19, false) }) (v := ?v139) rfl (by kernel_rfl) (by kernel_rfl) (by kernel_rfl) (fun _ _ _ h => h) (Or.inl ⟨by rfl, ?hy139⟩) (by assumption) ?rest139
                case hy139 => (intro w hSw; (try dsimp only at hSw); have C0 := hSw.cell C0 id; have C1 := hSw.cell C1 id; have C2 := hSw.cell C2 id; go_simp <;> with_reducible rfl)
                try simp only [Act.put, List.setIfInBounds_toArray, List.set_cons_zero, List.set_cons_succ]
                refine wpAnyH_take (i := 25) (oi := { dst := some 212, op := Go.Op.binOp Go.BinOp.eql 3 (Go.Operand.tmp 211) (Go.Operand.const (Go.Value.int Go.IntKind.i64 4)) 3, type := 4, pos := "law.go:210", after := #[{ on := 24, ground := Go.Ground.data }, { on := 19, ground := Go.Ground.guard }], guard := some (19, false) }) (v := ?v140) rfl (by kernel_rfl) (by kernel_rfl) (by kernel_rfl) (fun _ _ _ h => h) (Or.inl ⟨by rfl, ?hy140⟩) (by assumption) ?rest140
                case hy140 => (intro w hSw; (try dsimp only at hSw); have C0 := hSw.cell C0 id; have C1 := hSw.cell C1 id; have C2 := hSw.cell C2 id; go_simp <;> with_reducible rfl)
                try simp only [Act.put, List.setIfInBounds_toArray, List.set_cons_zero, List.set_cons_succ]
                refine wpAnyH_take (i := 26) (oi := { dst := some 213, op := Go.Op.move (Go.Operand.tmp 212), type := 4, pos := "law.go:210", after := #[{ on := 25, ground := Go.Ground.data }, { on := 19, ground := Go.Ground.chain }, { on := 19, ground := Go.Ground.guard }], guard := some (19, false) }) (v := ?v141) rfl (by kernel_rfl) (by kernel_rfl) (by kernel_rfl) (fun _ _ _ h => h) (Or.inl ⟨by rfl, ?hy141⟩) (by assumption) ?rest141
                case hy141 => (intro w hSw; (try dsimp only at hSw); have C0 := hSw.cell C0 id; have C1 := hSw.cell C1 id; have C2 := hSw.cell C2 id; go_simp <;> with_reducible rfl)
                try simp only [Act.put, List.setIfInBounds_toArray, List.set_cons_zero, List.set_cons_succ]
                refine wpAnyH_take (i := 27) (oi := { dst := some 214, op := Go.Op.move (Go.Operand.tmp 14), type := 23, pos := "law.go:210", after := #[{ on := 26, ground := Go.Ground.guard }], guard := some (26, true) }) (v := ?v142) rfl (by kernel_rfl) (by kernel_rfl) (by kernel_rfl) (fun _ _ _ h => h) (Or.inl ⟨by rfl, ?hy142⟩) (by assumption) ?rest142
                case hy142 => (intro w hSw; (try dsimp only at hSw); have C0 := hSw.cell C0 id; have C1 := hSw.cell C1 id; have C2 := hSw.cell C2 id; go_simp <;> with_reducible rfl)
                try simp only [Act.put, List.setIfInBounds_toArray, List.set_cons_zero, List.set_cons_succ]
                refine wpAnyH_take (i := 28) (oi := { dst := some 215, op := Go.Op.convert 23 9 (Go.Operand.tmp 214), type := 9, pos := "law.go:210", after := #[{ on := 27, ground := Go.Ground.data }, { on := 26, ground := Go.Ground.guard }], guard := some (26, true) }) (v := ?v143) rfl (by kernel_rfl) (by kernel_rfl) (by kernel_rfl) (fun _ _ _ h => h) (Or.inl ⟨by rfl, ?hy143⟩) (by assumption) ?rest143
                case hy143 => (intro w hSw; (try dsimp only at hSw); have C0 := hSw.cell C0 id; have C1 := hSw.cell C1 id; have C2 := hSw.cell C2 id; go_simp <;> with_reducible rfl)
                try simp only [Act.put, List.setIfInBounds_toArray, List.set_cons_zero, List.set_cons_succ]
                refine wpAnyH_take (i := 29) (oi := { dst := some 216, op := Go.Op.move (Go.Operand.tmp 7), type := 45, pos := "law.go:210", after := #[{ on := 26, ground := Go.Ground.guard }], guard := some (26, true) }) (v := ?v144) rfl (by kernel_rfl) (by kernel_rfl) (by kernel_rfl) (fun _ _ _ h => h) (Or.inl ⟨by rfl, ?hy144⟩) (by assumption) ?rest144
                case hy144 => (intro w hSw; (try dsimp only at hSw); have C0 := hSw.cell C0 id; have C1 := hSw.cell C1 id; have C2 := hSw.cell C2 id; go_simp <;> with_reducible rfl)
                try simp only [Act.put, List.setIfInBounds_toArray, List.set_cons_zero, List.set_cons_succ]
                refine wpAnyH_take (i := 30) (oi := { dst := some 217, op := Go.Op.move (Go.Operand.tmp 12), type := 3, pos := "law.go:210", after := #[{ on := 26, ground := Go.Ground.guard }], guard := some (26, true) }) (v := ?v145) rfl (by kernel_rfl) (by kernel_rfl) (by kernel_rfl) (fun _ _ _ h => h) (Or.inl ⟨by rfl, ?hy145⟩) (by assumption) ?rest145
                case hy145 => (intro w hSw; (try dsimp only at hSw); have C0 := hSw.cell C0 id; have C1 := hSw.cell C1 id; have C2 := hSw.cell C2 id; go_simp <;> with_reducible rfl)
                try simp only [Act.put, List.setIfInBounds_toArray, List.set_cons_zero, List.set_cons_succ]
                refine wpAnyH_take (i := 31) (oi := { dst := some 218, op := Go.Op.indexAddr 45 (Go.Operand.tmp 216) (Go.Operand.tmp 217), type := 0, pos := "law.go:210", after := #[{ on := 29, ground := Go.Ground.data }, { on := 30, ground := Go.Ground.data }, { on := 26, ground := Go.Ground.guard }], guard := some (26, true) }) (v := ?v146) rfl (by kernel_rfl) (by kernel_rfl) (by kernel_rfl) (fun _ _ _ h => h) (Or.inl ⟨by rfl, ?hy146⟩) (by assumption) ?rest146
                case hy146 => (intro w hSw; (try dsimp only at hSw); have C0 := hSw.cell C0 id; have C1 := hSw.cell C1 id; have C2 := hSw.cell C2 id; go_simp <;> with_reducible rfl)
                try simp only [Act.put, List.setIfInBounds_toArray, List.set_cons_zero, List.set_cons_succ]
                refine wpAnyH_take (i := 32) (oi := { dst := some 219, op := Go.Op.fieldAddr 47 (Go.Operand.tmp 218) 2, type := 0, pos := "law.go:210", after := #[{ on := 31, ground := Go.Ground.data }, { on := 26, ground := Go.Ground.guard }], guard := some (26, true) }) (v := ?v147) rfl (by kernel_rfl) (by kernel_rfl) (by kernel_rfl) (fun _ _ _ h => h) (Or.inl ⟨by rfl, ?hy147⟩) (by assumption) ?rest147
                case hy147 => (intro w hSw; (try dsimp only at hSw); have C0 := hSw.cell C0 id; have C1 := hSw.cell C1 id; have C2 := hSw.cell C2 id; go_simp <;> with_reducible rfl)
                try simp only [Act.put, List.setIfInBounds_toArray, List.set_cons_zero, List.set_cons_succ]
                refine wpAnyH_take (i := 33) (oi := { dst := some 220, op := Go.Op.load 23 (Go.Operand.tmp 219), type := 23, pos := "law.go:210", after := #[{ on := 32, ground := Go.Ground.data }, { on := 26, ground := Go.Ground.guard }], guard := some (26, true) }) (v := ?v148) rfl (by kernel_rfl) (by kernel_rfl) (by kernel_rfl) (fun _ _ _ h => h) (Or.inl ⟨by rfl, ?hy148⟩) (by assumption) ?rest148
                case hy148 => (intro w hSw; (try dsimp only at hSw); have C0 := hSw.cell C0 id; have C1 := hSw.cell C1 id; have C2 := hSw.cell C2 id; go_simp <;> with_reducible rfl)
                try simp only [Act.put, List.setIfInBounds_toArray, List.set_cons_zero, List.set_cons_succ]
                refine wpAnyH_take (i := 34) (oi := { dst := some 221, op := Go.Op.convert 23 9 (Go.Operand.tmp 220), type := 9, pos := "law.go:210", after := #[{ on := 33, ground := Go.Ground.data }, { on := 26, ground := Go.Ground.guard }], guard := some (26, true) }) (v := ?v149) rfl (by kernel_rfl) (by kernel_rfl) (by kernel_rfl) (fun _ _ _ h => h) (Or.inl ⟨by rfl, ?hy149⟩) (by assumption) ?rest149
                case hy149 => (intro w hSw; (try dsimp only at hSw); have C0 := hSw.cell C0 id; have C1 := hSw.cell C1 id; have C2 := hSw.cell C2 id; go_simp <;> with_reducible rfl)
                try simp only [Act.put, List.setIfInBounds_toArray, List.set_cons_zero, List.set_cons_succ]
                refine wpAnyH_take (i := 35) (oi := { dst := some 222, op := Go.Op.binOp Go.BinOp.neq 9 (Go.Operand.tmp 215) (Go.Operand.tmp 221) 9, type := 4, pos := "law.go:210", after := #[{ on := 28, ground := Go.Ground.data }, { on := 34, ground := Go.Ground.data }, { on := 26, ground := Go.Ground.guard }], guard := some (26, true) }) (v := ?v150) rfl (by kernel_rfl) (by kernel_rfl) (by kernel_rfl) (fun _ _ _ h => h) (Or.inl ⟨by rfl, ?hy150⟩) (by assumption) ?rest150
                case hy150 => (intro w hSw; (try dsimp only at hSw); have C0 := hSw.cell C0 id; have C1 := hSw.cell C1 id; have C2 := hSw.cell C2 id; go_simp <;> with_reducible rfl)
                try simp only [Act.put, List.setIfInBounds_toArray, List.set_cons_zero, List.set_cons_succ]
                refine wpAnyH_take (i := 36) (oi := { dst := some 223, op := Go.Op.pick (Go.Operand.tmp 213) (Go.Operand.tmp 222) (Go.Operand.const (Go.Value.bool false)), type := 4, pos := "law.go:210", after := #[{ on := 26, ground := Go.Ground.data }, { on := 35, ground := Go.Ground.data }, { on := 19, ground := Go.Ground.guard }], guard := some (19, false) }) (v := ?v151) rfl (by kernel_rfl) (by kernel_rfl) (by kernel_rfl) (fun _ _ _ h => h) (Or.inl ⟨by rfl, ?hy151⟩) (by assumption) ?rest151
                case hy151 => (intro w hSw; (try dsimp only at hSw); have C0 := hSw.cell C0 id; have C1 := hSw.cell C1 id; have C2 := hSw.cell C2 id; go_simp <;> with_reducible rfl)
                try simp only [Act.put, List.setIfInBounds_toArray, List.set_cons_zero, List.set_cons_succ]
                refine wpAnyH_take (i := 37) (oi := { dst := some 224, op := Go.Op.pick (Go.Operand.tmp 206) (Go.Operand.const (Go.Value.bool true)) (Go.Operand.tmp 223), type := 4, pos := "law.go:210", after := #[{ on := 19, ground := Go.Ground.data }, { on := 36, ground := Go.Ground.data }], guard := none }) (v := ?v152) rfl (by kernel_rfl) (by kernel_rfl) (by kernel_rfl) (fun _ _ _ h => h) (Or.inl ⟨by rfl, ?hy152⟩) (by assumption) ?rest152
                case hy152 => (intro w hSw; (try dsimp only at hSw); have C0 := hSw.cell C0 id; have C1 := hSw.cell C1 id; have C2 := hSw.cell C2 id; go_simp <;> with_reducible rfl)
                try simp only [Act.put, List.setIfInBounds_toArray, List.set_cons_zero, List.set_cons_succ]
                refine wpAnyH_done (by kernel_rfl) ?_ _
                go_wp2_with fail
                go_roundw
                case rel => exact ⟨j + 1, o', by omega, by go_num, trivial, Lib.hid (hr'.out.keep hS id (fun _ => id)), Lib.hid (hx'.out.trans (hS.mono (fun _ _ h => h.elim)))⟩
                case measure => simp [intOf]; omega
          · obtain rfl : j = its.length := by omega
            rw [rest_end] at hrd
            go_wp2_with fail
            refine (rdone_any rp g o [] wr hrd.out).mono ?_
            rintro e w9 ⟨hx9, hcase⟩
            obtain ⟨rfl, rfl⟩ : e = .returned .nilIface ∧ wr = w9 := by
              rcases hcase with ⟨_, h1, h2⟩ | ⟨h, _⟩
              · exact ⟨h1, h2⟩
              · exact absurd rfl h
            go_wp2_with fail
            refine (left_any rp g o [] wr hrd.out).mono ?_
            rintro e w' ⟨rfl, rfl⟩
            go_wp2_with fail
            go_ret
            exact ⟨rfl, HX6.out.andThen hxr.out (fun i hi e => by omega)⟩
end Go.Proofs.YtkgieciamophkaaDoor
