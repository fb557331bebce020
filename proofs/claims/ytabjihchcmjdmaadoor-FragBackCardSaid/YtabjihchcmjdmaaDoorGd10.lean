/-
  How parts are put together. By an AI agent.
-/
import Derived.Test.YtabjihchcmjdmaaDoorGc10
import Derived.Test.YtabjihchcmjdmaaDoorGp10
import Derived.Deep.DeepCutAuto
import Derived.Deep.CutBlock
/-
  slices.IndexFunc at packets; how parts are put together: the plain law. By an AI agent.
-/
namespace Go.Proofs.YtabjihchcmjdmaaDoor
open Go.RowKit Go.Shelf Go.Sort Go.Lib

/-- slices.IndexFunc at packets -/
theorem idx_any (k : Nat) (eg : ∀ args w, (callFunc k args).run Tryd.prog w = .ok (.enter k args) w) (f : Pk → Bool)
    (hf : ∀ (p : Pk) (A : Option Addr) (c : Nat) (w : World), Calls Tryd.prog k #[pkv p (.slice A p.b.length c)] w fun e w' => e = .returned (.bool (f p)) ∧ Ex (fun _ => False) w w')
    (g c n : Nat) (os : List Po) (hn : os.length = n) (h0 : 0 < n) (h9 : n ≤ 1000000) (w : World) (hrow : PRow w g os) :
    Calls Tryd.prog 39 #[.slice (some ⟨g, 0, none⟩) n c, .func (.func k) #[] #[]] w fun e w' =>
      ((∃ (i : Nat) (h : i < os.length), e = .returned (.int .i64 (i : Int)) ∧ f os[i].1 = true ∧ ∀ j (hj : j < os.length), j < i → f os[j].1 = false) ∨ (e = .returned (.int .i64 (-1)) ∧ ∀ o ∈ os, f o.1 = false)) ∧ Ex (fun _ => False) w w' := by
  subst hn
  have hp : PredBelow Tryd.prog k #[] (fun o : Po => .agg (ocl o).toArray) (fun o => f o.1) w := by
    intro W x hb
    refine (hf x.1 x.2.1 x.2.2 W).mono ?_
    rintro e w' ⟨rfl, hx⟩
    exact ⟨rfl, hb.trans (hx.below _ hb.size (fun _ _ h => h))⟩
  have hg := hrow.lt h0
  refine (AnyQ.slices_IndexFunc layIdx 10 pk_agg pk_sizeOf ocl ocl_len (fun o => f o.1) k #[] eg g 0 os.length c os w hp (Nat.le_refl _) (by omega) hg ?_).mono ?_
  · intro j hj i v hv
    rw [getElem!_pos os j hj] at hv
    have := hrow j hj i v hv
    rwa [Nat.zero_add]
  · rintro e w' ⟨rfl, hb⟩
    have hx : Ex (fun _ => False) w w' := (Ex.ofBelow hb).mono (fun k hk h => by omega)
    refine ⟨?_, hx⟩
    cases hc : os.findIdx? (fun o => f o.1) with
    | some i =>
      obtain ⟨hi, hfi, hmin⟩ := List.findIdx?_eq_some_iff_getElem.1 hc
      have hmin' : ∀ j (hj : j < os.length), j < i → f os[j].1 = false := fun j hj hji => by
        have := hmin j hji
        cases hq : f os[j].1
        · rfl
        · exact absurd hq this
      refine .inl ⟨i, hi, ?_, hfi, hmin'⟩
      have e1 := Lib.idxBy_hit (fun _ (y : Po) => f y.1) os os.length i default hi (Nat.le_refl _) (by show f os[i]!.1 = true; rw [getElem!_pos os i hi]; exact hfi) (fun j hj => by
        show f os[j]!.1 = false
        have hjl : j < os.length := by omega
        rw [getElem!_pos os j hjl]
        exact hmin' j hjl hj)
      rw [e1]
    | none =>
      have hno : ∀ o ∈ os, f o.1 = false := fun o ho => by
        have := List.findIdx?_eq_none_iff.1 hc o ho
        simpa using this
      refine .inr ⟨?_, hno⟩
      have e1 := Lib.idxBy_miss (fun _ (y : Po) => f y.1) os os.length default (fun j hj => by
        show f os[j]!.1 = false
        rw [getElem!_pos os j hj]
        exact hno _ (List.getElem_mem hj))
      rw [e1]
/-- one part more -/
def stp (x : Pk) (b : List UInt8) : Option (List UInt8) :=
  if (b.length : Int) < x.off then none else if (b.length : Int) < x.en then some (b ++ x.b.drop ((b.length : Int) - x.off).toNat) else some b
/-- parts, by place, one behind the other -/
def asm (l : List Pk) : Option (List UInt8) := l.foldl (fun o x => o.bind (stp x)) (some [])
theorem asm_snoc (l : List Pk) (x : Pk) : asm (l ++ [x]) = (asm l).bind (stp x) := by
  unfold asm; rw [List.foldl_append]; rfl
theorem asm_none (l : List Pk) (r : List Pk) (h : asm l = none) : asm (l ++ r) = none := by
  unfold asm at h ⊢
  rw [List.foldl_append, h]
  induction r with
  | nil => rfl
  | cons x r ih => exact ih
/-- the packet of a heap, L being its parts by place -/
def wholeQ (os L : List Po) : Option Pk :=
  match os.find? (fun o => o.1.off == 0), os.find? (fun o => !o.1.mf), asm (L.map Prod.fst) with
  | some f, some l, some b => if (b.length : Int) = l.1.en then some { f.1 with off := 0, mf := false, b := b } else none
  | _, _, _ => none
/-- r is the packet of a heap, in some order by place -/
def WH (os : List Po) (r : Option Pk) : Prop := ∃ L : List Po, L.Perm os ∧ L.Pairwise (fun x y => x.1.off ≤ y.1.off) ∧ wholeQ os L = r
theorem WH.of {os : List Po} {r : Option Pk} (h : ∀ L, wholeQ os L = r) : WH os r :=
  ⟨(srt os.toArray 0 os.length).toList, (srt_list os _ rfl).1, (srt_list os _ rfl).2, h _⟩
theorem find_at {os : List Po} {f : Po → Bool} {i : Nat} (hi : i < os.length) (h : f os[i] = true) (hn : ∀ j (hj : j < os.length), j < i → f os[j] = false) : os.find? f = some os[i] := by
  rw [List.find?_eq_some_iff_getElem]
  exact ⟨h, i, hi, rfl, fun j hj => by simp [hn j (by omega) hj]⟩
theorem find_none {os : List Po} {f : Po → Bool} (h : ∀ o ∈ os, f o = false) : os.find? f = none := by
  rw [List.find?_eq_none]
  intro o ho
  rw [h o ho]
  simp
end Go.Proofs.YtabjihchcmjdmaaDoor
/-
  The contract of (*frag.heap).whole: up to ninety parts. By an AI agent.
-/
namespace Go.Proofs.YtabjihchcmjdmaaDoor
open Go.RowKit

/-- what is asked of a heap's parts -/
structure Pts (w : World) (os : List Po) : Prop where
  off : ∀ o ∈ os, 0 ≤ o.1.off ∧ o.1.off ≤ 65535
  len : ∀ o ∈ os, o.1.b.length ≤ 65535
  rb : ∀ o ∈ os, RB w (fun _ => True) (.slice o.2.1 o.1.b.length o.2.2) o.1.b
theorem Pts.keep {w w' : World} {os : List Po} (h : Pts w os) (hx : Ex (fun _ => False) w w') : Pts w' os := ⟨h.off, h.len, fun o ho => (h.rb o ho).keep hx (fun _ _ _ => id)⟩
theorem hpr_size : (Tryd.prog.info? 27).map (·.size) = some 10 := by kernel_rfl
theorem wrap_wn {a : Int} {n : Nat} (h : 0 ≤ a ∧ a ≤ 65535) (hn : n ≤ 65535) : wrap64 (a + (n : Int)) = a + (n : Int) ∧ IntKind.i64.wrap (a + (n : Int)) = a + (n : Int) := by
  refine ⟨?_, ?_⟩
  · unfold wrap64; omega
  · rw [IntKind.wrap_i64]; omega
theorem wrap_wd {a : Int} {n i : Nat} (h : 0 ≤ a ∧ a ≤ 65535) (hn : n ≤ 20000000) (hi : ((n : Int) - a).toNat = i) (hle : a ≤ (n : Int)) : wrap64 ((n : Int) - a) = (i : Int) ∧ IntKind.i64.wrap ((n : Int) - a) = (i : Int) := by
  refine ⟨?_, ?_⟩
  · unfold wrap64; omega
  · rw [IntKind.wrap_i64]; omega
theorem wrap_w1 {k : Nat} (h : k ≤ 1000) : wrap64 ((k : Int) + 1) = (k : Int) + 1 ∧ IntKind.i64.wrap ((k : Int) + 1) = (k : Int) + 1 := by
  refine ⟨?_, ?_⟩
  · unfold wrap64; omega
  · rw [IntKind.wrap_i64]; omega
theorem bl_le {a b k : Nat} (h1 : a ≤ k * 65535) (h2 : b ≤ 65535) : a + b ≤ (k + 1) * 65535 := by
  rw [Nat.add_mul, Nat.one_mul]
  omega
/-- what whole hands back -/
def WholePost (os : List Po) (w : World) (e : Ending) (w' : World) : Prop :=
  ∃ q A' n' c' ok, e = .returned (.tuple #[pkv q (.slice A' n' c'), .bool ok]) ∧ Ex (fun _ => False) w w' ∧
    ((WH os none ∧ ok = false) ∨ (WH os (some q) ∧ ok = true ∧ n' = q.b.length ∧ OB w' w.heap.size (.slice A' n' c') q.b))
/-- what whole hands back when it is not all there: some packet -/
def nopk : Pk := ⟨0, 0, false, false, 0, 0, 0, 0, 0, []⟩
set_option maxRecDepth 100000 in
set_option maxHeartbeats 8000000 in
theorem whole_any (hb g cap n : Nat) (bg : Int) (os : List Po) (hn : os.length = n) (h1 : 0 < n) (h2 : n ≤ 200) (w : World) (hh : w.heap[hb]? = some (.cells #[.int .u64 bg, .slice (some ⟨g, 0, none⟩) n cap] 81)) (hrow : PRow w g os) (hpts : Pts w os) :
    Calls Tryd.prog 32 #[.pointer (some ⟨hb, 0, none⟩)] w (WholePost os w) := by
  have B_hb := Lib.hid hh
  have HROW := Lib.hid hrow
  have HPT := Lib.hid hpts
  have HN := Lib.hid hn
  have H12 := Lib.hid (show 0 < n ∧ n ≤ 200 from ⟨h1, h2⟩)
  have hgl := hrow.lt (by omega)
  have HGL := Lib.hid hgl
  have HHL := Lib.hid (row_lt hh)
  clear hh hrow hpts hn h1 h2 hgl
  go_enter Tryd.func32, Tryd.ntmps32
  go_upto_region 1 with fail
  have hx : Ex (fun _ => False) w (w.alloc (.cells #[.int .u8 0, .int .u16 0, .bool false, .bool false, .int .i64 0, .int .u8 0, .int .u8 0, .int .u32 0, .int .u32 0, .slice none 0 0] 27)) := (Ex.refl _ w).alloc _
  have hb : (w.alloc (.cells #[.int .u8 0, .int .u16 0, .bool false, .bool false, .int .i64 0, .int .u8 0, .int .u8 0, .int .u32 0, .int .u32 0, .slice none 0 0] 27)).heap[w.heap.size]? = some (.cells #[.int .u8 0, .int .u16 0, .bool false, .bool false, .int .i64 0, .int .u8 0, .int .u8 0, .int .u32 0, .int .u32 0, .slice none 0 0] 27) := heap_alloc_new w _
  obtain ⟨rb, hrb⟩ : ∃ rb, rb = w.heap.size := ⟨_, rfl⟩
  have hb_rb : w.heap.size ≤ rb := by omega
  rw [← hrb] at hb
  try simp only [← hrb]
  generalize w.alloc (.cells #[.int .u8 0, .int .u16 0, .bool false, .bool false, .int .i64 0, .int .u8 0, .int .u8 0, .int .u32 0, .int .u32 0, .slice none 0 0] 27) = w1 at hx hb ⊢
  clear hrb
  have HX_w1 := Lib.hid hx
  clear hx
  have B_rb := Lib.hid hb
  clear hb
  have HRBL := Lib.hid (row_lt B_rb.out)
  have ne_rb_hb : rb ≠ hb := by have := HHL.out; omega
  have chb1 := row_cell (k := 1) (v := .slice (some ⟨g, 0, none⟩) n cap) ((HX_w1.out.block hb (row_lt B_hb.out) id).trans B_hb.out) rfl
  go_wp2_with fail
  refine (idx_any 43 (enters_of Tryd.func43 (by kernel_rfl) rfl) (fun p => p.off == 0) isfirst_any g cap n os HN.out H12.out.1 (by have := H12.out; omega) w1 (HROW.out.kr (HX_w1.out.block g HGL.out id))).mono ?_
  rintro e w2 ⟨hc1, hx⟩
  have HC1 := Lib.hid hc1
  clear hc1 chb1
  have HX_w2 := Lib.hid hx
  clear hx
  obtain ⟨z1, rfl⟩ : ∃ z : Int, e = .returned (.int .i64 z) := by
    rcases HC1.out with ⟨i, _, h, _⟩ | ⟨h, _⟩
    · exact ⟨_, h⟩
    · exact ⟨_, h⟩
  have chb1 := row_cell (k := 1) (v := .slice (some ⟨g, 0, none⟩) n cap) (((HX_w1.out.trans HX_w2.out).block hb (row_lt B_hb.out) id).trans B_hb.out) rfl
  go_wp2_with fail
  refine (idx_any 44 (enters_of Tryd.func44 (by kernel_rfl) rfl) (fun p => !p.mf) islast_any g cap n os HN.out H12.out.1 (by have := H12.out; omega) w2 (HROW.out.kr ((HX_w1.out.trans HX_w2.out).block g HGL.out id))).mono ?_
  rintro e w3 ⟨hc2, hx⟩
  have HC2 := Lib.hid hc2
  clear hc2 chb1
  have HX_w3 := Lib.hid hx
  clear hx
  obtain ⟨z2, rfl⟩ : ∃ z : Int, e = .returned (.int .i64 z) := by
    rcases HC2.out with ⟨i, _, h, _⟩ | ⟨h, _⟩
    · exact ⟨_, h⟩
    · exact ⟨_, h⟩
  rcases HC1.out with ⟨f1, hf1, e1, hf2, hf3⟩ | ⟨e1, hf2⟩
  ·
    obtain rfl : z1 = (f1 : Int) := by injection e1 with e1; injection e1
    obtain ⟨fo, hfo⟩ : ∃ fo, os[f1] = fo := ⟨_, rfl⟩
    have HF := Lib.hid (show os.find? (fun o => o.1.off == 0) = some fo from (find_at hf1 hf2 hf3).trans (by rw [hfo]))
    have HFR := Lib.hid (show ∀ W, Kr g w W → ∀ k u, (ocl fo)[k]? = some u → W.cell? ⟨g, f1 * 10 + k, none⟩ = some u from fun W hk => by rw [← hfo]; exact (HROW.out.kr hk) f1 hf1)
    have HFM := Lib.hid (show fo ∈ os by rw [← hfo]; exact List.getElem_mem hf1)
    have HFI := Lib.hid (show f1 < n by have := HN.out; omega)
    clear hfo
    have hf1i : ¬ (f1 : Int) < 0 := by omega
    clear hf2 hf3 hf1 e1
    rcases HC2.out with ⟨l1, hl1, e2, hl2, hl3⟩ | ⟨e2, hl2⟩
    ·
      obtain rfl : z2 = (l1 : Int) := by injection e2 with e2; injection e2
      obtain ⟨lo, hlo⟩ : ∃ lo, os[l1] = lo := ⟨_, rfl⟩
      have HL := Lib.hid (show os.find? (fun o => !o.1.mf) = some lo from (find_at hl1 hl2 hl3).trans (by rw [hlo]))
      have HLR := Lib.hid (show ∀ W, Kr g w W → ∀ k u, (ocl lo)[k]? = some u → W.cell? ⟨g, l1 * 10 + k, none⟩ = some u from fun W hk => by rw [← hlo]; exact (HROW.out.kr hk) l1 hl1)
      have HLM := Lib.hid (show lo ∈ os by rw [← hlo]; exact List.getElem_mem hl1)
      have HLI := Lib.hid (show l1 < n by have := HN.out; omega)
      clear hlo
      have hl1i : ¬ (l1 : Int) < 0 := by omega
      clear hl2 hl3 hl1 e2 HC1 HC2
      have chb1 := row_cell (k := 1) (v := .slice (some ⟨g, 0, none⟩) n cap) ((((HX_w1.out.trans HX_w2.out).trans HX_w3.out).block hb (row_lt B_hb.out) id).trans B_hb.out) rfl
      go_wp2_with fail
      refine (values_any (some ⟨g, 0, none⟩) n cap w3).mono ?_
      rintro e w4 ⟨rfl, rfl⟩
      clear chb1
      have hx : Ex (fun _ => False) w3 (w3.alloc (.cells #[.slice (some ⟨g, 0, none⟩) n cap] 33)) := (Ex.refl _ w3).alloc _
      have hb : (w3.alloc (.cells #[.slice (some ⟨g, 0, none⟩) n cap] 33)).heap[w3.heap.size]? = some (.cells #[.slice (some ⟨g, 0, none⟩) n cap] 33) := heap_alloc_new w3 _
      obtain ⟨vb, hvb⟩ : ∃ vb, vb = w3.heap.size := ⟨_, rfl⟩
      have hb_vb : w3.heap.size ≤ vb := by omega
      rw [← hvb] at hb
      try simp only [← hvb]
      generalize w3.alloc (.cells #[.slice (some ⟨g, 0, none⟩) n cap] 33) = w4 at hx hb ⊢
      clear hvb
      have HX_w4 := Lib.hid hx
      clear hx
      have B_vb := Lib.hid hb
      clear hb
      go_wp2_with fail
      refine (sorted_any vb g cap n os HN.out H12.out.1 H12.out.2 w4 33 B_vb.out (HROW.out.kr ((((HX_w1.out.trans HX_w2.out).trans HX_w3.out).trans HX_w4.out).block g HGL.out id))).mono ?_
      rintro e w5 ⟨s, sc, ss, rfl, hsr, hperm, hss, hsg, hx⟩
      have HSS := Lib.hid hss
      have HPERM := Lib.hid hperm
      have hsl : ss.length = n := by rw [hperm.length_eq]; exact HN.out
      have HSL := Lib.hid hsl
      have HSR := Lib.hid hsr
      have hps : Pts w5 ss := by
        have h0 := (HPT.out.keep (((HX_w1.out.trans HX_w2.out).trans HX_w3.out).trans HX_w4.out)).keep hx
        exact ⟨fun o ho => h0.off o (hperm.mem_iff.1 ho), fun o ho => h0.len o (hperm.mem_iff.1 ho), fun o ho => h0.rb o (hperm.mem_iff.1 ho)⟩
      have HPS := Lib.hid hps
      have hsl5 := hsr.lt (by have := H12.out; omega)
      have HSL5 := Lib.hid hsl5
      clear hsr hss hperm hsl hps hsg hsl5
      have HX_w5 := Lib.hid hx
      clear hx
      go_wp2_with fail
      have hx0 := Lib.hid (Ex.refl (fun _ => False) w5)
      go_loopw [33, 6] (fun i b wr => ∃ (k : Nat) (Ab : Option Addr) (bl : List UInt8) (cb : Nat), i = .int .i64 (k : Int) ∧ b = .slice Ab bl.length cb ∧ k ≤ n ∧ Hid (bl.length ≤ k * 65535) ∧ Hid (asm ((ss.take k).map Prod.fst) = some bl) ∧ Hid (OB wr w5.heap.size (.slice Ab bl.length cb) bl) ∧ Hid (Ex (fun _ => False) w5 wr)) (fun i _ _ => n - (intOf i).toNat)
      case atStart => exact ⟨0, none, [], 0, rfl, rfl, Nat.zero_le _, Lib.hid (by simp), Lib.hid rfl, Lib.hid (OB.nil _ _), hx0⟩
      case round =>
        clear hx0
        obtain ⟨k, Ab, bl, cb, rfl, rfl, hkn, hbl, hasm, hob, hxr⟩ := hrel
        have hx := hxr.out
        clear hxr
        have HX_wr := Lib.hid hx
        clear hx
        by_cases dk : k < n
        ·
          have hkl : k < ss.length := by rw [HSL.out]; exact dk
          have hr := (HSR.out.kr (HX_wr.out.block s HSL5.out id)) k hkl
          obtain ⟨o, ho⟩ : ∃ o, ss[k] = o := ⟨_, rfl⟩
          have hom : o ∈ ss := by rw [← ho]; exact List.getElem_mem hkl
          have hpo := (HPS.out.keep HX_wr.out)
          have ho1 := hpo.off o hom
          have ho2 := hpo.len o hom
          have ho3 := hpo.rb o hom
          rw [ho] at hr
          have htk : (ss.take (k + 1)).map Prod.fst = (ss.take k).map Prod.fst ++ [o.1] := by rw [List.take_add_one, List.getElem?_eq_getElem hkl, ho, List.map_append]; rfl
          have HDR := Lib.hid (show ss.map Prod.fst = (ss.take k).map Prod.fst ++ (o.1 :: (ss.drop (k + 1)).map Prod.fst) by
            conv => lhs; rw [← List.take_append_drop k ss, List.drop_eq_getElem_cons hkl, ho]
            rw [List.map_append, List.map_cons])
          obtain ⟨⟨xtos, xid, xdf, xmf, xoff, xttl, xpr, xsrc, xdst, xb⟩, xA, xc⟩ := o
          simp only at ho1 ho2 ho3 htk
          have co0 : wr.cell? ⟨s, k * 10 + 0, none⟩ = some (.int .u8 xtos) := hr 0 _ rfl
          have co1 : wr.cell? ⟨s, k * 10 + 1, none⟩ = some (.int .u16 xid) := hr 1 _ rfl
          have co2 : wr.cell? ⟨s, k * 10 + 2, none⟩ = some (.bool xdf) := hr 2 _ rfl
          have co3 : wr.cell? ⟨s, k * 10 + 3, none⟩ = some (.bool xmf) := hr 3 _ rfl
          have co4 : wr.cell? ⟨s, k * 10 + 4, none⟩ = some (.int .i64 xoff) := hr 4 _ rfl
          have co5 : wr.cell? ⟨s, k * 10 + 5, none⟩ = some (.int .u8 xttl) := hr 5 _ rfl
          have co6 : wr.cell? ⟨s, k * 10 + 6, none⟩ = some (.int .u8 xpr) := hr 6 _ rfl
          have co7 : wr.cell? ⟨s, k * 10 + 7, none⟩ = some (.int .u32 xsrc) := hr 7 _ rfl
          have co8 : wr.cell? ⟨s, k * 10 + 8, none⟩ = some (.int .u32 xdst) := hr 8 _ rfl
          have co9 : wr.cell? ⟨s, k * 10 + 9, none⟩ = some (.slice xA xb.length xc) := hr 9 _ rfl
          try simp only [Nat.add_zero] at co0
          have hdi : (k : Int) < (n : Int) := by omega
          have HTK := Lib.hid htk
          have HO1 := Lib.hid ho1
          have HO2 := Lib.hid ho2
          have HO3 := Lib.hid ho3
          clear hr ho hom hpo htk ho1 ho2 ho3 hkl
          go_upto_region 9 with fail
          clear co0 co1 co2 co3 co4 co5 co6 co7 co8 co9
          have hx : Ex (fun _ => False) wr (wr.alloc (.cells #[.int .u8 xtos, .int .u16 xid, .bool xdf, .bool xmf, .int .i64 xoff, .int .u8 xttl, .int .u8 xpr, .int .u32 xsrc, .int .u32 xdst, .slice xA xb.length xc] 27)) := (Ex.refl _ wr).alloc _
          have hb : (wr.alloc (.cells #[.int .u8 xtos, .int .u16 xid, .bool xdf, .bool xmf, .int .i64 xoff, .int .u8 xttl, .int .u8 xpr, .int .u32 xsrc, .int .u32 xdst, .slice xA xb.length xc] 27)).heap[wr.heap.size]? = some (.cells #[.int .u8 xtos, .int .u16 xid, .bool xdf, .bool xmf, .int .i64 xoff, .int .u8 xttl, .int .u8 xpr, .int .u32 xsrc, .int .u32 xdst, .slice xA xb.length xc] 27) := heap_alloc_new wr _
          obtain ⟨xp, hxp⟩ : ∃ xp, xp = wr.heap.size := ⟨_, rfl⟩
          have hb_xp : wr.heap.size ≤ xp := by omega
          rw [← hxp] at hb
          try simp only [← hxp]
          generalize wr.alloc (.cells #[.int .u8 xtos, .int .u16 xid, .bool xdf, .bool xmf, .int .i64 xoff, .int .u8 xttl, .int .u8 xpr, .int .u32 xsrc, .int .u32 xdst, .slice xA xb.length xc] 27) = wx at hx hb ⊢
          clear hxp
          have HX_wx := Lib.hid hx
          clear hx
          have B_xp := Lib.hid hb
          clear hb
          have cxp0 := row_cell (k := 0) (v := .int .u8 xtos) B_xp.out rfl
          have cxp1 := row_cell (k := 1) (v := .int .u16 xid) B_xp.out rfl
          have cxp2 := row_cell (k := 2) (v := .bool xdf) B_xp.out rfl
          have cxp3 := row_cell (k := 3) (v := .bool xmf) B_xp.out rfl
          have cxp4 := row_cell (k := 4) (v := .int .i64 xoff) B_xp.out rfl
          have cxp5 := row_cell (k := 5) (v := .int .u8 xttl) B_xp.out rfl
          have cxp6 := row_cell (k := 6) (v := .int .u8 xpr) B_xp.out rfl
          have cxp7 := row_cell (k := 7) (v := .int .u32 xsrc) B_xp.out rfl
          have cxp8 := row_cell (k := 8) (v := .int .u32 xdst) B_xp.out rfl
          have cxp9 := row_cell (k := 9) (v := .slice xA xb.length xc) B_xp.out rfl
          by_cases dgap : (bl.length : Int) < xoff
          ·
            replace B_rb := Lib.hid (((((((HX_w2.out.trans HX_w3.out).trans HX_w4.out).trans HX_w5.out).trans HX_wr.out).trans HX_wx.out).block rb (row_lt B_rb.out) id).trans B_rb.out)
            have hgap : asm (ss.map Prod.fst) = none := by
              rw [HDR.out]
              have h0 : asm ((ss.take k).map Prod.fst ++ [(⟨xtos, xid, xdf, xmf, xoff, xttl, xpr, xsrc, xdst, xb⟩ : Pk)]) = none := by
                rw [asm_snoc, hasm.out]
                show stp _ bl = none
                unfold stp
                rw [if_pos (show (bl.length : Int) < xoff from dgap)]
              have h1 := asm_none _ ((ss.drop (k + 1)).map Prod.fst) h0
              rwa [List.append_assoc] at h1
            have HGAP := Lib.hid hgap
            clear hgap
            clear cxp0 cxp1 cxp2 cxp3 cxp5 cxp6 cxp7 cxp8 cxp9
            have crb0 := row_cell (k := 0) (v := .int .u8 0) B_rb.out rfl
            have crb1 := row_cell (k := 1) (v := .int .u16 0) B_rb.out rfl
            have crb2 := row_cell (k := 2) (v := .bool false) B_rb.out rfl
            have crb3 := row_cell (k := 3) (v := .bool false) B_rb.out rfl
            have crb4 := row_cell (k := 4) (v := .int .i64 0) B_rb.out rfl
            have crb5 := row_cell (k := 5) (v := .int .u8 0) B_rb.out rfl
            have crb6 := row_cell (k := 6) (v := .int .u8 0) B_rb.out rfl
            have crb7 := row_cell (k := 7) (v := .int .u32 0) B_rb.out rfl
            have crb8 := row_cell (k := 8) (v := .int .u32 0) B_rb.out rfl
            have crb9 := row_cell (k := 9) (v := .slice none 0 0) B_rb.out rfl
            have frb0 := row_frozen B_rb.out 0
            have frb1 := row_frozen B_rb.out 1
            have frb2 := row_frozen B_rb.out 2
            have frb3 := row_frozen B_rb.out 3
            have frb4 := row_frozen B_rb.out 4
            have frb5 := row_frozen B_rb.out 5
            have frb6 := row_frozen B_rb.out 6
            have frb7 := row_frozen B_rb.out 7
            have frb8 := row_frozen B_rb.out 8
            have frb9 := row_frozen B_rb.out 9
            go_wp2_with fail
            (try simp only [Exit.inBlock, Exit.then])
            have r0 : (wx.setCell ⟨rb, 0, none⟩ (.int .u8 0)).heap[rb]? = some (.cells #[.int .u8 0, .int .u16 0, .bool false, .bool false, .int .i64 0, .int .u8 0, .int .u8 0, .int .u32 0, .int .u32 0, .slice none 0 0] 27) := row_set B_rb.out 0 (.int .u8 0)
            have r1 : ((wx.setCell ⟨rb, 0, none⟩ (.int .u8 0)).setCell ⟨rb, 1, none⟩ (.int .u16 0)).heap[rb]? = some (.cells #[.int .u8 0, .int .u16 0, .bool false, .bool false, .int .i64 0, .int .u8 0, .int .u8 0, .int .u32 0, .int .u32 0, .slice none 0 0] 27) := row_set r0 1 (.int .u16 0)
            clear r0
            have r2 : (((wx.setCell ⟨rb, 0, none⟩ (.int .u8 0)).setCell ⟨rb, 1, none⟩ (.int .u16 0)).setCell ⟨rb, 2, none⟩ (.bool false)).heap[rb]? = some (.cells #[.int .u8 0, .int .u16 0, .bool false, .bool false, .int .i64 0, .int .u8 0, .int .u8 0, .int .u32 0, .int .u32 0, .slice none 0 0] 27) := row_set r1 2 (.bool false)
            clear r1
            have r3 : ((((wx.setCell ⟨rb, 0, none⟩ (.int .u8 0)).setCell ⟨rb, 1, none⟩ (.int .u16 0)).setCell ⟨rb, 2, none⟩ (.bool false)).setCell ⟨rb, 3, none⟩ (.bool false)).heap[rb]? = some (.cells #[.int .u8 0, .int .u16 0, .bool false, .bool false, .int .i64 0, .int .u8 0, .int .u8 0, .int .u32 0, .int .u32 0, .slice none 0 0] 27) := row_set r2 3 (.bool false)
            clear r2
            have r4 : (((((wx.setCell ⟨rb, 0, none⟩ (.int .u8 0)).setCell ⟨rb, 1, none⟩ (.int .u16 0)).setCell ⟨rb, 2, none⟩ (.bool false)).setCell ⟨rb, 3, none⟩ (.bool false)).setCell ⟨rb, 4, none⟩ (.int .i64 0)).heap[rb]? = some (.cells #[.int .u8 0, .int .u16 0, .bool false, .bool false, .int .i64 0, .int .u8 0, .int .u8 0, .int .u32 0, .int .u32 0, .slice none 0 0] 27) := row_set r3 4 (.int .i64 0)
            clear r3
            have r5 : ((((((wx.setCell ⟨rb, 0, none⟩ (.int .u8 0)).setCell ⟨rb, 1, none⟩ (.int .u16 0)).setCell ⟨rb, 2, none⟩ (.bool false)).setCell ⟨rb, 3, none⟩ (.bool false)).setCell ⟨rb, 4, none⟩ (.int .i64 0)).setCell ⟨rb, 5, none⟩ (.int .u8 0)).heap[rb]? = some (.cells #[.int .u8 0, .int .u16 0, .bool false, .bool false, .int .i64 0, .int .u8 0, .int .u8 0, .int .u32 0, .int .u32 0, .slice none 0 0] 27) := row_set r4 5 (.int .u8 0)
            clear r4
            have r6 : (((((((wx.setCell ⟨rb, 0, none⟩ (.int .u8 0)).setCell ⟨rb, 1, none⟩ (.int .u16 0)).setCell ⟨rb, 2, none⟩ (.bool false)).setCell ⟨rb, 3, none⟩ (.bool false)).setCell ⟨rb, 4, none⟩ (.int .i64 0)).setCell ⟨rb, 5, none⟩ (.int .u8 0)).setCell ⟨rb, 6, none⟩ (.int .u8 0)).heap[rb]? = some (.cells #[.int .u8 0, .int .u16 0, .bool false, .bool false, .int .i64 0, .int .u8 0, .int .u8 0, .int .u32 0, .int .u32 0, .slice none 0 0] 27) := row_set r5 6 (.int .u8 0)
            clear r5
            have r7 : ((((((((wx.setCell ⟨rb, 0, none⟩ (.int .u8 0)).setCell ⟨rb, 1, none⟩ (.int .u16 0)).setCell ⟨rb, 2, none⟩ (.bool false)).setCell ⟨rb, 3, none⟩ (.bool false)).setCell ⟨rb, 4, none⟩ (.int .i64 0)).setCell ⟨rb, 5, none⟩ (.int .u8 0)).setCell ⟨rb, 6, none⟩ (.int .u8 0)).setCell ⟨rb, 7, none⟩ (.int .u32 0)).heap[rb]? = some (.cells #[.int .u8 0, .int .u16 0, .bool false, .bool false, .int .i64 0, .int .u8 0, .int .u8 0, .int .u32 0, .int .u32 0, .slice none 0 0] 27) := row_set r6 7 (.int .u32 0)
            clear r6
            have r8 : (((((((((wx.setCell ⟨rb, 0, none⟩ (.int .u8 0)).setCell ⟨rb, 1, none⟩ (.int .u16 0)).setCell ⟨rb, 2, none⟩ (.bool false)).setCell ⟨rb, 3, none⟩ (.bool false)).setCell ⟨rb, 4, none⟩ (.int .i64 0)).setCell ⟨rb, 5, none⟩ (.int .u8 0)).setCell ⟨rb, 6, none⟩ (.int .u8 0)).setCell ⟨rb, 7, none⟩ (.int .u32 0)).setCell ⟨rb, 8, none⟩ (.int .u32 0)).heap[rb]? = some (.cells #[.int .u8 0, .int .u16 0, .bool false, .bool false, .int .i64 0, .int .u8 0, .int .u8 0, .int .u32 0, .int .u32 0, .slice none 0 0] 27) := row_set r7 8 (.int .u32 0)
            clear r7
            have r9 : ((((((((((wx.setCell ⟨rb, 0, none⟩ (.int .u8 0)).setCell ⟨rb, 1, none⟩ (.int .u16 0)).setCell ⟨rb, 2, none⟩ (.bool false)).setCell ⟨rb, 3, none⟩ (.bool false)).setCell ⟨rb, 4, none⟩ (.int .i64 0)).setCell ⟨rb, 5, none⟩ (.int .u8 0)).setCell ⟨rb, 6, none⟩ (.int .u8 0)).setCell ⟨rb, 7, none⟩ (.int .u32 0)).setCell ⟨rb, 8, none⟩ (.int .u32 0)).setCell ⟨rb, 9, none⟩ (.slice none 0 0)).heap[rb]? = some (.cells #[.int .u8 0, .int .u16 0, .bool false, .bool false, .int .i64 0, .int .u8 0, .int .u8 0, .int .u32 0, .int .u32 0, .slice none 0 0] 27) := row_set r8 9 (.slice none 0 0)
            clear r8
            have hx : Ex (fun j => j = rb) wx ((((((((((wx.setCell ⟨rb, 0, none⟩ (.int .u8 0)).setCell ⟨rb, 1, none⟩ (.int .u16 0)).setCell ⟨rb, 2, none⟩ (.bool false)).setCell ⟨rb, 3, none⟩ (.bool false)).setCell ⟨rb, 4, none⟩ (.int .i64 0)).setCell ⟨rb, 5, none⟩ (.int .u8 0)).setCell ⟨rb, 6, none⟩ (.int .u8 0)).setCell ⟨rb, 7, none⟩ (.int .u32 0)).setCell ⟨rb, 8, none⟩ (.int .u32 0)).setCell ⟨rb, 9, none⟩ (.slice none 0 0)) := (((((((((((Ex.refl (fun j => j = rb) wx).setCell (p := ⟨rb, 0, none⟩) (.inl rfl) (.int .u8 0)).setCell (p := ⟨rb, 1, none⟩) (.inl rfl) (.int .u16 0)).setCell (p := ⟨rb, 2, none⟩) (.inl rfl) (.bool false)).setCell (p := ⟨rb, 3, none⟩) (.inl rfl) (.bool false)).setCell (p := ⟨rb, 4, none⟩) (.inl rfl) (.int .i64 0)).setCell (p := ⟨rb, 5, none⟩) (.inl rfl) (.int .u8 0)).setCell (p := ⟨rb, 6, none⟩) (.inl rfl) (.int .u8 0)).setCell (p := ⟨rb, 7, none⟩) (.inl rfl) (.int .u32 0)).setCell (p := ⟨rb, 8, none⟩) (.inl rfl) (.int .u32 0)).setCell (p := ⟨rb, 9, none⟩) (.inl rfl) (.slice none 0 0))
            clear crb0 crb1 crb2 crb3 crb4 crb5 crb6 crb7 crb8 crb9 frb0 frb1 frb2 frb3 frb4 frb5 frb6 frb7 frb8 frb9
            generalize ((((((((((wx.setCell ⟨rb, 0, none⟩ (.int .u8 0)).setCell ⟨rb, 1, none⟩ (.int .u16 0)).setCell ⟨rb, 2, none⟩ (.bool false)).setCell ⟨rb, 3, none⟩ (.bool false)).setCell ⟨rb, 4, none⟩ (.int .i64 0)).setCell ⟨rb, 5, none⟩ (.int .u8 0)).setCell ⟨rb, 6, none⟩ (.int .u8 0)).setCell ⟨rb, 7, none⟩ (.int .u32 0)).setCell ⟨rb, 8, none⟩ (.int .u32 0)).setCell ⟨rb, 9, none⟩ (.slice none 0 0)) = wz at r9 hx ⊢
            replace B_rb := Lib.hid r9
            clear r9
            have HX_wz := Lib.hid hx
            clear hx
            refine bodyPost_ret (v := .tuple #[.agg #[.int .u8 0, .int .u16 0, .bool false, .bool false, .int .i64 0, .int .u8 0, .int .u8 0, .int .u32 0, .int .u32 0, .slice none 0 0], .bool false]) ?_ rfl ⟨nopk, none, 0, 0, false, rfl, (((((((HX_w1.out.trans HX_w2.out).trans HX_w3.out).trans HX_w4.out).trans HX_w5.out).trans HX_wr.out).trans HX_wx.out).andThen HX_wz.out (fun i hi e => by have := hb_rb; omega)), .inl ⟨⟨ss, HPERM.out, HSS.out, by unfold wholeQ; rw [HF.out, HL.out, HGAP.out]⟩, rfl⟩⟩
            exact results_cell_row2 (p := 2) (u := 3) rfl _ _ rb 27 #[.int .u8 0, .int .u16 0, .bool false, .bool false, .int .i64 0, .int .u8 0, .int .u8 0, .int .u32 0, .int .u32 0, .slice none 0 0] (0, 0) _ _ rfl rfl B_rb.out Tryd.underlying27 rfl hpr_size
          ·
            have hen := fun w => end_any (⟨xtos, xid, xdf, xmf, xoff, xttl, xpr, xsrc, xdst, xb⟩ : Pk) xA xc w (by have := HO1.out; show -1000000 ≤ xoff ∧ xoff ≤ 1000000; omega) (by have := HO2.out; show xb.length ≤ _; omega)
            obtain ⟨X, hX⟩ : ∃ X, ((⟨xtos, xid, xdf, xmf, xoff, xttl, xpr, xsrc, xdst, xb⟩ : Pk)).en = X := ⟨_, rfl⟩
            rw [hX] at hen
            have HEN := Lib.hid hen
            have HX9 := Lib.hid hX
            clear hen hX
            go_wp2_with fail
            refine (HEN.out wx).mono ?_
            rintro e wy ⟨rfl, hx⟩
            clear cxp0 cxp1 cxp2 cxp3 cxp4 cxp5 cxp6 cxp7 cxp8 cxp9
            have HX_wy := Lib.hid hx
            clear hx
            by_cases dend : (bl.length : Int) < X
            ·
              replace B_xp := Lib.hid ((HX_wy.out.block xp (row_lt B_xp.out) id).trans B_xp.out)
              replace hob := Lib.hid (OB.keep hob.out (HX_wx.out.trans HX_wy.out) (fun _ _ _ _ => id))
              replace HO3 := Lib.hid (RB.keep HO3.out (HX_wx.out.trans HX_wy.out) (fun _ _ _ => id))
              have cxp4 := row_cell (k := 4) (v := .int .i64 xoff) B_xp.out rfl
              have cxp9 := row_cell (k := 9) (v := .slice xA xb.length xc) B_xp.out rfl
              obtain ⟨i, hi⟩ : ∃ i, ((bl.length : Int) - xoff).toNat = i := ⟨_, rfl⟩
              have hbb : bl.length ≤ 20000000 := by
                have h1 := hbl.out
                have h2 := H12.out
                have h3 : k * 65535 ≤ 200 * 65535 := Nat.mul_le_mul_right _ (by omega)
                omega
              have hxX : X = xoff + (xb.length : Int) := HX9.out.symm
              have hil : i < xb.length := by have := HO1.out; omega
              obtain ⟨ww1, ww2⟩ := wrap_wd HO1.out hbb hi (by omega)
              obtain ⟨b3, o3, rfl⟩ : ∃ b off, xA = some ⟨b, off, none⟩ := by
                obtain ⟨_, A', c', e, _, hcell⟩ := HO3.out
                obtain ⟨b, off, e2, _⟩ := hcell 0 (by omega)
                injection e with e1
                exact ⟨b, off, e1.trans e2⟩
              have hxc : xb.length ≤ xc := by obtain ⟨_, _, _, e, h, _⟩ := HO3.out; injection e with _ _ e3; rw [e3]; exact h
              have hrs := HO3.out.slice i xb.length (by omega) (Nat.le_refl _)
              rw [List.take_length] at hrs
              have hrl : xb.length - i = (xb.drop i).length := by rw [List.length_drop]
              rw [hrl] at hrs
              obtain ⟨xd, hxd⟩ : ∃ xd, xb.drop i = xd := ⟨_, rfl⟩
              rw [hxd] at hrs hrl
              have hxdl : xd.length ≤ 65535 := by have := HO2.out; omega
              have HRS := Lib.hid hrs
              have HXD := Lib.hid hxd
              have HI := Lib.hid hi
              have HBB := Lib.hid hbb
              have HXDL := Lib.hid hxdl
              have HHX := Lib.hid hxX
              have ii1 : (i : Int) ≤ (xb.length : Int) := by omega
              have ii2 : (xb.length : Int) ≤ (xc : Int) := by omega
              have ii3 : ¬ xc = i := by omega
              obtain ⟨i0, hi0, hz0, hz1, hz2⟩ := info_parts Tryd.info5
              have hwy : w5.heap.size ≤ wy.heap.size := ((HX_wr.out.trans HX_wx.out).trans HX_wy.out).size
              have HWY := Lib.hid hwy
              clear hrs hxd hi hbb hxdl hil hxX hxc hwy
              obtain ⟨g7, g8⟩ := wrap_w1 (k := k) (by have := H12.out; omega)
              go_wp2_with (at_builtin; refine wpList_append_ob i0 25 Tryd.underlying25 hi0 hz0 hz1 hz2 rfl (.tmp 48) (.tmp 56) rfl w5.heap.size (.slice Ab bl.length cb) bl rfl (fun _ => True) (.slice (some ⟨b3, o3 + i, none⟩) xd.length (xc - i)) xd rfl hob.out HRS.out (by have h1 := HBB.out; have h2 := HXDL.out; omega) HWY.out ?_; intro A7 c7 w7 ho7 hg7 hn7 hb7; have HO7 := Lib.hid ho7; have HG7 := Lib.hid hg7; clear ho7 hg7 hn7 hb7)
              go_roundw
              case rel =>
                have hlob := hob.out.lt
                have hx7 : Ex (fun _ => False) w5 w7 := (((HX_wr.out.trans HX_wx.out).trans HX_wy.out)).grown HG7.out (fun j hj => .inr (hlob j hj).1)
                refine ⟨k + 1, A7, bl ++ xd, c7, by simp, by rw [List.length_append], dk, Lib.hid ?_, Lib.hid ?_, Lib.hid ?_, Lib.hid hx7⟩
                · rw [List.length_append]
                  exact bl_le hbl.out HXDL.out
                · rw [HTK.out, asm_snoc, hasm.out]
                  show stp _ bl = _
                  unfold stp
                  rw [if_neg (Int.not_lt.2 dgap : ¬ (bl.length : Int) < xoff), if_pos (show (bl.length : Int) < ((⟨xtos, xid, xdf, xmf, xoff, xttl, xpr, xsrc, xdst, xb⟩ : Pk)).en by rw [HX9.out]; exact dend)]
                  show some (bl ++ xb.drop ((bl.length : Int) - xoff).toNat) = _
                  rw [HI.out, HXD.out]
                · have h1 := HO7.out
                  rw [← List.length_append] at h1
                  exact h1
              case measure => exact meas_one dk
            ·
              replace hob := Lib.hid (OB.keep hob.out (HX_wx.out.trans HX_wy.out) (fun _ _ _ _ => id))
              obtain ⟨g7, g8⟩ := wrap_w1 (k := k) (by have := H12.out; omega)
              go_wp2_with fail
              go_roundw
              case rel =>
                refine ⟨k + 1, Ab, bl, cb, by simp, rfl, dk, Lib.hid ?_, Lib.hid ?_, hob, Lib.hid ((HX_wr.out.trans HX_wx.out).trans HX_wy.out)⟩
                · exact bl_le (b := 0) hbl.out (Nat.zero_le _)
                · rw [HTK.out, asm_snoc, hasm.out]
                  show stp _ bl = _
                  unfold stp
                  rw [if_neg (Int.not_lt.2 dgap : ¬ (bl.length : Int) < xoff), if_neg (show ¬ (bl.length : Int) < ((⟨xtos, xid, xdf, xmf, xoff, xttl, xpr, xsrc, xdst, xb⟩ : Pk)).en by rw [HX9.out]; exact Int.not_lt.2 dend)]
              case measure => exact meas_one dk
        ·
          obtain rfl : n = k := by omega
          have hasm2 : asm (ss.map Prod.fst) = some bl := by
            have h := hasm.out
            rwa [List.take_of_length_le (by rw [HSL.out]; exact Nat.le_refl _)] at h
          have HASM := Lib.hid hasm2
          clear hasm hasm2 dk
          obtain ⟨⟨ftos, fid, fdf, fmf, foff, fttl, fpr, fsrc, fdst, fb⟩, fA, fc⟩ := fo
          obtain ⟨⟨ltos, lid, ldf, lmf, loff, lttl, lpr, lsrc, ldst, lb⟩, lA, lc⟩ := lo
          have hkr : Kr g w wr := (((((HX_w1.out.trans HX_w2.out).trans HX_w3.out).trans HX_w4.out).trans HX_w5.out).trans HX_wr.out).block g HGL.out id
          have hfr := HFR.out wr hkr
          have hrb5 : rb < w5.heap.size := by have h1 := HRBL.out; have h2 := (((HX_w2.out.trans HX_w3.out).trans HX_w4.out).trans HX_w5.out).size; omega
          have hflo : (f1 : Int) < (n : Int) := by have := HFI.out; omega
          replace B_hb := Lib.hid (((((((HX_w1.out.trans HX_w2.out).trans HX_w3.out).trans HX_w4.out).trans HX_w5.out).trans HX_wr.out).block hb (row_lt B_hb.out) id).trans B_hb.out)
          replace B_rb := Lib.hid ((((((HX_w2.out.trans HX_w3.out).trans HX_w4.out).trans HX_w5.out).trans HX_wr.out).block rb (row_lt B_rb.out) id).trans B_rb.out)
          have cf0 : wr.cell? ⟨g, f1 * 10 + 0, none⟩ = some (.int .u8 ftos) := hfr 0 _ rfl
          have cf1 : wr.cell? ⟨g, f1 * 10 + 1, none⟩ = some (.int .u16 fid) := hfr 1 _ rfl
          have cf2 : wr.cell? ⟨g, f1 * 10 + 2, none⟩ = some (.bool fdf) := hfr 2 _ rfl
          have cf3 : wr.cell? ⟨g, f1 * 10 + 3, none⟩ = some (.bool fmf) := hfr 3 _ rfl
          have cf4 : wr.cell? ⟨g, f1 * 10 + 4, none⟩ = some (.int .i64 foff) := hfr 4 _ rfl
          have cf5 : wr.cell? ⟨g, f1 * 10 + 5, none⟩ = some (.int .u8 fttl) := hfr 5 _ rfl
          have cf6 : wr.cell? ⟨g, f1 * 10 + 6, none⟩ = some (.int .u8 fpr) := hfr 6 _ rfl
          have cf7 : wr.cell? ⟨g, f1 * 10 + 7, none⟩ = some (.int .u32 fsrc) := hfr 7 _ rfl
          have cf8 : wr.cell? ⟨g, f1 * 10 + 8, none⟩ = some (.int .u32 fdst) := hfr 8 _ rfl
          have cf9 : wr.cell? ⟨g, f1 * 10 + 9, none⟩ = some (.slice fA fb.length fc) := hfr 9 _ rfl
          try simp only [Nat.add_zero] at cf0
          clear hfr
          have chb1 := row_cell (k := 1) (v := .slice (some ⟨g, 0, none⟩) n cap) B_hb.out rfl
          have crb0 := row_cell (k := 0) (v := .int .u8 0) B_rb.out rfl
          have crb1 := row_cell (k := 1) (v := .int .u16 0) B_rb.out rfl
          have crb2 := row_cell (k := 2) (v := .bool false) B_rb.out rfl
          have crb3 := row_cell (k := 3) (v := .bool false) B_rb.out rfl
          have crb4 := row_cell (k := 4) (v := .int .i64 0) B_rb.out rfl
          have crb5 := row_cell (k := 5) (v := .int .u8 0) B_rb.out rfl
          have crb6 := row_cell (k := 6) (v := .int .u8 0) B_rb.out rfl
          have crb7 := row_cell (k := 7) (v := .int .u32 0) B_rb.out rfl
          have crb8 := row_cell (k := 8) (v := .int .u32 0) B_rb.out rfl
          have crb9 := row_cell (k := 9) (v := .slice none 0 0) B_rb.out rfl
          have frb0 := row_frozen B_rb.out 0
          have frb1 := row_frozen B_rb.out 1
          have frb2 := row_frozen B_rb.out 2
          have frb3 := row_frozen B_rb.out 3
          have frb4 := row_frozen B_rb.out 4
          have frb5 := row_frozen B_rb.out 5
          have frb6 := row_frozen B_rb.out 6
          have frb7 := row_frozen B_rb.out 7
          have frb8 := row_frozen B_rb.out 8
          have frb9 := row_frozen B_rb.out 9
          go_upto_region 15 with fail
          have r0 : (wr.setCell ⟨rb, 0, none⟩ (.int .u8 ftos)).heap[rb]? = some (.cells #[.int .u8 ftos, .int .u16 0, .bool false, .bool false, .int .i64 0, .int .u8 0, .int .u8 0, .int .u32 0, .int .u32 0, .slice none 0 0] 27) := row_set B_rb.out 0 (.int .u8 ftos)
          have r1 : ((wr.setCell ⟨rb, 0, none⟩ (.int .u8 ftos)).setCell ⟨rb, 1, none⟩ (.int .u16 fid)).heap[rb]? = some (.cells #[.int .u8 ftos, .int .u16 fid, .bool false, .bool false, .int .i64 0, .int .u8 0, .int .u8 0, .int .u32 0, .int .u32 0, .slice none 0 0] 27) := row_set r0 1 (.int .u16 fid)
          clear r0
          have r2 : (((wr.setCell ⟨rb, 0, none⟩ (.int .u8 ftos)).setCell ⟨rb, 1, none⟩ (.int .u16 fid)).setCell ⟨rb, 2, none⟩ (.bool fdf)).heap[rb]? = some (.cells #[.int .u8 ftos, .int .u16 fid, .bool fdf, .bool false, .int .i64 0, .int .u8 0, .int .u8 0, .int .u32 0, .int .u32 0, .slice none 0 0] 27) := row_set r1 2 (.bool fdf)
          clear r1
          have r3 : ((((wr.setCell ⟨rb, 0, none⟩ (.int .u8 ftos)).setCell ⟨rb, 1, none⟩ (.int .u16 fid)).setCell ⟨rb, 2, none⟩ (.bool fdf)).setCell ⟨rb, 3, none⟩ (.bool fmf)).heap[rb]? = some (.cells #[.int .u8 ftos, .int .u16 fid, .bool fdf, .bool fmf, .int .i64 0, .int .u8 0, .int .u8 0, .int .u32 0, .int .u32 0, .slice none 0 0] 27) := row_set r2 3 (.bool fmf)
          clear r2
          have r4 : (((((wr.setCell ⟨rb, 0, none⟩ (.int .u8 ftos)).setCell ⟨rb, 1, none⟩ (.int .u16 fid)).setCell ⟨rb, 2, none⟩ (.bool fdf)).setCell ⟨rb, 3, none⟩ (.bool fmf)).setCell ⟨rb, 4, none⟩ (.int .i64 foff)).heap[rb]? = some (.cells #[.int .u8 ftos, .int .u16 fid, .bool fdf, .bool fmf, .int .i64 foff, .int .u8 0, .int .u8 0, .int .u32 0, .int .u32 0, .slice none 0 0] 27) := row_set r3 4 (.int .i64 foff)
          clear r3
          have r5 : ((((((wr.setCell ⟨rb, 0, none⟩ (.int .u8 ftos)).setCell ⟨rb, 1, none⟩ (.int .u16 fid)).setCell ⟨rb, 2, none⟩ (.bool fdf)).setCell ⟨rb, 3, none⟩ (.bool fmf)).setCell ⟨rb, 4, none⟩ (.int .i64 foff)).setCell ⟨rb, 5, none⟩ (.int .u8 fttl)).heap[rb]? = some (.cells #[.int .u8 ftos, .int .u16 fid, .bool fdf, .bool fmf, .int .i64 foff, .int .u8 fttl, .int .u8 0, .int .u32 0, .int .u32 0, .slice none 0 0] 27) := row_set r4 5 (.int .u8 fttl)
          clear r4
          have r6 : (((((((wr.setCell ⟨rb, 0, none⟩ (.int .u8 ftos)).setCell ⟨rb, 1, none⟩ (.int .u16 fid)).setCell ⟨rb, 2, none⟩ (.bool fdf)).setCell ⟨rb, 3, none⟩ (.bool fmf)).setCell ⟨rb, 4, none⟩ (.int .i64 foff)).setCell ⟨rb, 5, none⟩ (.int .u8 fttl)).setCell ⟨rb, 6, none⟩ (.int .u8 fpr)).heap[rb]? = some (.cells #[.int .u8 ftos, .int .u16 fid, .bool fdf, .bool fmf, .int .i64 foff, .int .u8 fttl, .int .u8 fpr, .int .u32 0, .int .u32 0, .slice none 0 0] 27) := row_set r5 6 (.int .u8 fpr)
          clear r5
          have r7 : ((((((((wr.setCell ⟨rb, 0, none⟩ (.int .u8 ftos)).setCell ⟨rb, 1, none⟩ (.int .u16 fid)).setCell ⟨rb, 2, none⟩ (.bool fdf)).setCell ⟨rb, 3, none⟩ (.bool fmf)).setCell ⟨rb, 4, none⟩ (.int .i64 foff)).setCell ⟨rb, 5, none⟩ (.int .u8 fttl)).setCell ⟨rb, 6, none⟩ (.int .u8 fpr)).setCell ⟨rb, 7, none⟩ (.int .u32 fsrc)).heap[rb]? = some (.cells #[.int .u8 ftos, .int .u16 fid, .bool fdf, .bool fmf, .int .i64 foff, .int .u8 fttl, .int .u8 fpr, .int .u32 fsrc, .int .u32 0, .slice none 0 0] 27) := row_set r6 7 (.int .u32 fsrc)
          clear r6
          have r8 : (((((((((wr.setCell ⟨rb, 0, none⟩ (.int .u8 ftos)).setCell ⟨rb, 1, none⟩ (.int .u16 fid)).setCell ⟨rb, 2, none⟩ (.bool fdf)).setCell ⟨rb, 3, none⟩ (.bool fmf)).setCell ⟨rb, 4, none⟩ (.int .i64 foff)).setCell ⟨rb, 5, none⟩ (.int .u8 fttl)).setCell ⟨rb, 6, none⟩ (.int .u8 fpr)).setCell ⟨rb, 7, none⟩ (.int .u32 fsrc)).setCell ⟨rb, 8, none⟩ (.int .u32 fdst)).heap[rb]? = some (.cells #[.int .u8 ftos, .int .u16 fid, .bool fdf, .bool fmf, .int .i64 foff, .int .u8 fttl, .int .u8 fpr, .int .u32 fsrc, .int .u32 fdst, .slice none 0 0] 27) := row_set r7 8 (.int .u32 fdst)
          clear r7
          have r9 : ((((((((((wr.setCell ⟨rb, 0, none⟩ (.int .u8 ftos)).setCell ⟨rb, 1, none⟩ (.int .u16 fid)).setCell ⟨rb, 2, none⟩ (.bool fdf)).setCell ⟨rb, 3, none⟩ (.bool fmf)).setCell ⟨rb, 4, none⟩ (.int .i64 foff)).setCell ⟨rb, 5, none⟩ (.int .u8 fttl)).setCell ⟨rb, 6, none⟩ (.int .u8 fpr)).setCell ⟨rb, 7, none⟩ (.int .u32 fsrc)).setCell ⟨rb, 8, none⟩ (.int .u32 fdst)).setCell ⟨rb, 9, none⟩ (.slice fA fb.length fc)).heap[rb]? = some (.cells #[.int .u8 ftos, .int .u16 fid, .bool fdf, .bool fmf, .int .i64 foff, .int .u8 fttl, .int .u8 fpr, .int .u32 fsrc, .int .u32 fdst, .slice fA fb.length fc] 27) := row_set r8 9 (.slice fA fb.length fc)
          clear r8
          have hx : Ex (fun j => j = rb) wr ((((((((((wr.setCell ⟨rb, 0, none⟩ (.int .u8 ftos)).setCell ⟨rb, 1, none⟩ (.int .u16 fid)).setCell ⟨rb, 2, none⟩ (.bool fdf)).setCell ⟨rb, 3, none⟩ (.bool fmf)).setCell ⟨rb, 4, none⟩ (.int .i64 foff)).setCell ⟨rb, 5, none⟩ (.int .u8 fttl)).setCell ⟨rb, 6, none⟩ (.int .u8 fpr)).setCell ⟨rb, 7, none⟩ (.int .u32 fsrc)).setCell ⟨rb, 8, none⟩ (.int .u32 fdst)).setCell ⟨rb, 9, none⟩ (.slice fA fb.length fc)) := (((((((((((Ex.refl (fun j => j = rb) wr).setCell (p := ⟨rb, 0, none⟩) (.inl rfl) (.int .u8 ftos)).setCell (p := ⟨rb, 1, none⟩) (.inl rfl) (.int .u16 fid)).setCell (p := ⟨rb, 2, none⟩) (.inl rfl) (.bool fdf)).setCell (p := ⟨rb, 3, none⟩) (.inl rfl) (.bool fmf)).setCell (p := ⟨rb, 4, none⟩) (.inl rfl) (.int .i64 foff)).setCell (p := ⟨rb, 5, none⟩) (.inl rfl) (.int .u8 fttl)).setCell (p := ⟨rb, 6, none⟩) (.inl rfl) (.int .u8 fpr)).setCell (p := ⟨rb, 7, none⟩) (.inl rfl) (.int .u32 fsrc)).setCell (p := ⟨rb, 8, none⟩) (.inl rfl) (.int .u32 fdst)).setCell (p := ⟨rb, 9, none⟩) (.inl rfl) (.slice fA fb.length fc))
          clear crb0 crb1 crb2 crb3 crb4 crb5 crb6 crb7 crb8 crb9 frb0 frb1 frb2 frb3 frb4 frb5 frb6 frb7 frb8 frb9 cf0 cf1 cf2 cf3 cf4 cf5 cf6 cf7 cf8 cf9 chb1
          generalize ((((((((((wr.setCell ⟨rb, 0, none⟩ (.int .u8 ftos)).setCell ⟨rb, 1, none⟩ (.int .u16 fid)).setCell ⟨rb, 2, none⟩ (.bool fdf)).setCell ⟨rb, 3, none⟩ (.bool fmf)).setCell ⟨rb, 4, none⟩ (.int .i64 foff)).setCell ⟨rb, 5, none⟩ (.int .u8 fttl)).setCell ⟨rb, 6, none⟩ (.int .u8 fpr)).setCell ⟨rb, 7, none⟩ (.int .u32 fsrc)).setCell ⟨rb, 8, none⟩ (.int .u32 fdst)).setCell ⟨rb, 9, none⟩ (.slice fA fb.length fc)) = wa at r9 hx ⊢
          replace B_rb := Lib.hid r9
          clear r9
          have HX_wa := Lib.hid hx
          clear hx
          have frb3 := row_frozen B_rb.out 3
          have frb4 := row_frozen B_rb.out 4
          have frb9 := row_frozen B_rb.out 9
          have crb3 := row_cell (k := 3) (v := .bool fmf) B_rb.out rfl
          have crb4 := row_cell (k := 4) (v := .int .i64 foff) B_rb.out rfl
          have crb9 := row_cell (k := 9) (v := .slice fA fb.length fc) B_rb.out rfl
          go_upto_region 16 with fail
          have hb : (((wa.setCell ⟨rb, 4, none⟩ (.int .i64 0)).setCell ⟨rb, 3, none⟩ (.bool false)).setCell ⟨rb, 9, none⟩ (.slice Ab bl.length cb)).heap[rb]? = some (.cells #[.int .u8 ftos, .int .u16 fid, .bool fdf, .bool false, .int .i64 0, .int .u8 fttl, .int .u8 fpr, .int .u32 fsrc, .int .u32 fdst, .slice Ab bl.length cb] 27) := (row_set (row_set (row_set B_rb.out 4 (.int .i64 0)) 3 (.bool false)) 9 (.slice Ab bl.length cb))
          have hx : Ex (fun j => j = rb) wa (((wa.setCell ⟨rb, 4, none⟩ (.int .i64 0)).setCell ⟨rb, 3, none⟩ (.bool false)).setCell ⟨rb, 9, none⟩ (.slice Ab bl.length cb)) := ((((Ex.refl (fun j => j = rb) wa).setCell (p := ⟨rb, 4, none⟩) (.inl rfl) (.int .i64 0)).setCell (p := ⟨rb, 3, none⟩) (.inl rfl) (.bool false)).setCell (p := ⟨rb, 9, none⟩) (.inl rfl) (.slice Ab bl.length cb))
          clear frb3 frb4 frb9 crb3 crb4 crb9
          generalize (((wa.setCell ⟨rb, 4, none⟩ (.int .i64 0)).setCell ⟨rb, 3, none⟩ (.bool false)).setCell ⟨rb, 9, none⟩ (.slice Ab bl.length cb)) = wb at hx hb ⊢
          clear B_rb
          have HX_wb := Lib.hid hx
          clear hx
          have B_rb := Lib.hid hb
          clear hb
          replace hob := Lib.hid (OB.keepB (OB.keepB hob.out HX_wa.out (by omega)) HX_wb.out (by omega))
          replace B_hb := Lib.hid ((HX_wb.out.block hb (row_lt ((HX_wa.out.block hb (row_lt B_hb.out) ne_rb_hb.symm).trans B_hb.out)) ne_rb_hb.symm).trans ((HX_wa.out.block hb (row_lt B_hb.out) ne_rb_hb.symm).trans B_hb.out))
          have chb1 := row_cell (k := 1) (v := .slice (some ⟨g, 0, none⟩) n cap) B_hb.out rfl
          have hlr := HLR.out wb ((((((((HX_w1.out.trans HX_w2.out).trans HX_w3.out).trans HX_w4.out).trans HX_w5.out).trans HX_wr.out).andThen HX_wa.out (fun i hi e => by have := hb_rb; omega)).andThen HX_wb.out (fun i hi e => by have := hb_rb; omega)).block g HGL.out id)
          have hllo : (l1 : Int) < (n : Int) := by have := HLI.out; omega
          have cl0 : wb.cell? ⟨g, l1 * 10 + 0, none⟩ = some (.int .u8 ltos) := hlr 0 _ rfl
          have cl1 : wb.cell? ⟨g, l1 * 10 + 1, none⟩ = some (.int .u16 lid) := hlr 1 _ rfl
          have cl2 : wb.cell? ⟨g, l1 * 10 + 2, none⟩ = some (.bool ldf) := hlr 2 _ rfl
          have cl3 : wb.cell? ⟨g, l1 * 10 + 3, none⟩ = some (.bool lmf) := hlr 3 _ rfl
          have cl4 : wb.cell? ⟨g, l1 * 10 + 4, none⟩ = some (.int .i64 loff) := hlr 4 _ rfl
          have cl5 : wb.cell? ⟨g, l1 * 10 + 5, none⟩ = some (.int .u8 lttl) := hlr 5 _ rfl
          have cl6 : wb.cell? ⟨g, l1 * 10 + 6, none⟩ = some (.int .u8 lpr) := hlr 6 _ rfl
          have cl7 : wb.cell? ⟨g, l1 * 10 + 7, none⟩ = some (.int .u32 lsrc) := hlr 7 _ rfl
          have cl8 : wb.cell? ⟨g, l1 * 10 + 8, none⟩ = some (.int .u32 ldst) := hlr 8 _ rfl
          have cl9 : wb.cell? ⟨g, l1 * 10 + 9, none⟩ = some (.slice lA lb.length lc) := hlr 9 _ rfl
          try simp only [Nat.add_zero] at cl0
          have hpl := HPT.out
          have hl1 := hpl.off _ HLM.out
          have hl2 := hpl.len _ HLM.out
          simp only at hl1 hl2
          have hen := fun w => end_any (⟨ltos, lid, ldf, lmf, loff, lttl, lpr, lsrc, ldst, lb⟩ : Pk) lA lc w (by show -1000000 ≤ loff ∧ loff ≤ 1000000; omega) (by show lb.length ≤ _; omega)
          obtain ⟨X, hX⟩ : ∃ X, ((⟨ltos, lid, ldf, lmf, loff, lttl, lpr, lsrc, ldst, lb⟩ : Pk)).en = X := ⟨_, rfl⟩
          rw [hX] at hen
          have HEN := Lib.hid hen
          have HX9 := Lib.hid hX
          have HGB := Lib.hid (show g ≠ rb by have := HGL.out; omega)
          clear hen hX hlr hpl hl1 hl2 hkr
          have crb0 := row_cell (k := 0) (v := .int .u8 ftos) B_rb.out rfl
          have crb1 := row_cell (k := 1) (v := .int .u16 fid) B_rb.out rfl
          have crb2 := row_cell (k := 2) (v := .bool fdf) B_rb.out rfl
          have crb3 := row_cell (k := 3) (v := .bool false) B_rb.out rfl
          have crb4 := row_cell (k := 4) (v := .int .i64 0) B_rb.out rfl
          have crb5 := row_cell (k := 5) (v := .int .u8 fttl) B_rb.out rfl
          have crb6 := row_cell (k := 6) (v := .int .u8 fpr) B_rb.out rfl
          have crb7 := row_cell (k := 7) (v := .int .u32 fsrc) B_rb.out rfl
          have crb8 := row_cell (k := 8) (v := .int .u32 fdst) B_rb.out rfl
          have crb9 := row_cell (k := 9) (v := .slice Ab bl.length cb) B_rb.out rfl
          have HX_wd := Lib.hid ((Ex.refl (fun _ => False) wb).drew)
          have hS0 : Ex (fun k => k = rb) wb wb.drew ∧ wb.drew.heap[rb]? = some (.cells #[.int .u8 ftos, .int .u16 fid, .bool fdf, .bool false, .int .i64 0, .int .u8 fttl, .int .u8 fpr, .int .u32 fsrc, .int .u32 fdst, .slice Ab bl.length cb] 27) := ⟨(Ex.refl _ wb).drew, B_rb.out⟩
          refine wp_region_held_drew (S := fun W => Ex (fun k => k = rb) wb W ∧ W.heap[rb]? = some (.cells #[.int .u8 ftos, .int .u16 fid, .bool fdf, .bool false, .int .i64 0, .int .u8 fttl, .int .u8 fpr, .int .u32 fsrc, .int .u32 fdst, .slice Ab bl.length cb] 27)) (by kernel_rfl) hS0 (fun _ => ?_)
          generalize wb.drew = wd at HX_wd hS0 ⊢
          have hS := hS0
          clear hS0 crb0 crb1 crb2 crb3 crb4 crb5 crb6 crb7 crb8 crb9
          replace B_rb := Lib.hid hS.2
          refine wpAnyH_take (i := 0) (oi := { dst := some 70, op := Go.Op.load 27 (Go.Operand.tmp 2), type := 27, pos := "frag.go:113", after := #[], guard := none }) (v := ?v1) rfl (by kernel_rfl) (by kernel_rfl) (by kernel_rfl) (fun _ _ _ h => h) (Or.inl ⟨by rfl, ?hy1⟩) (by assumption) ?rest1
          case hy1 => (intro w hSw; (try dsimp only at hSw); have e0 := row_cell (k := 0) (v := .int .u8 ftos) hSw.2 rfl; have e1 := row_cell (k := 1) (v := .int .u16 fid) hSw.2 rfl; have e2 := row_cell (k := 2) (v := .bool fdf) hSw.2 rfl; have e3 := row_cell (k := 3) (v := .bool false) hSw.2 rfl; have e4 := row_cell (k := 4) (v := .int .i64 0) hSw.2 rfl; have e5 := row_cell (k := 5) (v := .int .u8 fttl) hSw.2 rfl; have e6 := row_cell (k := 6) (v := .int .u8 fpr) hSw.2 rfl; have e7 := row_cell (k := 7) (v := .int .u32 fsrc) hSw.2 rfl; have e8 := row_cell (k := 8) (v := .int .u32 fdst) hSw.2 rfl; have e9 := row_cell (k := 9) (v := .slice Ab bl.length cb) hSw.2 rfl; have ehb := hSw.1.cell chb1 ne_rb_hb.symm; have l0 := hSw.1.cell cl0 HGB.out; have l1 := hSw.1.cell cl1 HGB.out; have l2 := hSw.1.cell cl2 HGB.out; have l3 := hSw.1.cell cl3 HGB.out; have l4 := hSw.1.cell cl4 HGB.out; have l5 := hSw.1.cell cl5 HGB.out; have l6 := hSw.1.cell cl6 HGB.out; have l7 := hSw.1.cell cl7 HGB.out; have l8 := hSw.1.cell cl8 HGB.out; have l9 := hSw.1.cell cl9 HGB.out; go_simp <;> with_reducible rfl)
          try simp only [Act.put, List.setIfInBounds_toArray, List.set_cons_zero, List.set_cons_succ]
          refine wpAnyH_take (i := 1) (oi := { dst := some 71, op := Go.Op.move (Go.Operand.tmp 6), type := 25, pos := "frag.go:113", after := #[], guard := none }) (v := ?v2) rfl (by kernel_rfl) (by kernel_rfl) (by kernel_rfl) (fun _ _ _ h => h) (Or.inl ⟨by rfl, ?hy2⟩) (by assumption) ?rest2
          case hy2 => (intro w hSw; (try dsimp only at hSw); have e0 := row_cell (k := 0) (v := .int .u8 ftos) hSw.2 rfl; have e1 := row_cell (k := 1) (v := .int .u16 fid) hSw.2 rfl; have e2 := row_cell (k := 2) (v := .bool fdf) hSw.2 rfl; have e3 := row_cell (k := 3) (v := .bool false) hSw.2 rfl; have e4 := row_cell (k := 4) (v := .int .i64 0) hSw.2 rfl; have e5 := row_cell (k := 5) (v := .int .u8 fttl) hSw.2 rfl; have e6 := row_cell (k := 6) (v := .int .u8 fpr) hSw.2 rfl; have e7 := row_cell (k := 7) (v := .int .u32 fsrc) hSw.2 rfl; have e8 := row_cell (k := 8) (v := .int .u32 fdst) hSw.2 rfl; have e9 := row_cell (k := 9) (v := .slice Ab bl.length cb) hSw.2 rfl; have ehb := hSw.1.cell chb1 ne_rb_hb.symm; have l0 := hSw.1.cell cl0 HGB.out; have l1 := hSw.1.cell cl1 HGB.out; have l2 := hSw.1.cell cl2 HGB.out; have l3 := hSw.1.cell cl3 HGB.out; have l4 := hSw.1.cell cl4 HGB.out; have l5 := hSw.1.cell cl5 HGB.out; have l6 := hSw.1.cell cl6 HGB.out; have l7 := hSw.1.cell cl7 HGB.out; have l8 := hSw.1.cell cl8 HGB.out; have l9 := hSw.1.cell cl9 HGB.out; go_simp <;> with_reducible rfl)
          try simp only [Act.put, List.setIfInBounds_toArray, List.set_cons_zero, List.set_cons_succ]
          refine wpAnyH_take (i := 2) (oi := { dst := some 72, op := Go.Op.call { callee := Go.Callee.builtin Go.Builtin.len, args := #[Go.Operand.tmp 71], argTypes := #[25] }, type := 3, pos := "frag.go:113", after := #[{ on := 1, ground := Go.Ground.data }], guard := none }) (v := ?v3) rfl (by kernel_rfl) (by kernel_rfl) (by kernel_rfl) (fun _ _ _ h => h) (Or.inl ⟨by rfl, ?hy3⟩) (by assumption) ?rest3
          case hy3 => (intro w hSw; (try dsimp only at hSw); have e0 := row_cell (k := 0) (v := .int .u8 ftos) hSw.2 rfl; have e1 := row_cell (k := 1) (v := .int .u16 fid) hSw.2 rfl; have e2 := row_cell (k := 2) (v := .bool fdf) hSw.2 rfl; have e3 := row_cell (k := 3) (v := .bool false) hSw.2 rfl; have e4 := row_cell (k := 4) (v := .int .i64 0) hSw.2 rfl; have e5 := row_cell (k := 5) (v := .int .u8 fttl) hSw.2 rfl; have e6 := row_cell (k := 6) (v := .int .u8 fpr) hSw.2 rfl; have e7 := row_cell (k := 7) (v := .int .u32 fsrc) hSw.2 rfl; have e8 := row_cell (k := 8) (v := .int .u32 fdst) hSw.2 rfl; have e9 := row_cell (k := 9) (v := .slice Ab bl.length cb) hSw.2 rfl; have ehb := hSw.1.cell chb1 ne_rb_hb.symm; have l0 := hSw.1.cell cl0 HGB.out; have l1 := hSw.1.cell cl1 HGB.out; have l2 := hSw.1.cell cl2 HGB.out; have l3 := hSw.1.cell cl3 HGB.out; have l4 := hSw.1.cell cl4 HGB.out; have l5 := hSw.1.cell cl5 HGB.out; have l6 := hSw.1.cell cl6 HGB.out; have l7 := hSw.1.cell cl7 HGB.out; have l8 := hSw.1.cell cl8 HGB.out; have l9 := hSw.1.cell cl9 HGB.out; go_simp <;> with_reducible rfl)
          try simp only [Act.put, List.setIfInBounds_toArray, List.set_cons_zero, List.set_cons_succ]
          refine wpAnyH_take (i := 3) (oi := { dst := some 73, op := Go.Op.move (Go.Operand.tmp 0), type := 79, pos := "frag.go:113", after := #[], guard := none }) (v := ?v4) rfl (by kernel_rfl) (by kernel_rfl) (by kernel_rfl) (fun _ _ _ h => h) (Or.inl ⟨by rfl, ?hy4⟩) (by assumption) ?rest4
          case hy4 => (intro w hSw; (try dsimp only at hSw); have e0 := row_cell (k := 0) (v := .int .u8 ftos) hSw.2 rfl; have e1 := row_cell (k := 1) (v := .int .u16 fid) hSw.2 rfl; have e2 := row_cell (k := 2) (v := .bool fdf) hSw.2 rfl; have e3 := row_cell (k := 3) (v := .bool false) hSw.2 rfl; have e4 := row_cell (k := 4) (v := .int .i64 0) hSw.2 rfl; have e5 := row_cell (k := 5) (v := .int .u8 fttl) hSw.2 rfl; have e6 := row_cell (k := 6) (v := .int .u8 fpr) hSw.2 rfl; have e7 := row_cell (k := 7) (v := .int .u32 fsrc) hSw.2 rfl; have e8 := row_cell (k := 8) (v := .int .u32 fdst) hSw.2 rfl; have e9 := row_cell (k := 9) (v := .slice Ab bl.length cb) hSw.2 rfl; have ehb := hSw.1.cell chb1 ne_rb_hb.symm; have l0 := hSw.1.cell cl0 HGB.out; have l1 := hSw.1.cell cl1 HGB.out; have l2 := hSw.1.cell cl2 HGB.out; have l3 := hSw.1.cell cl3 HGB.out; have l4 := hSw.1.cell cl4 HGB.out; have l5 := hSw.1.cell cl5 HGB.out; have l6 := hSw.1.cell cl6 HGB.out; have l7 := hSw.1.cell cl7 HGB.out; have l8 := hSw.1.cell cl8 HGB.out; have l9 := hSw.1.cell cl9 HGB.out; go_simp <;> with_reducible rfl)
          try simp only [Act.put, List.setIfInBounds_toArray, List.set_cons_zero, List.set_cons_succ]
          refine wpAnyH_take (i := 4) (oi := { dst := some 74, op := Go.Op.nilCheck (Go.Operand.tmp 73), type := 0, pos := "frag.go:113", after := #[{ on := 3, ground := Go.Ground.data }], guard := none }) (v := ?v5) rfl (by kernel_rfl) (by kernel_rfl) (by kernel_rfl) (fun _ _ _ h => h) (Or.inl ⟨by rfl, ?hy5⟩) (by assumption) ?rest5
          case hy5 => (intro w hSw; (try dsimp only at hSw); have e0 := row_cell (k := 0) (v := .int .u8 ftos) hSw.2 rfl; have e1 := row_cell (k := 1) (v := .int .u16 fid) hSw.2 rfl; have e2 := row_cell (k := 2) (v := .bool fdf) hSw.2 rfl; have e3 := row_cell (k := 3) (v := .bool false) hSw.2 rfl; have e4 := row_cell (k := 4) (v := .int .i64 0) hSw.2 rfl; have e5 := row_cell (k := 5) (v := .int .u8 fttl) hSw.2 rfl; have e6 := row_cell (k := 6) (v := .int .u8 fpr) hSw.2 rfl; have e7 := row_cell (k := 7) (v := .int .u32 fsrc) hSw.2 rfl; have e8 := row_cell (k := 8) (v := .int .u32 fdst) hSw.2 rfl; have e9 := row_cell (k := 9) (v := .slice Ab bl.length cb) hSw.2 rfl; have ehb := hSw.1.cell chb1 ne_rb_hb.symm; have l0 := hSw.1.cell cl0 HGB.out; have l1 := hSw.1.cell cl1 HGB.out; have l2 := hSw.1.cell cl2 HGB.out; have l3 := hSw.1.cell cl3 HGB.out; have l4 := hSw.1.cell cl4 HGB.out; have l5 := hSw.1.cell cl5 HGB.out; have l6 := hSw.1.cell cl6 HGB.out; have l7 := hSw.1.cell cl7 HGB.out; have l8 := hSw.1.cell cl8 HGB.out; have l9 := hSw.1.cell cl9 HGB.out; go_simp <;> with_reducible rfl)
          try simp only [Act.put, List.setIfInBounds_toArray, List.set_cons_zero, List.set_cons_succ]
          refine wpAnyH_take (i := 5) (oi := { dst := some 75, op := Go.Op.fieldAddr 81 (Go.Operand.tmp 74) 1, type := 0, pos := "frag.go:113", after := #[{ on := 4, ground := Go.Ground.data }], guard := none }) (v := ?v6) rfl (by kernel_rfl) (by kernel_rfl) (by kernel_rfl) (fun _ _ _ h => h) (Or.inl ⟨by rfl, ?hy6⟩) (by assumption) ?rest6
          case hy6 => (intro w hSw; (try dsimp only at hSw); have e0 := row_cell (k := 0) (v := .int .u8 ftos) hSw.2 rfl; have e1 := row_cell (k := 1) (v := .int .u16 fid) hSw.2 rfl; have e2 := row_cell (k := 2) (v := .bool fdf) hSw.2 rfl; have e3 := row_cell (k := 3) (v := .bool false) hSw.2 rfl; have e4 := row_cell (k := 4) (v := .int .i64 0) hSw.2 rfl; have e5 := row_cell (k := 5) (v := .int .u8 fttl) hSw.2 rfl; have e6 := row_cell (k := 6) (v := .int .u8 fpr) hSw.2 rfl; have e7 := row_cell (k := 7) (v := .int .u32 fsrc) hSw.2 rfl; have e8 := row_cell (k := 8) (v := .int .u32 fdst) hSw.2 rfl; have e9 := row_cell (k := 9) (v := .slice Ab bl.length cb) hSw.2 rfl; have ehb := hSw.1.cell chb1 ne_rb_hb.symm; have l0 := hSw.1.cell cl0 HGB.out; have l1 := hSw.1.cell cl1 HGB.out; have l2 := hSw.1.cell cl2 HGB.out; have l3 := hSw.1.cell cl3 HGB.out; have l4 := hSw.1.cell cl4 HGB.out; have l5 := hSw.1.cell cl5 HGB.out; have l6 := hSw.1.cell cl6 HGB.out; have l7 := hSw.1.cell cl7 HGB.out; have l8 := hSw.1.cell cl8 HGB.out; have l9 := hSw.1.cell cl9 HGB.out; go_simp <;> with_reducible rfl)
          try simp only [Act.put, List.setIfInBounds_toArray, List.set_cons_zero, List.set_cons_succ]
          refine wpAnyH_take (i := 6) (oi := { dst := some 76, op := Go.Op.load 33 (Go.Operand.tmp 75), type := 33, pos := "frag.go:113", after := #[{ on := 5, ground := Go.Ground.data }], guard := none }) (v := ?v7) rfl (by kernel_rfl) (by kernel_rfl) (by kernel_rfl) (fun _ _ _ h => h) (Or.inl ⟨by rfl, ?hy7⟩) (by assumption) ?rest7
          case hy7 => (intro w hSw; (try dsimp only at hSw); have e0 := row_cell (k := 0) (v := .int .u8 ftos) hSw.2 rfl; have e1 := row_cell (k := 1) (v := .int .u16 fid) hSw.2 rfl; have e2 := row_cell (k := 2) (v := .bool fdf) hSw.2 rfl; have e3 := row_cell (k := 3) (v := .bool false) hSw.2 rfl; have e4 := row_cell (k := 4) (v := .int .i64 0) hSw.2 rfl; have e5 := row_cell (k := 5) (v := .int .u8 fttl) hSw.2 rfl; have e6 := row_cell (k := 6) (v := .int .u8 fpr) hSw.2 rfl; have e7 := row_cell (k := 7) (v := .int .u32 fsrc) hSw.2 rfl; have e8 := row_cell (k := 8) (v := .int .u32 fdst) hSw.2 rfl; have e9 := row_cell (k := 9) (v := .slice Ab bl.length cb) hSw.2 rfl; have ehb := hSw.1.cell chb1 ne_rb_hb.symm; have l0 := hSw.1.cell cl0 HGB.out; have l1 := hSw.1.cell cl1 HGB.out; have l2 := hSw.1.cell cl2 HGB.out; have l3 := hSw.1.cell cl3 HGB.out; have l4 := hSw.1.cell cl4 HGB.out; have l5 := hSw.1.cell cl5 HGB.out; have l6 := hSw.1.cell cl6 HGB.out; have l7 := hSw.1.cell cl7 HGB.out; have l8 := hSw.1.cell cl8 HGB.out; have l9 := hSw.1.cell cl9 HGB.out; go_simp <;> with_reducible rfl)
          try simp only [Act.put, List.setIfInBounds_toArray, List.set_cons_zero, List.set_cons_succ]
          refine wpAnyH_take (i := 7) (oi := { dst := some 77, op := Go.Op.move (Go.Operand.tmp 5), type := 3, pos := "frag.go:113", after := #[], guard := none }) (v := ?v8) rfl (by kernel_rfl) (by kernel_rfl) (by kernel_rfl) (fun _ _ _ h => h) (Or.inl ⟨by rfl, ?hy8⟩) (by assumption) ?rest8
          case hy8 => (intro w hSw; (try dsimp only at hSw); have e0 := row_cell (k := 0) (v := .int .u8 ftos) hSw.2 rfl; have e1 := row_cell (k := 1) (v := .int .u16 fid) hSw.2 rfl; have e2 := row_cell (k := 2) (v := .bool fdf) hSw.2 rfl; have e3 := row_cell (k := 3) (v := .bool false) hSw.2 rfl; have e4 := row_cell (k := 4) (v := .int .i64 0) hSw.2 rfl; have e5 := row_cell (k := 5) (v := .int .u8 fttl) hSw.2 rfl; have e6 := row_cell (k := 6) (v := .int .u8 fpr) hSw.2 rfl; have e7 := row_cell (k := 7) (v := .int .u32 fsrc) hSw.2 rfl; have e8 := row_cell (k := 8) (v := .int .u32 fdst) hSw.2 rfl; have e9 := row_cell (k := 9) (v := .slice Ab bl.length cb) hSw.2 rfl; have ehb := hSw.1.cell chb1 ne_rb_hb.symm; have l0 := hSw.1.cell cl0 HGB.out; have l1 := hSw.1.cell cl1 HGB.out; have l2 := hSw.1.cell cl2 HGB.out; have l3 := hSw.1.cell cl3 HGB.out; have l4 := hSw.1.cell cl4 HGB.out; have l5 := hSw.1.cell cl5 HGB.out; have l6 := hSw.1.cell cl6 HGB.out; have l7 := hSw.1.cell cl7 HGB.out; have l8 := hSw.1.cell cl8 HGB.out; have l9 := hSw.1.cell cl9 HGB.out; go_simp <;> with_reducible rfl)
          try simp only [Act.put, List.setIfInBounds_toArray, List.set_cons_zero, List.set_cons_succ]
          refine wpAnyH_take (i := 8) (oi := { dst := some 78, op := Go.Op.indexAddr 33 (Go.Operand.tmp 76) (Go.Operand.tmp 77), type := 0, pos := "frag.go:113", after := #[{ on := 6, ground := Go.Ground.data }, { on := 7, ground := Go.Ground.data }], guard := none }) (v := ?v9) rfl (by kernel_rfl) (by kernel_rfl) (by kernel_rfl) (fun _ _ _ h => h) (Or.inl ⟨by rfl, ?hy9⟩) (by assumption) ?rest9
          case hy9 => (intro w hSw; (try dsimp only at hSw); have e0 := row_cell (k := 0) (v := .int .u8 ftos) hSw.2 rfl; have e1 := row_cell (k := 1) (v := .int .u16 fid) hSw.2 rfl; have e2 := row_cell (k := 2) (v := .bool fdf) hSw.2 rfl; have e3 := row_cell (k := 3) (v := .bool false) hSw.2 rfl; have e4 := row_cell (k := 4) (v := .int .i64 0) hSw.2 rfl; have e5 := row_cell (k := 5) (v := .int .u8 fttl) hSw.2 rfl; have e6 := row_cell (k := 6) (v := .int .u8 fpr) hSw.2 rfl; have e7 := row_cell (k := 7) (v := .int .u32 fsrc) hSw.2 rfl; have e8 := row_cell (k := 8) (v := .int .u32 fdst) hSw.2 rfl; have e9 := row_cell (k := 9) (v := .slice Ab bl.length cb) hSw.2 rfl; have ehb := hSw.1.cell chb1 ne_rb_hb.symm; have l0 := hSw.1.cell cl0 HGB.out; have l1 := hSw.1.cell cl1 HGB.out; have l2 := hSw.1.cell cl2 HGB.out; have l3 := hSw.1.cell cl3 HGB.out; have l4 := hSw.1.cell cl4 HGB.out; have l5 := hSw.1.cell cl5 HGB.out; have l6 := hSw.1.cell cl6 HGB.out; have l7 := hSw.1.cell cl7 HGB.out; have l8 := hSw.1.cell cl8 HGB.out; have l9 := hSw.1.cell cl9 HGB.out; go_simp <;> with_reducible rfl)
          try simp only [Act.put, List.setIfInBounds_toArray, List.set_cons_zero, List.set_cons_succ]
          refine wpAnyH_take (i := 9) (oi := { dst := some 79, op := Go.Op.load 27 (Go.Operand.tmp 78), type := 27, pos := "frag.go:113", after := #[{ on := 8, ground := Go.Ground.data }], guard := none }) (v := ?v10) rfl (by kernel_rfl) (by kernel_rfl) (by kernel_rfl) (fun _ _ _ h => h) (Or.inl ⟨by rfl, ?hy10⟩) (by assumption) ?rest10
          case hy10 => (intro w hSw; (try dsimp only at hSw); have e0 := row_cell (k := 0) (v := .int .u8 ftos) hSw.2 rfl; have e1 := row_cell (k := 1) (v := .int .u16 fid) hSw.2 rfl; have e2 := row_cell (k := 2) (v := .bool fdf) hSw.2 rfl; have e3 := row_cell (k := 3) (v := .bool false) hSw.2 rfl; have e4 := row_cell (k := 4) (v := .int .i64 0) hSw.2 rfl; have e5 := row_cell (k := 5) (v := .int .u8 fttl) hSw.2 rfl; have e6 := row_cell (k := 6) (v := .int .u8 fpr) hSw.2 rfl; have e7 := row_cell (k := 7) (v := .int .u32 fsrc) hSw.2 rfl; have e8 := row_cell (k := 8) (v := .int .u32 fdst) hSw.2 rfl; have e9 := row_cell (k := 9) (v := .slice Ab bl.length cb) hSw.2 rfl; have ehb := hSw.1.cell chb1 ne_rb_hb.symm; have l0 := hSw.1.cell cl0 HGB.out; have l1 := hSw.1.cell cl1 HGB.out; have l2 := hSw.1.cell cl2 HGB.out; have l3 := hSw.1.cell cl3 HGB.out; have l4 := hSw.1.cell cl4 HGB.out; have l5 := hSw.1.cell cl5 HGB.out; have l6 := hSw.1.cell cl6 HGB.out; have l7 := hSw.1.cell cl7 HGB.out; have l8 := hSw.1.cell cl8 HGB.out; have l9 := hSw.1.cell cl9 HGB.out; go_simp <;> with_reducible rfl)
          try simp only [Act.put, List.setIfInBounds_toArray, List.set_cons_zero, List.set_cons_succ]
          refine wpAnyH_ready (rs := [10]) (by kernel_rfl) (by simp) ?_
          refine AllReadyH.cons (o := { dst := some 80, op := Go.Op.call { callee := Go.Callee.value (Go.Operand.func 40), args := #[Go.Operand.tmp 79], argTypes := #[27] }, type := 3, pos := "frag.go:113", after := #[{ on := 9, ground := Go.Ground.data }], guard := none }) rfl (fun K hK => ?_) AllReadyH.nil
          go_simp
          refine (HEN.out _).mono ?_
          rintro e we ⟨rfl, hx⟩
          have HX_we := Lib.hid hx
          clear hx
          replace B_rb := Lib.hid ((HX_we.out.block rb (row_lt B_rb.out) id).trans B_rb.out)
          have hS1 : Ex (fun k => k = rb) wb we ∧ we.heap[rb]? = some (.cells #[.int .u8 ftos, .int .u16 fid, .bool fdf, .bool false, .int .i64 0, .int .u8 fttl, .int .u8 fpr, .int .u32 fsrc, .int .u32 fdst, .slice Ab bl.length cb] 27) := ⟨hS.1.trans (HX_we.out.mono (fun _ _ h => h.elim)), B_rb.out⟩
          refine hK.out _ _ hS1 (fun _ => ?_)
          refine wpAnyH_take (i := 11) (oi := { dst := some 81, op := Go.Op.binOp Go.BinOp.eql 3 (Go.Operand.tmp 72) (Go.Operand.tmp 80) 3, type := 4, pos := "frag.go:113", after := #[{ on := 2, ground := Go.Ground.data }, { on := 10, ground := Go.Ground.data }, { on := 12, ground := Go.Ground.gcOnly Go.Departure.lateStores }], guard := none }) (v := ?v11) rfl (by kernel_rfl) (by kernel_rfl) (by kernel_rfl) (fun _ _ _ h => h) (Or.inl ⟨by rfl, ?hy11⟩) (by assumption) ?rest11
          case hy11 => (intro w hSw; (try dsimp only at hSw); have e0 := row_cell (k := 0) (v := .int .u8 ftos) hSw.2 rfl; have e1 := row_cell (k := 1) (v := .int .u16 fid) hSw.2 rfl; have e2 := row_cell (k := 2) (v := .bool fdf) hSw.2 rfl; have e3 := row_cell (k := 3) (v := .bool false) hSw.2 rfl; have e4 := row_cell (k := 4) (v := .int .i64 0) hSw.2 rfl; have e5 := row_cell (k := 5) (v := .int .u8 fttl) hSw.2 rfl; have e6 := row_cell (k := 6) (v := .int .u8 fpr) hSw.2 rfl; have e7 := row_cell (k := 7) (v := .int .u32 fsrc) hSw.2 rfl; have e8 := row_cell (k := 8) (v := .int .u32 fdst) hSw.2 rfl; have e9 := row_cell (k := 9) (v := .slice Ab bl.length cb) hSw.2 rfl; have ehb := hSw.1.cell chb1 ne_rb_hb.symm; have l0 := hSw.1.cell cl0 HGB.out; have l1 := hSw.1.cell cl1 HGB.out; have l2 := hSw.1.cell cl2 HGB.out; have l3 := hSw.1.cell cl3 HGB.out; have l4 := hSw.1.cell cl4 HGB.out; have l5 := hSw.1.cell cl5 HGB.out; have l6 := hSw.1.cell cl6 HGB.out; have l7 := hSw.1.cell cl7 HGB.out; have l8 := hSw.1.cell cl8 HGB.out; have l9 := hSw.1.cell cl9 HGB.out; go_simp <;> with_reducible rfl)
          try simp only [Act.put, List.setIfInBounds_toArray, List.set_cons_zero, List.set_cons_succ]
          refine wpAnyH_ready (rs := [12]) (by kernel_rfl) (by simp) ?_
          refine AllReadyH.cons (o := { dst := none, op := Go.Op.store 27 (Go.Operand.tmp 2) (Go.Operand.tmp 70), type := 0, pos := "frag.go:113", after := #[{ on := 0, ground := Go.Ground.data }, { on := 10, ground := Go.Ground.chain }, { on := 0, ground := Go.Ground.phase }, { on := 1, ground := Go.Ground.textOnly Go.Departure.lateStores }, { on := 2, ground := Go.Ground.textOnly Go.Departure.lateStoresUnsure }, { on := 3, ground := Go.Ground.textOnly Go.Departure.lateStores }, { on := 4, ground := Go.Ground.textOnly Go.Departure.lateStores }, { on := 5, ground := Go.Ground.textOnly Go.Departure.lateStores }, { on := 6, ground := Go.Ground.textOnly Go.Departure.lateStores }, { on := 7, ground := Go.Ground.textOnly Go.Departure.lateStores }, { on := 8, ground := Go.Ground.textOnly Go.Departure.lateStores }, { on := 9, ground := Go.Ground.textOnly Go.Departure.lateStores }, { on := 10, ground := Go.Ground.textOnly Go.Departure.lateStoresUnsure }, { on := 11, ground := Go.Ground.textOnly Go.Departure.lateStores }], guard := none }) rfl (fun K hK => ?_) AllReadyH.nil
          have crb0 := row_cell (k := 0) (v := .int .u8 ftos) B_rb.out rfl
          have crb1 := row_cell (k := 1) (v := .int .u16 fid) B_rb.out rfl
          have crb2 := row_cell (k := 2) (v := .bool fdf) B_rb.out rfl
          have crb3 := row_cell (k := 3) (v := .bool false) B_rb.out rfl
          have crb4 := row_cell (k := 4) (v := .int .i64 0) B_rb.out rfl
          have crb5 := row_cell (k := 5) (v := .int .u8 fttl) B_rb.out rfl
          have crb6 := row_cell (k := 6) (v := .int .u8 fpr) B_rb.out rfl
          have crb7 := row_cell (k := 7) (v := .int .u32 fsrc) B_rb.out rfl
          have crb8 := row_cell (k := 8) (v := .int .u32 fdst) B_rb.out rfl
          have crb9 := row_cell (k := 9) (v := .slice Ab bl.length cb) B_rb.out rfl
          have frb0 := row_frozen B_rb.out 0
          have frb1 := row_frozen B_rb.out 1
          have frb2 := row_frozen B_rb.out 2
          have frb3 := row_frozen B_rb.out 3
          have frb4 := row_frozen B_rb.out 4
          have frb5 := row_frozen B_rb.out 5
          have frb6 := row_frozen B_rb.out 6
          have frb7 := row_frozen B_rb.out 7
          have frb8 := row_frozen B_rb.out 8
          have frb9 := row_frozen B_rb.out 9
          go_simp
          have r0 : (we.setCell ⟨rb, 0, none⟩ (.int .u8 ftos)).heap[rb]? = some (.cells #[.int .u8 ftos, .int .u16 fid, .bool fdf, .bool false, .int .i64 0, .int .u8 fttl, .int .u8 fpr, .int .u32 fsrc, .int .u32 fdst, .slice Ab bl.length cb] 27) := row_set B_rb.out 0 (.int .u8 ftos)
          have r1 : ((we.setCell ⟨rb, 0, none⟩ (.int .u8 ftos)).setCell ⟨rb, 1, none⟩ (.int .u16 fid)).heap[rb]? = some (.cells #[.int .u8 ftos, .int .u16 fid, .bool fdf, .bool false, .int .i64 0, .int .u8 fttl, .int .u8 fpr, .int .u32 fsrc, .int .u32 fdst, .slice Ab bl.length cb] 27) := row_set r0 1 (.int .u16 fid)
          clear r0
          have r2 : (((we.setCell ⟨rb, 0, none⟩ (.int .u8 ftos)).setCell ⟨rb, 1, none⟩ (.int .u16 fid)).setCell ⟨rb, 2, none⟩ (.bool fdf)).heap[rb]? = some (.cells #[.int .u8 ftos, .int .u16 fid, .bool fdf, .bool false, .int .i64 0, .int .u8 fttl, .int .u8 fpr, .int .u32 fsrc, .int .u32 fdst, .slice Ab bl.length cb] 27) := row_set r1 2 (.bool fdf)
          clear r1
          have r3 : ((((we.setCell ⟨rb, 0, none⟩ (.int .u8 ftos)).setCell ⟨rb, 1, none⟩ (.int .u16 fid)).setCell ⟨rb, 2, none⟩ (.bool fdf)).setCell ⟨rb, 3, none⟩ (.bool false)).heap[rb]? = some (.cells #[.int .u8 ftos, .int .u16 fid, .bool fdf, .bool false, .int .i64 0, .int .u8 fttl, .int .u8 fpr, .int .u32 fsrc, .int .u32 fdst, .slice Ab bl.length cb] 27) := row_set r2 3 (.bool false)
          clear r2
          have r4 : (((((we.setCell ⟨rb, 0, none⟩ (.int .u8 ftos)).setCell ⟨rb, 1, none⟩ (.int .u16 fid)).setCell ⟨rb, 2, none⟩ (.bool fdf)).setCell ⟨rb, 3, none⟩ (.bool false)).setCell ⟨rb, 4, none⟩ (.int .i64 0)).heap[rb]? = some (.cells #[.int .u8 ftos, .int .u16 fid, .bool fdf, .bool false, .int .i64 0, .int .u8 fttl, .int .u8 fpr, .int .u32 fsrc, .int .u32 fdst, .slice Ab bl.length cb] 27) := row_set r3 4 (.int .i64 0)
          clear r3
          have r5 : ((((((we.setCell ⟨rb, 0, none⟩ (.int .u8 ftos)).setCell ⟨rb, 1, none⟩ (.int .u16 fid)).setCell ⟨rb, 2, none⟩ (.bool fdf)).setCell ⟨rb, 3, none⟩ (.bool false)).setCell ⟨rb, 4, none⟩ (.int .i64 0)).setCell ⟨rb, 5, none⟩ (.int .u8 fttl)).heap[rb]? = some (.cells #[.int .u8 ftos, .int .u16 fid, .bool fdf, .bool false, .int .i64 0, .int .u8 fttl, .int .u8 fpr, .int .u32 fsrc, .int .u32 fdst, .slice Ab bl.length cb] 27) := row_set r4 5 (.int .u8 fttl)
          clear r4
          have r6 : (((((((we.setCell ⟨rb, 0, none⟩ (.int .u8 ftos)).setCell ⟨rb, 1, none⟩ (.int .u16 fid)).setCell ⟨rb, 2, none⟩ (.bool fdf)).setCell ⟨rb, 3, none⟩ (.bool false)).setCell ⟨rb, 4, none⟩ (.int .i64 0)).setCell ⟨rb, 5, none⟩ (.int .u8 fttl)).setCell ⟨rb, 6, none⟩ (.int .u8 fpr)).heap[rb]? = some (.cells #[.int .u8 ftos, .int .u16 fid, .bool fdf, .bool false, .int .i64 0, .int .u8 fttl, .int .u8 fpr, .int .u32 fsrc, .int .u32 fdst, .slice Ab bl.length cb] 27) := row_set r5 6 (.int .u8 fpr)
          clear r5
          have r7 : ((((((((we.setCell ⟨rb, 0, none⟩ (.int .u8 ftos)).setCell ⟨rb, 1, none⟩ (.int .u16 fid)).setCell ⟨rb, 2, none⟩ (.bool fdf)).setCell ⟨rb, 3, none⟩ (.bool false)).setCell ⟨rb, 4, none⟩ (.int .i64 0)).setCell ⟨rb, 5, none⟩ (.int .u8 fttl)).setCell ⟨rb, 6, none⟩ (.int .u8 fpr)).setCell ⟨rb, 7, none⟩ (.int .u32 fsrc)).heap[rb]? = some (.cells #[.int .u8 ftos, .int .u16 fid, .bool fdf, .bool false, .int .i64 0, .int .u8 fttl, .int .u8 fpr, .int .u32 fsrc, .int .u32 fdst, .slice Ab bl.length cb] 27) := row_set r6 7 (.int .u32 fsrc)
          clear r6
          have r8 : (((((((((we.setCell ⟨rb, 0, none⟩ (.int .u8 ftos)).setCell ⟨rb, 1, none⟩ (.int .u16 fid)).setCell ⟨rb, 2, none⟩ (.bool fdf)).setCell ⟨rb, 3, none⟩ (.bool false)).setCell ⟨rb, 4, none⟩ (.int .i64 0)).setCell ⟨rb, 5, none⟩ (.int .u8 fttl)).setCell ⟨rb, 6, none⟩ (.int .u8 fpr)).setCell ⟨rb, 7, none⟩ (.int .u32 fsrc)).setCell ⟨rb, 8, none⟩ (.int .u32 fdst)).heap[rb]? = some (.cells #[.int .u8 ftos, .int .u16 fid, .bool fdf, .bool false, .int .i64 0, .int .u8 fttl, .int .u8 fpr, .int .u32 fsrc, .int .u32 fdst, .slice Ab bl.length cb] 27) := row_set r7 8 (.int .u32 fdst)
          clear r7
          have r9 : ((((((((((we.setCell ⟨rb, 0, none⟩ (.int .u8 ftos)).setCell ⟨rb, 1, none⟩ (.int .u16 fid)).setCell ⟨rb, 2, none⟩ (.bool fdf)).setCell ⟨rb, 3, none⟩ (.bool false)).setCell ⟨rb, 4, none⟩ (.int .i64 0)).setCell ⟨rb, 5, none⟩ (.int .u8 fttl)).setCell ⟨rb, 6, none⟩ (.int .u8 fpr)).setCell ⟨rb, 7, none⟩ (.int .u32 fsrc)).setCell ⟨rb, 8, none⟩ (.int .u32 fdst)).setCell ⟨rb, 9, none⟩ (.slice Ab bl.length cb)).heap[rb]? = some (.cells #[.int .u8 ftos, .int .u16 fid, .bool fdf, .bool false, .int .i64 0, .int .u8 fttl, .int .u8 fpr, .int .u32 fsrc, .int .u32 fdst, .slice Ab bl.length cb] 27) := row_set r8 9 (.slice Ab bl.length cb)
          clear r8
          have hx : Ex (fun j => j = rb) we ((((((((((we.setCell ⟨rb, 0, none⟩ (.int .u8 ftos)).setCell ⟨rb, 1, none⟩ (.int .u16 fid)).setCell ⟨rb, 2, none⟩ (.bool fdf)).setCell ⟨rb, 3, none⟩ (.bool false)).setCell ⟨rb, 4, none⟩ (.int .i64 0)).setCell ⟨rb, 5, none⟩ (.int .u8 fttl)).setCell ⟨rb, 6, none⟩ (.int .u8 fpr)).setCell ⟨rb, 7, none⟩ (.int .u32 fsrc)).setCell ⟨rb, 8, none⟩ (.int .u32 fdst)).setCell ⟨rb, 9, none⟩ (.slice Ab bl.length cb)) := (((((((((((Ex.refl (fun j => j = rb) we).setCell (p := ⟨rb, 0, none⟩) (.inl rfl) (.int .u8 ftos)).setCell (p := ⟨rb, 1, none⟩) (.inl rfl) (.int .u16 fid)).setCell (p := ⟨rb, 2, none⟩) (.inl rfl) (.bool fdf)).setCell (p := ⟨rb, 3, none⟩) (.inl rfl) (.bool false)).setCell (p := ⟨rb, 4, none⟩) (.inl rfl) (.int .i64 0)).setCell (p := ⟨rb, 5, none⟩) (.inl rfl) (.int .u8 fttl)).setCell (p := ⟨rb, 6, none⟩) (.inl rfl) (.int .u8 fpr)).setCell (p := ⟨rb, 7, none⟩) (.inl rfl) (.int .u32 fsrc)).setCell (p := ⟨rb, 8, none⟩) (.inl rfl) (.int .u32 fdst)).setCell (p := ⟨rb, 9, none⟩) (.inl rfl) (.slice Ab bl.length cb))
          clear crb0 crb1 crb2 crb3 crb4 crb5 crb6 crb7 crb8 crb9 frb0 frb1 frb2 frb3 frb4 frb5 frb6 frb7 frb8 frb9
          generalize ((((((((((we.setCell ⟨rb, 0, none⟩ (.int .u8 ftos)).setCell ⟨rb, 1, none⟩ (.int .u16 fid)).setCell ⟨rb, 2, none⟩ (.bool fdf)).setCell ⟨rb, 3, none⟩ (.bool false)).setCell ⟨rb, 4, none⟩ (.int .i64 0)).setCell ⟨rb, 5, none⟩ (.int .u8 fttl)).setCell ⟨rb, 6, none⟩ (.int .u8 fpr)).setCell ⟨rb, 7, none⟩ (.int .u32 fsrc)).setCell ⟨rb, 8, none⟩ (.int .u32 fdst)).setCell ⟨rb, 9, none⟩ (.slice Ab bl.length cb)) = wf at r9 hx ⊢
          replace B_rb := Lib.hid r9
          clear r9
          have HX_wf := Lib.hid hx
          clear hx
          have hS2 : Ex (fun k => k = rb) wb wf ∧ wf.heap[rb]? = some (.cells #[.int .u8 ftos, .int .u16 fid, .bool fdf, .bool false, .int .i64 0, .int .u8 fttl, .int .u8 fpr, .int .u32 fsrc, .int .u32 fdst, .slice Ab bl.length cb] 27) := ⟨hS1.1.trans HX_wf.out, B_rb.out⟩
          refine hK.out _ _ hS2 (fun _ => ?_)
          refine wpAnyH_take (i := 13) (oi := { dst := some 3, op := Go.Op.assign (Go.Operand.tmp 81), type := 4, pos := "frag.go:113", after := #[{ on := 11, ground := Go.Ground.data }, { on := 12, ground := Go.Ground.chain }, { on := 0, ground := Go.Ground.phase }, { on := 1, ground := Go.Ground.phase }, { on := 2, ground := Go.Ground.phase }, { on := 3, ground := Go.Ground.phase }, { on := 4, ground := Go.Ground.phase }, { on := 5, ground := Go.Ground.phase }, { on := 6, ground := Go.Ground.phase }, { on := 7, ground := Go.Ground.phase }, { on := 8, ground := Go.Ground.phase }, { on := 9, ground := Go.Ground.phase }, { on := 10, ground := Go.Ground.phase }, { on := 11, ground := Go.Ground.phase }, { on := 12, ground := Go.Ground.phase }], guard := none }) (v := ?v12) rfl (by kernel_rfl) (by kernel_rfl) (by kernel_rfl) (fun _ _ _ h => h) (Or.inl ⟨by rfl, ?hy12⟩) (by assumption) ?rest12
          case hy12 => (intro w hSw; (try dsimp only at hSw); have e0 := row_cell (k := 0) (v := .int .u8 ftos) hSw.2 rfl; have e1 := row_cell (k := 1) (v := .int .u16 fid) hSw.2 rfl; have e2 := row_cell (k := 2) (v := .bool fdf) hSw.2 rfl; have e3 := row_cell (k := 3) (v := .bool false) hSw.2 rfl; have e4 := row_cell (k := 4) (v := .int .i64 0) hSw.2 rfl; have e5 := row_cell (k := 5) (v := .int .u8 fttl) hSw.2 rfl; have e6 := row_cell (k := 6) (v := .int .u8 fpr) hSw.2 rfl; have e7 := row_cell (k := 7) (v := .int .u32 fsrc) hSw.2 rfl; have e8 := row_cell (k := 8) (v := .int .u32 fdst) hSw.2 rfl; have e9 := row_cell (k := 9) (v := .slice Ab bl.length cb) hSw.2 rfl; have ehb := hSw.1.cell chb1 ne_rb_hb.symm; have l0 := hSw.1.cell cl0 HGB.out; have l1 := hSw.1.cell cl1 HGB.out; have l2 := hSw.1.cell cl2 HGB.out; have l3 := hSw.1.cell cl3 HGB.out; have l4 := hSw.1.cell cl4 HGB.out; have l5 := hSw.1.cell cl5 HGB.out; have l6 := hSw.1.cell cl6 HGB.out; have l7 := hSw.1.cell cl7 HGB.out; have l8 := hSw.1.cell cl8 HGB.out; have l9 := hSw.1.cell cl9 HGB.out; go_simp <;> with_reducible rfl)
          try simp only [Act.put, List.setIfInBounds_toArray, List.set_cons_zero, List.set_cons_succ]
          refine wpAnyH_done (by kernel_rfl) ?_ _
          clear chb1 cl0 cl1 cl2 cl3 cl4 cl5 cl6 cl7 cl8 cl9
          go_wp2_with fail
          (try simp only [Exit.inBlock, Exit.then])
          have hw5 := ((((HX_w1.out.trans HX_w2.out).trans HX_w3.out).trans HX_w4.out).trans HX_w5.out).size
          refine bodyPost_ret (v := .tuple #[.agg #[.int .u8 ftos, .int .u16 fid, .bool fdf, .bool false, .int .i64 0, .int .u8 fttl, .int .u8 fpr, .int .u32 fsrc, .int .u32 fdst, .slice Ab bl.length cb], .bool ((bl.length : Int) == X)]) ?_ rfl ⟨(⟨ftos, fid, fdf, false, 0, fttl, fpr, fsrc, fdst, bl⟩ : Pk), Ab, bl.length, cb, ((bl.length : Int) == X), rfl, ((((((((((HX_w1.out.trans HX_w2.out).trans HX_w3.out).trans HX_w4.out).trans HX_w5.out).trans HX_wr.out).andThen HX_wa.out (fun i hi e => by have := hb_rb; omega)).andThen HX_wb.out (fun i hi e => by have := hb_rb; omega)).trans HX_wd.out).trans HX_we.out).andThen HX_wf.out (fun i hi e => by have := hb_rb; omega)), ?_⟩
          · exact results_cell_row2 (p := 2) (u := 3) rfl _ _ rb 27 #[.int .u8 ftos, .int .u16 fid, .bool fdf, .bool false, .int .i64 0, .int .u8 fttl, .int .u8 fpr, .int .u32 fsrc, .int .u32 fdst, .slice Ab bl.length cb] (0, 0) _ _ rfl rfl B_rb.out Tryd.underlying27 rfl hpr_size
          · by_cases hq : (bl.length : Int) = X
            · refine .inr ⟨⟨ss, HPERM.out, HSS.out, ?_⟩, by rw [beq_iff_eq]; exact hq, rfl, (OB.keepB (OB.keep hob.out (HX_wd.out.trans HX_we.out) (fun _ _ _ _ => id)) HX_wf.out (by omega)).mono hw5⟩
              unfold wholeQ
              rw [HF.out, HL.out, HASM.out]
              exact if_pos (by show (bl.length : Int) = ((⟨ltos, lid, ldf, lmf, loff, lttl, lpr, lsrc, ldst, lb⟩ : Pk)).en; rw [HX9.out]; exact hq)
            · refine .inl ⟨⟨ss, HPERM.out, HSS.out, ?_⟩, by rw [beq_eq_false_iff_ne]; exact hq⟩
              unfold wholeQ
              rw [HF.out, HL.out, HASM.out]
              exact if_neg (by show ¬ (bl.length : Int) = ((⟨ltos, lid, ldf, lmf, loff, lttl, lpr, lsrc, ldst, lb⟩ : Pk)).en; rw [HX9.out]; exact hq)
    ·
      obtain rfl : z2 = -1 := by injection e2 with e2; injection e2
      have HL := Lib.hid (show os.find? (fun o => !o.1.mf) = none from find_none hl2)
      clear hl2 e2 HC1 HC2
      replace B_rb := Lib.hid (((HX_w2.out.trans HX_w3.out).block rb (row_lt B_rb.out) id).trans B_rb.out)
      have crb0 := row_cell (k := 0) (v := .int .u8 0) B_rb.out rfl
      have crb1 := row_cell (k := 1) (v := .int .u16 0) B_rb.out rfl
      have crb2 := row_cell (k := 2) (v := .bool false) B_rb.out rfl
      have crb3 := row_cell (k := 3) (v := .bool false) B_rb.out rfl
      have crb4 := row_cell (k := 4) (v := .int .i64 0) B_rb.out rfl
      have crb5 := row_cell (k := 5) (v := .int .u8 0) B_rb.out rfl
      have crb6 := row_cell (k := 6) (v := .int .u8 0) B_rb.out rfl
      have crb7 := row_cell (k := 7) (v := .int .u32 0) B_rb.out rfl
      have crb8 := row_cell (k := 8) (v := .int .u32 0) B_rb.out rfl
      have crb9 := row_cell (k := 9) (v := .slice none 0 0) B_rb.out rfl
      have frb0 := row_frozen B_rb.out 0
      have frb1 := row_frozen B_rb.out 1
      have frb2 := row_frozen B_rb.out 2
      have frb3 := row_frozen B_rb.out 3
      have frb4 := row_frozen B_rb.out 4
      have frb5 := row_frozen B_rb.out 5
      have frb6 := row_frozen B_rb.out 6
      have frb7 := row_frozen B_rb.out 7
      have frb8 := row_frozen B_rb.out 8
      have frb9 := row_frozen B_rb.out 9
      go_wp2_with fail
      (try simp only [Exit.inBlock, Exit.then])
      have r0 : (w3.setCell ⟨rb, 0, none⟩ (.int .u8 0)).heap[rb]? = some (.cells #[.int .u8 0, .int .u16 0, .bool false, .bool false, .int .i64 0, .int .u8 0, .int .u8 0, .int .u32 0, .int .u32 0, .slice none 0 0] 27) := row_set B_rb.out 0 (.int .u8 0)
      have r1 : ((w3.setCell ⟨rb, 0, none⟩ (.int .u8 0)).setCell ⟨rb, 1, none⟩ (.int .u16 0)).heap[rb]? = some (.cells #[.int .u8 0, .int .u16 0, .bool false, .bool false, .int .i64 0, .int .u8 0, .int .u8 0, .int .u32 0, .int .u32 0, .slice none 0 0] 27) := row_set r0 1 (.int .u16 0)
      clear r0
      have r2 : (((w3.setCell ⟨rb, 0, none⟩ (.int .u8 0)).setCell ⟨rb, 1, none⟩ (.int .u16 0)).setCell ⟨rb, 2, none⟩ (.bool false)).heap[rb]? = some (.cells #[.int .u8 0, .int .u16 0, .bool false, .bool false, .int .i64 0, .int .u8 0, .int .u8 0, .int .u32 0, .int .u32 0, .slice none 0 0] 27) := row_set r1 2 (.bool false)
      clear r1
      have r3 : ((((w3.setCell ⟨rb, 0, none⟩ (.int .u8 0)).setCell ⟨rb, 1, none⟩ (.int .u16 0)).setCell ⟨rb, 2, none⟩ (.bool false)).setCell ⟨rb, 3, none⟩ (.bool false)).heap[rb]? = some (.cells #[.int .u8 0, .int .u16 0, .bool false, .bool false, .int .i64 0, .int .u8 0, .int .u8 0, .int .u32 0, .int .u32 0, .slice none 0 0] 27) := row_set r2 3 (.bool false)
      clear r2
      have r4 : (((((w3.setCell ⟨rb, 0, none⟩ (.int .u8 0)).setCell ⟨rb, 1, none⟩ (.int .u16 0)).setCell ⟨rb, 2, none⟩ (.bool false)).setCell ⟨rb, 3, none⟩ (.bool false)).setCell ⟨rb, 4, none⟩ (.int .i64 0)).heap[rb]? = some (.cells #[.int .u8 0, .int .u16 0, .bool false, .bool false, .int .i64 0, .int .u8 0, .int .u8 0, .int .u32 0, .int .u32 0, .slice none 0 0] 27) := row_set r3 4 (.int .i64 0)
      clear r3
      have r5 : ((((((w3.setCell ⟨rb, 0, none⟩ (.int .u8 0)).setCell ⟨rb, 1, none⟩ (.int .u16 0)).setCell ⟨rb, 2, none⟩ (.bool false)).setCell ⟨rb, 3, none⟩ (.bool false)).setCell ⟨rb, 4, none⟩ (.int .i64 0)).setCell ⟨rb, 5, none⟩ (.int .u8 0)).heap[rb]? = some (.cells #[.int .u8 0, .int .u16 0, .bool false, .bool false, .int .i64 0, .int .u8 0, .int .u8 0, .int .u32 0, .int .u32 0, .slice none 0 0] 27) := row_set r4 5 (.int .u8 0)
      clear r4
      have r6 : (((((((w3.setCell ⟨rb, 0, none⟩ (.int .u8 0)).setCell ⟨rb, 1, none⟩ (.int .u16 0)).setCell ⟨rb, 2, none⟩ (.bool false)).setCell ⟨rb, 3, none⟩ (.bool false)).setCell ⟨rb, 4, none⟩ (.int .i64 0)).setCell ⟨rb, 5, none⟩ (.int .u8 0)).setCell ⟨rb, 6, none⟩ (.int .u8 0)).heap[rb]? = some (.cells #[.int .u8 0, .int .u16 0, .bool false, .bool false, .int .i64 0, .int .u8 0, .int .u8 0, .int .u32 0, .int .u32 0, .slice none 0 0] 27) := row_set r5 6 (.int .u8 0)
      clear r5
      have r7 : ((((((((w3.setCell ⟨rb, 0, none⟩ (.int .u8 0)).setCell ⟨rb, 1, none⟩ (.int .u16 0)).setCell ⟨rb, 2, none⟩ (.bool false)).setCell ⟨rb, 3, none⟩ (.bool false)).setCell ⟨rb, 4, none⟩ (.int .i64 0)).setCell ⟨rb, 5, none⟩ (.int .u8 0)).setCell ⟨rb, 6, none⟩ (.int .u8 0)).setCell ⟨rb, 7, none⟩ (.int .u32 0)).heap[rb]? = some (.cells #[.int .u8 0, .int .u16 0, .bool false, .bool false, .int .i64 0, .int .u8 0, .int .u8 0, .int .u32 0, .int .u32 0, .slice none 0 0] 27) := row_set r6 7 (.int .u32 0)
      clear r6
      have r8 : (((((((((w3.setCell ⟨rb, 0, none⟩ (.int .u8 0)).setCell ⟨rb, 1, none⟩ (.int .u16 0)).setCell ⟨rb, 2, none⟩ (.bool false)).setCell ⟨rb, 3, none⟩ (.bool false)).setCell ⟨rb, 4, none⟩ (.int .i64 0)).setCell ⟨rb, 5, none⟩ (.int .u8 0)).setCell ⟨rb, 6, none⟩ (.int .u8 0)).setCell ⟨rb, 7, none⟩ (.int .u32 0)).setCell ⟨rb, 8, none⟩ (.int .u32 0)).heap[rb]? = some (.cells #[.int .u8 0, .int .u16 0, .bool false, .bool false, .int .i64 0, .int .u8 0, .int .u8 0, .int .u32 0, .int .u32 0, .slice none 0 0] 27) := row_set r7 8 (.int .u32 0)
      clear r7
      have r9 : ((((((((((w3.setCell ⟨rb, 0, none⟩ (.int .u8 0)).setCell ⟨rb, 1, none⟩ (.int .u16 0)).setCell ⟨rb, 2, none⟩ (.bool false)).setCell ⟨rb, 3, none⟩ (.bool false)).setCell ⟨rb, 4, none⟩ (.int .i64 0)).setCell ⟨rb, 5, none⟩ (.int .u8 0)).setCell ⟨rb, 6, none⟩ (.int .u8 0)).setCell ⟨rb, 7, none⟩ (.int .u32 0)).setCell ⟨rb, 8, none⟩ (.int .u32 0)).setCell ⟨rb, 9, none⟩ (.slice none 0 0)).heap[rb]? = some (.cells #[.int .u8 0, .int .u16 0, .bool false, .bool false, .int .i64 0, .int .u8 0, .int .u8 0, .int .u32 0, .int .u32 0, .slice none 0 0] 27) := row_set r8 9 (.slice none 0 0)
      clear r8
      have hx : Ex (fun j => j = rb) w3 ((((((((((w3.setCell ⟨rb, 0, none⟩ (.int .u8 0)).setCell ⟨rb, 1, none⟩ (.int .u16 0)).setCell ⟨rb, 2, none⟩ (.bool false)).setCell ⟨rb, 3, none⟩ (.bool false)).setCell ⟨rb, 4, none⟩ (.int .i64 0)).setCell ⟨rb, 5, none⟩ (.int .u8 0)).setCell ⟨rb, 6, none⟩ (.int .u8 0)).setCell ⟨rb, 7, none⟩ (.int .u32 0)).setCell ⟨rb, 8, none⟩ (.int .u32 0)).setCell ⟨rb, 9, none⟩ (.slice none 0 0)) := (((((((((((Ex.refl (fun j => j = rb) w3).setCell (p := ⟨rb, 0, none⟩) (.inl rfl) (.int .u8 0)).setCell (p := ⟨rb, 1, none⟩) (.inl rfl) (.int .u16 0)).setCell (p := ⟨rb, 2, none⟩) (.inl rfl) (.bool false)).setCell (p := ⟨rb, 3, none⟩) (.inl rfl) (.bool false)).setCell (p := ⟨rb, 4, none⟩) (.inl rfl) (.int .i64 0)).setCell (p := ⟨rb, 5, none⟩) (.inl rfl) (.int .u8 0)).setCell (p := ⟨rb, 6, none⟩) (.inl rfl) (.int .u8 0)).setCell (p := ⟨rb, 7, none⟩) (.inl rfl) (.int .u32 0)).setCell (p := ⟨rb, 8, none⟩) (.inl rfl) (.int .u32 0)).setCell (p := ⟨rb, 9, none⟩) (.inl rfl) (.slice none 0 0))
      clear crb0 crb1 crb2 crb3 crb4 crb5 crb6 crb7 crb8 crb9 frb0 frb1 frb2 frb3 frb4 frb5 frb6 frb7 frb8 frb9
      generalize ((((((((((w3.setCell ⟨rb, 0, none⟩ (.int .u8 0)).setCell ⟨rb, 1, none⟩ (.int .u16 0)).setCell ⟨rb, 2, none⟩ (.bool false)).setCell ⟨rb, 3, none⟩ (.bool false)).setCell ⟨rb, 4, none⟩ (.int .i64 0)).setCell ⟨rb, 5, none⟩ (.int .u8 0)).setCell ⟨rb, 6, none⟩ (.int .u8 0)).setCell ⟨rb, 7, none⟩ (.int .u32 0)).setCell ⟨rb, 8, none⟩ (.int .u32 0)).setCell ⟨rb, 9, none⟩ (.slice none 0 0)) = wz at r9 hx ⊢
      replace B_rb := Lib.hid r9
      clear r9
      have HX_wz := Lib.hid hx
      clear hx
      refine bodyPost_ret (v := .tuple #[.agg #[.int .u8 0, .int .u16 0, .bool false, .bool false, .int .i64 0, .int .u8 0, .int .u8 0, .int .u32 0, .int .u32 0, .slice none 0 0], .bool false]) ?_ rfl ⟨nopk, none, 0, 0, false, rfl, (((HX_w1.out.trans HX_w2.out).trans HX_w3.out).andThen HX_wz.out (fun i hi e => by have := hb_rb; omega)), .inl ⟨WH.of fun L => by unfold wholeQ; rw [HF.out, HL.out], rfl⟩⟩
      exact results_cell_row2 (p := 2) (u := 3) rfl _ _ rb 27 #[.int .u8 0, .int .u16 0, .bool false, .bool false, .int .i64 0, .int .u8 0, .int .u8 0, .int .u32 0, .int .u32 0, .slice none 0 0] (0, 0) _ _ rfl rfl B_rb.out Tryd.underlying27 rfl hpr_size
  ·
    obtain rfl : z1 = -1 := by injection e1 with e1; injection e1
    have HF := Lib.hid (show os.find? (fun o => o.1.off == 0) = none from find_none hf2)
    clear hf2 e1 HC1 HC2
    replace B_rb := Lib.hid (((HX_w2.out.trans HX_w3.out).block rb (row_lt B_rb.out) id).trans B_rb.out)
    have crb0 := row_cell (k := 0) (v := .int .u8 0) B_rb.out rfl
    have crb1 := row_cell (k := 1) (v := .int .u16 0) B_rb.out rfl
    have crb2 := row_cell (k := 2) (v := .bool false) B_rb.out rfl
    have crb3 := row_cell (k := 3) (v := .bool false) B_rb.out rfl
    have crb4 := row_cell (k := 4) (v := .int .i64 0) B_rb.out rfl
    have crb5 := row_cell (k := 5) (v := .int .u8 0) B_rb.out rfl
    have crb6 := row_cell (k := 6) (v := .int .u8 0) B_rb.out rfl
    have crb7 := row_cell (k := 7) (v := .int .u32 0) B_rb.out rfl
    have crb8 := row_cell (k := 8) (v := .int .u32 0) B_rb.out rfl
    have crb9 := row_cell (k := 9) (v := .slice none 0 0) B_rb.out rfl
    have frb0 := row_frozen B_rb.out 0
    have frb1 := row_frozen B_rb.out 1
    have frb2 := row_frozen B_rb.out 2
    have frb3 := row_frozen B_rb.out 3
    have frb4 := row_frozen B_rb.out 4
    have frb5 := row_frozen B_rb.out 5
    have frb6 := row_frozen B_rb.out 6
    have frb7 := row_frozen B_rb.out 7
    have frb8 := row_frozen B_rb.out 8
    have frb9 := row_frozen B_rb.out 9
    go_wp2_with fail
    (try simp only [Exit.inBlock, Exit.then])
    have r0 : (w3.setCell ⟨rb, 0, none⟩ (.int .u8 0)).heap[rb]? = some (.cells #[.int .u8 0, .int .u16 0, .bool false, .bool false, .int .i64 0, .int .u8 0, .int .u8 0, .int .u32 0, .int .u32 0, .slice none 0 0] 27) := row_set B_rb.out 0 (.int .u8 0)
    have r1 : ((w3.setCell ⟨rb, 0, none⟩ (.int .u8 0)).setCell ⟨rb, 1, none⟩ (.int .u16 0)).heap[rb]? = some (.cells #[.int .u8 0, .int .u16 0, .bool false, .bool false, .int .i64 0, .int .u8 0, .int .u8 0, .int .u32 0, .int .u32 0, .slice none 0 0] 27) := row_set r0 1 (.int .u16 0)
    clear r0
    have r2 : (((w3.setCell ⟨rb, 0, none⟩ (.int .u8 0)).setCell ⟨rb, 1, none⟩ (.int .u16 0)).setCell ⟨rb, 2, none⟩ (.bool false)).heap[rb]? = some (.cells #[.int .u8 0, .int .u16 0, .bool false, .bool false, .int .i64 0, .int .u8 0, .int .u8 0, .int .u32 0, .int .u32 0, .slice none 0 0] 27) := row_set r1 2 (.bool false)
    clear r1
    have r3 : ((((w3.setCell ⟨rb, 0, none⟩ (.int .u8 0)).setCell ⟨rb, 1, none⟩ (.int .u16 0)).setCell ⟨rb, 2, none⟩ (.bool false)).setCell ⟨rb, 3, none⟩ (.bool false)).heap[rb]? = some (.cells #[.int .u8 0, .int .u16 0, .bool false, .bool false, .int .i64 0, .int .u8 0, .int .u8 0, .int .u32 0, .int .u32 0, .slice none 0 0] 27) := row_set r2 3 (.bool false)
    clear r2
    have r4 : (((((w3.setCell ⟨rb, 0, none⟩ (.int .u8 0)).setCell ⟨rb, 1, none⟩ (.int .u16 0)).setCell ⟨rb, 2, none⟩ (.bool false)).setCell ⟨rb, 3, none⟩ (.bool false)).setCell ⟨rb, 4, none⟩ (.int .i64 0)).heap[rb]? = some (.cells #[.int .u8 0, .int .u16 0, .bool false, .bool false, .int .i64 0, .int .u8 0, .int .u8 0, .int .u32 0, .int .u32 0, .slice none 0 0] 27) := row_set r3 4 (.int .i64 0)
    clear r3
    have r5 : ((((((w3.setCell ⟨rb, 0, none⟩ (.int .u8 0)).setCell ⟨rb, 1, none⟩ (.int .u16 0)).setCell ⟨rb, 2, none⟩ (.bool false)).setCell ⟨rb, 3, none⟩ (.bool false)).setCell ⟨rb, 4, none⟩ (.int .i64 0)).setCell ⟨rb, 5, none⟩ (.int .u8 0)).heap[rb]? = some (.cells #[.int .u8 0, .int .u16 0, .bool false, .bool false, .int .i64 0, .int .u8 0, .int .u8 0, .int .u32 0, .int .u32 0, .slice none 0 0] 27) := row_set r4 5 (.int .u8 0)
    clear r4
    have r6 : (((((((w3.setCell ⟨rb, 0, none⟩ (.int .u8 0)).setCell ⟨rb, 1, none⟩ (.int .u16 0)).setCell ⟨rb, 2, none⟩ (.bool false)).setCell ⟨rb, 3, none⟩ (.bool false)).setCell ⟨rb, 4, none⟩ (.int .i64 0)).setCell ⟨rb, 5, none⟩ (.int .u8 0)).setCell ⟨rb, 6, none⟩ (.int .u8 0)).heap[rb]? = some (.cells #[.int .u8 0, .int .u16 0, .bool false, .bool false, .int .i64 0, .int .u8 0, .int .u8 0, .int .u32 0, .int .u32 0, .slice none 0 0] 27) := row_set r5 6 (.int .u8 0)
    clear r5
    have r7 : ((((((((w3.setCell ⟨rb, 0, none⟩ (.int .u8 0)).setCell ⟨rb, 1, none⟩ (.int .u16 0)).setCell ⟨rb, 2, none⟩ (.bool false)).setCell ⟨rb, 3, none⟩ (.bool false)).setCell ⟨rb, 4, none⟩ (.int .i64 0)).setCell ⟨rb, 5, none⟩ (.int .u8 0)).setCell ⟨rb, 6, none⟩ (.int .u8 0)).setCell ⟨rb, 7, none⟩ (.int .u32 0)).heap[rb]? = some (.cells #[.int .u8 0, .int .u16 0, .bool false, .bool false, .int .i64 0, .int .u8 0, .int .u8 0, .int .u32 0, .int .u32 0, .slice none 0 0] 27) := row_set r6 7 (.int .u32 0)
    clear r6
    have r8 : (((((((((w3.setCell ⟨rb, 0, none⟩ (.int .u8 0)).setCell ⟨rb, 1, none⟩ (.int .u16 0)).setCell ⟨rb, 2, none⟩ (.bool false)).setCell ⟨rb, 3, none⟩ (.bool false)).setCell ⟨rb, 4, none⟩ (.int .i64 0)).setCell ⟨rb, 5, none⟩ (.int .u8 0)).setCell ⟨rb, 6, none⟩ (.int .u8 0)).setCell ⟨rb, 7, none⟩ (.int .u32 0)).setCell ⟨rb, 8, none⟩ (.int .u32 0)).heap[rb]? = some (.cells #[.int .u8 0, .int .u16 0, .bool false, .bool false, .int .i64 0, .int .u8 0, .int .u8 0, .int .u32 0, .int .u32 0, .slice none 0 0] 27) := row_set r7 8 (.int .u32 0)
    clear r7
    have r9 : ((((((((((w3.setCell ⟨rb, 0, none⟩ (.int .u8 0)).setCell ⟨rb, 1, none⟩ (.int .u16 0)).setCell ⟨rb, 2, none⟩ (.bool false)).setCell ⟨rb, 3, none⟩ (.bool false)).setCell ⟨rb, 4, none⟩ (.int .i64 0)).setCell ⟨rb, 5, none⟩ (.int .u8 0)).setCell ⟨rb, 6, none⟩ (.int .u8 0)).setCell ⟨rb, 7, none⟩ (.int .u32 0)).setCell ⟨rb, 8, none⟩ (.int .u32 0)).setCell ⟨rb, 9, none⟩ (.slice none 0 0)).heap[rb]? = some (.cells #[.int .u8 0, .int .u16 0, .bool false, .bool false, .int .i64 0, .int .u8 0, .int .u8 0, .int .u32 0, .int .u32 0, .slice none 0 0] 27) := row_set r8 9 (.slice none 0 0)
    clear r8
    have hx : Ex (fun j => j = rb) w3 ((((((((((w3.setCell ⟨rb, 0, none⟩ (.int .u8 0)).setCell ⟨rb, 1, none⟩ (.int .u16 0)).setCell ⟨rb, 2, none⟩ (.bool false)).setCell ⟨rb, 3, none⟩ (.bool false)).setCell ⟨rb, 4, none⟩ (.int .i64 0)).setCell ⟨rb, 5, none⟩ (.int .u8 0)).setCell ⟨rb, 6, none⟩ (.int .u8 0)).setCell ⟨rb, 7, none⟩ (.int .u32 0)).setCell ⟨rb, 8, none⟩ (.int .u32 0)).setCell ⟨rb, 9, none⟩ (.slice none 0 0)) := (((((((((((Ex.refl (fun j => j = rb) w3).setCell (p := ⟨rb, 0, none⟩) (.inl rfl) (.int .u8 0)).setCell (p := ⟨rb, 1, none⟩) (.inl rfl) (.int .u16 0)).setCell (p := ⟨rb, 2, none⟩) (.inl rfl) (.bool false)).setCell (p := ⟨rb, 3, none⟩) (.inl rfl) (.bool false)).setCell (p := ⟨rb, 4, none⟩) (.inl rfl) (.int .i64 0)).setCell (p := ⟨rb, 5, none⟩) (.inl rfl) (.int .u8 0)).setCell (p := ⟨rb, 6, none⟩) (.inl rfl) (.int .u8 0)).setCell (p := ⟨rb, 7, none⟩) (.inl rfl) (.int .u32 0)).setCell (p := ⟨rb, 8, none⟩) (.inl rfl) (.int .u32 0)).setCell (p := ⟨rb, 9, none⟩) (.inl rfl) (.slice none 0 0))
    clear crb0 crb1 crb2 crb3 crb4 crb5 crb6 crb7 crb8 crb9 frb0 frb1 frb2 frb3 frb4 frb5 frb6 frb7 frb8 frb9
    generalize ((((((((((w3.setCell ⟨rb, 0, none⟩ (.int .u8 0)).setCell ⟨rb, 1, none⟩ (.int .u16 0)).setCell ⟨rb, 2, none⟩ (.bool false)).setCell ⟨rb, 3, none⟩ (.bool false)).setCell ⟨rb, 4, none⟩ (.int .i64 0)).setCell ⟨rb, 5, none⟩ (.int .u8 0)).setCell ⟨rb, 6, none⟩ (.int .u8 0)).setCell ⟨rb, 7, none⟩ (.int .u32 0)).setCell ⟨rb, 8, none⟩ (.int .u32 0)).setCell ⟨rb, 9, none⟩ (.slice none 0 0)) = wz at r9 hx ⊢
    replace B_rb := Lib.hid r9
    clear r9
    have HX_wz := Lib.hid hx
    clear hx
    refine bodyPost_ret (v := .tuple #[.agg #[.int .u8 0, .int .u16 0, .bool false, .bool false, .int .i64 0, .int .u8 0, .int .u8 0, .int .u32 0, .int .u32 0, .slice none 0 0], .bool false]) ?_ rfl ⟨nopk, none, 0, 0, false, rfl, (((HX_w1.out.trans HX_w2.out).trans HX_w3.out).andThen HX_wz.out (fun i hi e => by have := hb_rb; omega)), .inl ⟨WH.of fun L => by unfold wholeQ; rw [HF.out], rfl⟩⟩
    exact results_cell_row2 (p := 2) (u := 3) rfl _ _ rb 27 #[.int .u8 0, .int .u16 0, .bool false, .bool false, .int .i64 0, .int .u8 0, .int .u8 0, .int .u32 0, .int .u32 0, .slice none 0 0] (0, 0) _ _ rfl rfl B_rb.out Tryd.underlying27 rfl hpr_size
end Go.Proofs.YtabjihchcmjdmaaDoor
/-
  Parts of one packet, put together: the packet, if every place is there; nothing, as long as one is not. By an AI agent.
-/
namespace Go.Proofs.YtabjihchcmjdmaaDoor
open Go.RowKit

theorem snoc_ind {α : Type} {P : List α → Prop} (h0 : P []) (h1 : ∀ L x, P L → P (L ++ [x])) (L : List α) : P L := by
  have key : ∀ R : List α, P R.reverse := by
    intro R
    induction R with
    | nil => exact h0
    | cons x R ih => rw [List.reverse_cons]; exact h1 _ _ ih
  have := key L.reverse
  rwa [List.reverse_reverse] at this
/-- x's bytes are those of pb at its place -/
def Win (pb : List UInt8) (x : Pk) : Prop := 0 ≤ x.off ∧ x.off.toNat + x.b.length ≤ pb.length ∧ x.b = (pb.drop x.off.toNat).take x.b.length
theorem stp_win {pb : List UInt8} {x : Pk} {k : Nat} (h : Win pb x) (hk : k ≤ pb.length) : stp x (pb.take k) = if (k : Int) < x.off then none else some (pb.take (max k (x.off.toNat + x.b.length))) := by
  obtain ⟨h0, h1, h2⟩ := h
  obtain ⟨a, ha⟩ := Int.eq_ofNat_of_zero_le h0
  unfold stp Pk.en
  rw [ha] at h0 h1 h2 ⊢
  simp only [Int.toNat_natCast] at h1 h2 ⊢
  rw [List.length_take, Nat.min_eq_left hk]
  by_cases e1 : (k : Int) < (a : Int)
  · rw [if_pos e1, if_pos e1]
  · rw [if_neg e1, if_neg e1]
    by_cases e2 : (k : Int) < (a : Int) + (x.b.length : Int)
    · rw [if_pos e2]
      have e3 : ((k : Int) - (a : Int)).toNat = k - a := by omega
      rw [e3, h2, List.drop_take, List.drop_drop, show a + (k - a) = k by omega, ← h2, Nat.max_eq_right (by omega)]
      congr 1
      rw [show a + x.b.length = k + (x.b.length - (k - a)) by omega, List.take_add]
    · rw [if_neg e2, Nat.max_eq_left (by omega)]
theorem asm_gap {pb : List UInt8} (i : Nat) : ∀ L : List Pk, (∀ x ∈ L, Win pb x) → (∀ x ∈ L, ¬ (x.off ≤ (i : Int) ∧ (i : Int) < x.en)) → asm L = none ∨ ∃ k, k ≤ i ∧ k ≤ pb.length ∧ asm L = some (pb.take k) := by
  refine snoc_ind ?_ ?_
  · exact fun _ _ => .inr ⟨0, Nat.zero_le _, Nat.zero_le _, rfl⟩
  · intro L x ih
    intro hw hn
    have hx := hw x (by simp)
    have nx := hn x (by simp)
    rw [asm_snoc]
    rcases ih (fun y hy => hw y (by simp [hy])) (fun y hy => hn y (by simp [hy])) with h | ⟨k, h1, h2, h3⟩
    · rw [h]; exact .inl rfl
    · rw [h3, Option.bind_some, stp_win hx h2]
      by_cases e : (k : Int) < x.off
      · rw [if_pos e]; exact .inl rfl
      · rw [if_neg e]
        obtain ⟨g0, g1, _⟩ := hx
        unfold Pk.en at nx
        refine .inr ⟨_, ?_, ?_, rfl⟩ <;> omega
theorem asm_cov {pb : List UInt8} : ∀ L : List Pk, (∀ x ∈ L, Win pb x) → L.Pairwise (fun x y => x.off ≤ y.off) →
    (∃ k, k ≤ pb.length ∧ asm L = some (pb.take k) ∧ ∀ x ∈ L, x.en ≤ (k : Int)) ∨ (∃ i : Nat, i < pb.length ∧ (∀ x ∈ L, ¬ (x.off ≤ (i : Int) ∧ (i : Int) < x.en)) ∧ ∃ y ∈ L, (i : Int) < y.off) := by
  refine snoc_ind ?_ ?_
  · exact fun _ _ => .inl ⟨0, Nat.zero_le _, rfl, fun x hx => by simp at hx⟩
  · intro L x ih
    intro hw hs
    rw [List.pairwise_append] at hs
    obtain ⟨s1, _, s2⟩ := hs
    have hx := hw x (by simp)
    have hle := fun y hy => s2 y hy x (by simp)
    rcases ih (fun y hy => hw y (by simp [hy])) s1 with ⟨k, h1, h2, h3⟩ | ⟨i, h1, h2, y, hy, h3⟩
    · rw [asm_snoc, h2, Option.bind_some, stp_win hx h1]
      obtain ⟨g0, g1, _⟩ := hx
      by_cases e : (k : Int) < x.off
      · refine .inr ⟨k, by omega, fun y hy => ?_, x, by simp, e⟩
        rcases List.mem_append.1 hy with hy | hy
        · have := h3 y hy
          omega
        · rw [List.mem_singleton] at hy
          subst hy
          omega
      · rw [if_neg e]
        refine .inl ⟨_, ?_, rfl, fun y hy => ?_⟩
        · omega
        · rcases List.mem_append.1 hy with hy | hy
          · have := h3 y hy
            omega
          · rw [List.mem_singleton] at hy
            subst hy
            unfold Pk.en
            omega
    · have h4 := hle y hy
      refine .inr ⟨i, h1, fun z hz => ?_, y, by simp [hy], h3⟩
      rcases List.mem_append.1 hz with hz | hz
      · exact h2 z hz
      · rw [List.mem_singleton] at hz
        subst hz
        omega
theorem asm_all {pb : List UInt8} (L : List Pk) (hw : ∀ x ∈ L, Win pb x) (hs : L.Pairwise (fun x y => x.off ≤ y.off)) (hc : ∀ i : Nat, i < pb.length → ∃ x ∈ L, x.off ≤ (i : Int) ∧ (i : Int) < x.en) : asm L = some pb := by
  rcases asm_cov L hw hs with ⟨k, h1, h2, h3⟩ | ⟨i, h1, h2, _⟩
  · rcases Nat.lt_or_ge k pb.length with h | h
    · obtain ⟨x, hx, h4, h5⟩ := hc k h
      have := h3 x hx
      omega
    · rw [h2, List.take_of_length_le h]
  · obtain ⟨x, hx, h4⟩ := hc i h1
    exact absurd h4 (h2 x hx)
/-- x is a part of packet p (which is no part itself) -/
def Part (p x : Pk) : Prop := x = { p with off := x.off, mf := x.mf, b := x.b } ∧ Win p.b x ∧ (x.mf = false ↔ x.en = (p.b.length : Int))
theorem sorted_os {os L : List Po} (h1 : L.Perm os) (h2 : L.Pairwise (fun x y => x.1.off ≤ y.1.off)) : (∀ x, x ∈ L.map Prod.fst ↔ x ∈ os.map Prod.fst) ∧ (L.map Prod.fst).Pairwise (fun x y => x.off ≤ y.off) := by
  refine ⟨fun x => ((h1.map Prod.fst).mem_iff), ?_⟩
  rw [List.pairwise_map]
  exact h2
theorem whole_all {p : Pk} (h0 : p.off = 0) (hm : p.mf = false) (os : List Po) (hp : ∀ o ∈ os, Part p o.1) (hne : 0 < p.b.length) (hc : ∀ i : Nat, i < p.b.length → ∃ o ∈ os, o.1.off ≤ (i : Int) ∧ (i : Int) < o.1.en)  {r : Option Pk} (hr : WH os r) : r = some p := by
  obtain ⟨L, q1, q2, rfl⟩ := hr
  obtain ⟨s1, s2⟩ := sorted_os q1 q2
  have ha : asm (L.map Prod.fst) = some p.b := by
    refine asm_all _ (fun x hx => ?_) s2 (fun i hi => ?_)
    · obtain ⟨o, ho, rfl⟩ := List.mem_map.1 ((s1 x).1 hx)
      exact (hp o ho).2.1
    · obtain ⟨o, ho, h⟩ := hc i hi
      exact ⟨o.1, (s1 _).2 (List.mem_map_of_mem ho), h⟩
  obtain ⟨f, hf⟩ : ∃ f, os.find? (fun o => o.1.off == 0) = some f := by
    obtain ⟨o, ho, h1, _⟩ := hc 0 hne
    have := (hp o ho).2.1.1
    have : (os.find? (fun o => o.1.off == 0)).isSome = true := by
      rw [List.find?_isSome]
      exact ⟨o, ho, by simp; omega⟩
    exact Option.isSome_iff_exists.1 this
  obtain ⟨l, hl⟩ : ∃ l, os.find? (fun o => !o.1.mf) = some l := by
    obtain ⟨o, ho, h1, h2⟩ := hc (p.b.length - 1) (by omega)
    have hw := (hp o ho).2.1
    have he : o.1.mf = false := by
      rw [(hp o ho).2.2]
      obtain ⟨g0, g1, _⟩ := hw
      unfold Pk.en at h2 ⊢
      omega
    have : (os.find? (fun o => !o.1.mf)).isSome = true := by
      rw [List.find?_isSome]
      exact ⟨o, ho, by simp [he]⟩
    exact Option.isSome_iff_exists.1 this
  unfold wholeQ
  rw [hf, hl, ha]
  have hlm := List.mem_of_find?_eq_some hl
  have hle : l.1.en = (p.b.length : Int) := by
    have := List.find?_some hl
    rw [← (hp l hlm).2.2]
    simpa using this
  simp only
  rw [if_pos hle.symm]
  have hfm := List.mem_of_find?_eq_some hf
  have e := (hp f hfm).1
  rw [e]
  obtain ⟨tos, ident, df, mf, off, ttl, pr, src, dst, b⟩ := p
  simp only at h0 hm ⊢
  rw [h0, hm]
theorem whole_gap {p : Pk} (os : List Po) (hp : ∀ o ∈ os, Part p o.1) (i : Nat) (hi : i < p.b.length) (hn : ∀ o ∈ os, ¬ (o.1.off ≤ (i : Int) ∧ (i : Int) < o.1.en))  {r : Option Pk} (hr : WH os r) : r = none := by
  obtain ⟨L, q1, q2, rfl⟩ := hr
  obtain ⟨s1, _⟩ := sorted_os q1 q2
  have ha := asm_gap (pb := p.b) i (L.map Prod.fst) (fun x hx => by
    obtain ⟨o, ho, rfl⟩ := List.mem_map.1 ((s1 x).1 hx)
    exact (hp o ho).2.1) (fun x hx => by
    obtain ⟨o, ho, rfl⟩ := List.mem_map.1 ((s1 x).1 hx)
    exact hn o ho)
  unfold wholeQ
  cases hf : os.find? (fun o => o.1.off == 0) with
  | none => rfl
  | some f =>
    cases hl : os.find? (fun o => !o.1.mf) with
    | none => rfl
    | some l =>
      have hlm := List.mem_of_find?_eq_some hl
      have hle : l.1.en = (p.b.length : Int) := by
        have := List.find?_some hl
        rw [← (hp l hlm).2.2]
        simpa using this
      rcases ha with h | ⟨k, h1, h2, h3⟩
      · rw [h]
      · rw [h3]
        simp only
        rw [if_neg (by rw [hle, List.length_take, Nat.min_eq_left h2]; omega)]
theorem whole_nofirst {os : List Po} (h : ∀ o ∈ os, o.1.off ≠ 0)  {r : Option Pk} (hr : WH os r) : r = none := by
  obtain ⟨L, _, _, rfl⟩ := hr
  unfold wholeQ
  rw [find_none (f := fun o => o.1.off == 0) (fun o ho => by simpa using h o ho)]
theorem whole_nolast {os : List Po} (h : ∀ o ∈ os, o.1.mf = true)  {r : Option Pk} (hr : WH os r) : r = none := by
  obtain ⟨L, _, _, rfl⟩ := hr
  unfold wholeQ
  rw [find_none (f := fun o => !o.1.mf) (fun o ho => by simp [h o ho])]
  cases os.find? (fun o => o.1.off == 0) <;> rfl
end Go.Proofs.YtabjihchcmjdmaaDoor
