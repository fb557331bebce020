/-
  The walk of Ipv4Spoilt. By an AI agent.
-/
import Derived.Test.YtfcfpkhcpijkfaaDoorShown05
import Derived.Test.YtfcfpkhcpijkfaaDoorStr
import Derived.Test.YtfcfpkhcpijkfaaDoorIpLaw
namespace Go.Proofs.YtfcfpkhcpijkfaaDoor
open Go.RowKit

set_option maxRecDepth 100000 in
set_option maxHeartbeats 8000000 in
theorem spoilt05_any (p : Pk) (A : Option Addr) (c : Nat) (at' : Int) (y : UInt8) (cut : Int) (w : World) (ok : p.ok) (hp : RB w (fun _ => True) (.slice A p.b.length c) p.b) (hg : ET w) :
    Calls Tryd.prog 10 #[pkv p (.slice A p.b.length c), .int .i64 at', .int .u8 (y.toNat : Int), .int .i64 cut] w fun e w' => e = .returned (.bool true) ∧ Ex (fun _ => False) w w' := by
  obtain ⟨xtos, xid, xdf, xmf, xoff, xttl, xpr, xsrc, xdst, xb⟩ := p
  simp only at hp
  have HG := Lib.hid hg
  have HP := Lib.hid hp
  have OKP := Lib.hid ok
  clear hp ok hg
  have a1 := and_i64 cut
  have a2 := and_i64 at'
  obtain ⟨n1, hn1⟩ : ∃ n : Nat, cut % 65536 = (n : Int) := ⟨(cut % 65536).toNat, by omega⟩
  obtain ⟨n2, hn2⟩ : ∃ n : Nat, at' % 65536 = (n : Int) := ⟨(at' % 65536).toNat, by omega⟩
  rw [hn1] at a1
  rw [hn2] at a2
  have A1 := Lib.hid a1
  have A2 := Lib.hid a2
  clear a1 a2 hn1 hn2
  show Calls Tryd.prog 10 #[.agg #[.int .u8 xtos, .int .u16 xid, .bool xdf, .bool xmf, .int .i64 xoff, .int .u8 xttl, .int .u8 xpr, .int .u32 xsrc, .int .u32 xdst, .slice A xb.length c], .int .i64 at', .int .u8 (y.toNat : Int), .int .i64 cut] w _
  go_enter Tryd.func10, Tryd.ntmps10
  go_upto_region 1 with fail
  have hx : Ex (fun _ => False) w (w.alloc (.cells #[.int .u8 xtos, .int .u16 xid, .bool xdf, .bool xmf, .int .i64 xoff, .int .u8 xttl, .int .u8 xpr, .int .u32 xsrc, .int .u32 xdst, .slice A xb.length c] 51)) := (Ex.refl _ w).alloc _
  have hb : (w.alloc (.cells #[.int .u8 xtos, .int .u16 xid, .bool xdf, .bool xmf, .int .i64 xoff, .int .u8 xttl, .int .u8 xpr, .int .u32 xsrc, .int .u32 xdst, .slice A xb.length c] 51)).heap[w.heap.size]? = some (.cells #[.int .u8 xtos, .int .u16 xid, .bool xdf, .bool xmf, .int .i64 xoff, .int .u8 xttl, .int .u8 xpr, .int .u32 xsrc, .int .u32 xdst, .slice A xb.length c] 51) := heap_alloc_new w _
  obtain ⟨bp, hbp⟩ : ∃ bp, bp = w.heap.size := ⟨_, rfl⟩
  have hb_bp : w.heap.size ≤ bp := by omega
  rw [← hbp] at hb
  try simp only [← hbp]
  generalize w.alloc (.cells #[.int .u8 xtos, .int .u16 xid, .bool xdf, .bool xmf, .int .i64 xoff, .int .u8 xttl, .int .u8 xpr, .int .u32 xsrc, .int .u32 xdst, .slice A xb.length c] 51) = w1 at hx hb ⊢
  clear hbp
  have HX_w1 := Lib.hid hx
  clear hx
  have B_bp := Lib.hid hb
  clear hb
  go_wp2_with fail
  refine (shown5_any w1 (HG.out.keep HX_w1.out id)).mono ?_
  rintro e w2 ⟨rfl, hx⟩
  have HX_w2 := Lib.hid hx
  clear hx
  replace B_bp := Lib.hid ((HX_w2.out.block bp (row_lt B_bp.out) id).trans B_bp.out)
  have cbp0 := row_cell (k := 0) (v := .int .u8 xtos) B_bp.out rfl
  have cbp1 := row_cell (k := 1) (v := .int .u16 xid) B_bp.out rfl
  have cbp2 := row_cell (k := 2) (v := .bool xdf) B_bp.out rfl
  have cbp3 := row_cell (k := 3) (v := .bool xmf) B_bp.out rfl
  have cbp4 := row_cell (k := 4) (v := .int .i64 xoff) B_bp.out rfl
  have cbp5 := row_cell (k := 5) (v := .int .u8 xttl) B_bp.out rfl
  have cbp6 := row_cell (k := 6) (v := .int .u8 xpr) B_bp.out rfl
  have cbp7 := row_cell (k := 7) (v := .int .u32 xsrc) B_bp.out rfl
  have cbp8 := row_cell (k := 8) (v := .int .u32 xdst) B_bp.out rfl
  have cbp9 := row_cell (k := 9) (v := .slice A xb.length c) B_bp.out rfl
  go_wp2_with fail
  refine (few5_any _ (⟨xtos, xid, xdf, xmf, xoff, xttl, xpr, xsrc, xdst, xb⟩ : Pk) A c w2 (RB.keep HP.out (HX_w1.out.trans HX_w2.out) (fun _ _ _ => id))).mono ?_
  rintro e w3 ⟨xA, xc, rfl, ho, hx⟩
  obtain ⟨xl, hxl⟩ : ∃ l, l = xb.take 3000 := ⟨_, rfl⟩
  have hfw : (⟨xtos, xid, xdf, xmf, xoff, xttl, xpr, xsrc, xdst, xb⟩ : Pk).few 3000 = (⟨xtos, xid, xdf, xmf, xoff, xttl, xpr, xsrc, xdst, xl⟩ : Pk) := by rw [hxl]; rfl
  rw [hfw] at ho ⊢
  have hxn : xl.length ≤ 3000 := by rw [hxl, List.length_take]; omega
  have hv : pkv (⟨xtos, xid, xdf, xmf, xoff, xttl, xpr, xsrc, xdst, xl⟩ : Pk) (.slice (some xA) (⟨xtos, xid, xdf, xmf, xoff, xttl, xpr, xsrc, xdst, xl⟩ : Pk).b.length xc) = .agg #[.int .u8 xtos, .int .u16 xid, .bool xdf, .bool xmf, .int .i64 xoff, .int .u8 xttl, .int .u8 xpr, .int .u32 xsrc, .int .u32 xdst, .slice (some xA) xl.length xc] := rfl
  rw [hv]
  have ho' : OB w3 w2.heap.size (.slice (some xA) xl.length xc) xl := ho
  clear hv hfw hxl ho cbp0 cbp1 cbp2 cbp3 cbp4 cbp5 cbp6 cbp7 cbp8 cbp9
  have HX_w3 := Lib.hid hx
  clear hx
  have HO_x := Lib.hid ho'
  clear ho'
  have okl : (⟨xtos, xid, xdf, xmf, xoff, xttl, xpr, xsrc, xdst, xl⟩ : Pk).ok := OKP.out
  go_wp2_with fail
  refine (pbytes_any _ (⟨xtos, xid, xdf, xmf, xoff, xttl, xpr, xsrc, xdst, xl⟩ : Pk) (some xA) xc w3 okl HO_x.out.rb (by show xl.length ≤ _; omega)).mono ?_
  rintro e w4 ⟨hx, hcase⟩
  clear okl
  have HX_w4 := Lib.hid hx
  clear hx
  rcases hcase with ⟨_, v4, rfl, he⟩ | ⟨hr4, A4, c4, rfl, ho⟩
  · obtain ⟨ty4, y4, rfl⟩ := he.shape
    clear he
    go_wp2_with fail
    go_ret
    exact ⟨rfl, (((HX_w1.out.trans HX_w2.out).trans HX_w3.out).trans HX_w4.out)⟩
  ·
    have HR4 := Lib.hid hr4
    obtain ⟨g4, rfl, hb_g4, hg4⟩ := ho.plain
    obtain ⟨m, hm⟩ : ∃ m, m = pb (⟨xtos, xid, xdf, xmf, xoff, xttl, xpr, xsrc, xdst, xl⟩ : Pk) := ⟨_, rfl⟩
    have hml : m.length = 20 + xl.length := by rw [hm, pb_len]
    have HM := Lib.hid hm
    rw [← hm] at ho ⊢
    have hm20 : 20 ≤ m.length := by omega
    have hmle : m.length ≤ 3020 := by omega
    have hmz : ((m.length : Int) == 0) = false := by rw [beq_eq_false_iff_ne]; omega
    clear hr4 hm hml
    have HO4 := Lib.hid ho
    clear ho
    have hcp : m.length ≤ c4 := by obtain ⟨_, _, _, e, h, _⟩ := HO4.out.rb; injection e with _ _ e3; rw [e3]; exact h
    obtain ⟨k, hk⟩ : ∃ k, k = n1 % m.length := ⟨_, rfl⟩
    have hkm : k < m.length := by rw [hk]; exact Nat.mod_lt _ (by omega)
    have hki : (n1 : Int) % (m.length : Int) = (k : Int) := by rw [hk]; omega
    have hkt : (n1 : Int).tmod (m.length : Int) = (k : Int) := by rw [Int.tmod_eq_emod_of_nonneg (by omega)]; exact hki
    have hkc : k ≤ c4 := by omega
    have hkm' : (k : Int) ≤ (m.length : Int) := by omega
    obtain ⟨rc, hrc, hpc⟩ := pb_cut (p := (⟨xtos, xid, xdf, xmf, xoff, xttl, xpr, xsrc, xdst, xl⟩ : Pk)) OKP.out HR4.out k (by rw [← HM.out]; exact hkm)
    rw [← HM.out] at hpc
    have HRC := Lib.hid hrc
    have HPC := Lib.hid hpc
    have a1 := A1.out
    have HKM := Lib.hid hkm
    have HK := Lib.hid hk
    have hkl : (m.take k).length = k := by rw [List.length_take]; omega
    have hrb := HO4.out.rb.take k
    rw [hkl] at hrb
    have HRB := Lib.hid hrb
    clear hrc hpc hk hrb hkl
    go_wp2_with fail
    refine (ipparse_any _ (some ⟨g4, 0, none⟩) k c4 (m.take k) w4 HRB.out (fun h => by cases h) (by rw [List.length_take]; omega)).mono ?_
    rintro e w5 ⟨hx, hcase⟩
    obtain ⟨v5, rfl, he⟩ : ∃ v, e = .returned (.tuple #[pkv zpk (.slice none 0 0), v]) ∧ EC w5 (fun j => w4.heap.size ≤ j) rc v 2 := by
      rcases hcase with ⟨r, kk, v, h, h1, h2⟩ | ⟨h, _⟩
      · have h := HPC.out.symm.trans h
        simp only [Option.some.injEq, Prod.mk.injEq] at h
        obtain ⟨rfl, rfl⟩ := h
        exact ⟨v, h1, h2⟩
      · exact absurd (HPC.out.symm.trans h) (by simp)
    clear hcase hki hkt a1 hkc hkm'
    obtain ⟨ty5, y5, rfl⟩ := he.shape
    have HX_w5 := Lib.hid hx
    clear hx
    have HE5 := Lib.hid he
    clear he
    have hv : pkv zpk (.slice none 0 0) = .agg #[.int .u8 0, .int .u16 0, .bool false, .bool false, .int .i64 0, .int .u8 0, .int .u8 0, .int .u32 0, .int .u32 0, .slice none 0 0] := rfl
    rw [hv]
    clear hv
    go_upto_region 8 with fail
    have hx : Ex (fun _ => False) w5 (w5.alloc (.cells #[.int .u8 0, .int .u16 0, .bool false, .bool false, .int .i64 0, .int .u8 0, .int .u8 0, .int .u32 0, .int .u32 0, .slice none 0 0] 51)) := (Ex.refl _ w5).alloc _
    have hb : (w5.alloc (.cells #[.int .u8 0, .int .u16 0, .bool false, .bool false, .int .i64 0, .int .u8 0, .int .u8 0, .int .u32 0, .int .u32 0, .slice none 0 0] 51)).heap[w5.heap.size]? = some (.cells #[.int .u8 0, .int .u16 0, .bool false, .bool false, .int .i64 0, .int .u8 0, .int .u8 0, .int .u32 0, .int .u32 0, .slice none 0 0] 51) := heap_alloc_new w5 _
    obtain ⟨zb, hzb⟩ : ∃ zb, zb = w5.heap.size := ⟨_, rfl⟩
    have hb_zb : w5.heap.size ≤ zb := by omega
    rw [← hzb] at hb
    try simp only [← hzb]
    generalize w5.alloc (.cells #[.int .u8 0, .int .u16 0, .bool false, .bool false, .int .i64 0, .int .u8 0, .int .u8 0, .int .u32 0, .int .u32 0, .slice none 0 0] 51) = w6 at hx hb ⊢
    clear hzb
    have HX_w6 := Lib.hid hx
    clear hx
    have B_zb := Lib.hid hb
    clear hb
    go_wp2_with fail
    refine (code_any _ rc 2 _ w6 (EC.keep HX_w6.out (fun _ _ => id) HE5.out) (HG.out.keep (((((HX_w1.out.trans HX_w2.out).trans HX_w3.out).trans HX_w4.out).trans HX_w5.out).trans HX_w6.out) id)).mono ?_
    rintro e w7 ⟨rfl, hx⟩
    have HX_w7 := Lib.hid hx
    clear hx
    replace HO4 := Lib.hid (OB.keep HO4.out ((HX_w5.out.trans HX_w6.out).trans HX_w7.out) (fun _ _ _ _ => id))
    obtain ⟨j, hj⟩ : ∃ j, j = n2 % 20 := ⟨_, rfl⟩
    have hj20 : j < 20 := by rw [hj]; exact Nat.mod_lt _ (by omega)
    have hji : (n2 : Int) % 20 = (j : Int) := by rw [hj]; omega
    have hjt : (n2 : Int).tmod 20 = (j : Int) := by rw [Int.tmod_eq_emod_of_nonneg (by omega)]; exact hji
    have hjm : j < m.length := by omega
    have hjm' : (j : Int) < (m.length : Int) := by omega
    have a2 := A2.out
    have cj := HO4.out.cell j hjm
    have fj := HO4.out.frozen j
    have xj := xor_u8 m[j] y
    obtain ⟨X, hX⟩ : ∃ X, X = m[j] ^^^ y := ⟨_, rfl⟩
    rw [← hX] at xj
    have HX := Lib.hid hX
    have ho := HO4.out.set j X (.int .u8 (X.toNat : Int)) rfl
    have HO7 := Lib.hid ho
    clear hX ho hj
    go_upto_region 11 with fail
    clear a2 cj fj xj hji hjt hjm'
    have hx : Ex (fun i => i = g4) w7 (w7.setCell ⟨g4, j, none⟩ (.int .u8 (X.toNat : Int))) := (Ex.refl (fun i => i = g4) w7).setCell (p := ⟨g4, j, none⟩) (.inl rfl) _
    have hms : (m.set j X).length = m.length := List.length_set
    have HMS := Lib.hid hms
    have hspoilt : y ≠ 0 → perr (m.set j X) ≠ none := by
      intro hy
      have := pb_spoilt (⟨xtos, xid, xdf, xmf, xoff, xttl, xpr, xsrc, xdst, xl⟩ : Pk) j hj20 y hy
      rw [HX.out]
      have e : ∀ (l : List UInt8) (h : j < l.length), l = m → l.set j (l[j] ^^^ y) = m.set j (m[j] ^^^ y) := by
        intro l h e
        subst e
        rfl
      rw [← e (pb (⟨xtos, xid, xdf, xmf, xoff, xttl, xpr, xsrc, xdst, xl⟩ : Pk)) (by rw [pb_len]; omega) HM.out.symm]
      exact this
    have hgood : y = 0 → perr (m.set j X) = none := by
      intro hy
      have := (pb_back (p := (⟨xtos, xid, xdf, xmf, xoff, xttl, xpr, xsrc, xdst, xl⟩ : Pk)) OKP.out HR4.out []).1
      rw [List.append_nil, ← HM.out] at this
      rw [HX.out, hy, UInt8.xor_zero, List.set_getElem_self]
      exact this
    have HSP := Lib.hid hspoilt
    have HGD := Lib.hid hgood
    clear hspoilt hgood hms
    generalize w7.setCell ⟨g4, j, none⟩ (.int .u8 (X.toNat : Int)) = w8 at hx HO7 ⊢
    obtain ⟨m2, hm2⟩ : ∃ m2, m2 = m.set j X := ⟨_, rfl⟩
    rw [← hm2] at HO7 HMS HSP HGD
    clear hm2
    have HX_w8 := Lib.hid hx
    clear hx
    have hrb := HO7.out.rb.any
    have HRB8 := Lib.hid hrb
    clear hrb
    go_wp2_with fail
    refine (ipparse_any _ (some ⟨g4, 0, none⟩) m.length c4 m2 w8 (by have := HRB8.out; exact this) (fun h => by cases h) (by rw [HMS.out]; omega)).mono ?_
    rintro e w9 ⟨hx, hcase⟩
    have HX_w9 := Lib.hid hx
    clear hx
    obtain ⟨p9, A9, n9, c9, v9, rfl, hv9⟩ : ∃ p9 A9 n9 c9 v9, e = .returned (.tuple #[pkv p9 (.slice A9 n9 c9), v9]) ∧ ((perr m2 = none ∧ v9 = .nilIface) ∨ (perr m2 ≠ none ∧ ∃ t y, v9 = .iface t y)) := by
      rcases hcase with ⟨r, k, v, h, h1, h2⟩ | ⟨h, A', g, o, h1, _⟩
      · exact ⟨_, _, _, _, v, h1, .inr ⟨by rw [h]; exact (fun h' => by cases h'), h2.shape⟩⟩
      · exact ⟨_, _, _, _, _, h1, .inl ⟨h, rfl⟩⟩
    clear hcase
    obtain ⟨q0, q1, q2, q3, q4, q5, q6, q7, q8, q9⟩ := p9
    have hv : pkv ⟨q0, q1, q2, q3, q4, q5, q6, q7, q8, q9⟩ (.slice A9 n9 c9) = .agg #[.int .u8 q0, .int .u16 q1, .bool q2, .bool q3, .int .i64 q4, .int .u8 q5, .int .u8 q6, .int .u32 q7, .int .u32 q8, .slice A9 n9 c9] := rfl
    rw [hv]
    clear hv
    by_cases hy : y = 0
    · rcases hv9 with ⟨_, rfl⟩ | ⟨h, _⟩
      · have hyb : ((y.toNat : Int) == 0) = true := by rw [hy]; rfl
        clear hy
        go_wp2_with fail
        go_ret
        exact ⟨rfl, (((((((((HX_w1.out.trans HX_w2.out).trans HX_w3.out).trans HX_w4.out).trans HX_w5.out).trans HX_w6.out).trans HX_w7.out).andThen HX_w8.out (fun i hi e => by have := ((HX_w1.out.trans HX_w2.out).trans HX_w3.out).size; have := hb_g4; omega)).trans HX_w9.out)).alloc _⟩
      · exact absurd (HGD.out hy) h
    · rcases hv9 with ⟨h, _⟩ | ⟨_, t9, y9, rfl⟩
      · exact absurd h (HSP.out hy)
      · have hyb : ((y.toNat : Int) == 0) = false := by
          rw [beq_eq_false_iff_ne]; intro h; exact hy (UInt8.toNat_inj.1 (by show y.toNat = 0; omega))
        clear hy
        go_wp2_with fail
        go_ret
        exact ⟨rfl, (((((((((HX_w1.out.trans HX_w2.out).trans HX_w3.out).trans HX_w4.out).trans HX_w5.out).trans HX_w6.out).trans HX_w7.out).andThen HX_w8.out (fun i hi e => by have := ((HX_w1.out.trans HX_w2.out).trans HX_w3.out).size; have := hb_g4; omega)).trans HX_w9.out)).alloc _⟩
end Go.Proofs.YtfcfpkhcpijkfaaDoor
