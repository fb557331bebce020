/-
  The reference's Parse of a packet, the way that gives a packet. By an AI agent.
-/
import Derived.Test.YtfcfpkhcpijkfaaDoorRefP05
namespace Go.Proofs.YtfcfpkhcpijkfaaDoor
open Go.RowKit

set_option maxRecDepth 100000 in
set_option maxHeartbeats 4000000 in
theorem rparse_8 (l : List UInt8) (w : World) (hl : l.length ≤ 1000000) (h20 : 20 ≤ l.length) (g1 : (Hd.of l).vi / 16 = 4) (g2 : 5 ≤ (Hd.of l).vi % 16) (g3 : (Hd.of l).vi % 16 ≤ 5) (g4 : 20 ≤ (Hd.of l).size) (g5 : (Hd.of l).size ≤ (l.length : Int)) (g6 : su (l.take 20) = 0) (gn : (Hd.of l).bits < 32768) (hr : (ppk l).right = 0) :
    Calls Tryd.prog 25 #[.string (bs l)] w fun e w' => e = .returned (.tuple #[rpv (ppk l), .string ⟨#[]⟩]) ∧ Ex (fun _ => False) w w' := by
  have hz := bs_size l
  obtain ⟨s24, s46, s68, s1216, s1620, s020⟩ := sub_get h20
  have e0 := bs_getD l 0 (by omega)
  obtain ⟨b0, hb0⟩ : ∃ b, l.getD 0 0 = b := ⟨_, rfl⟩
  have hvi : (Hd.of l).vi = (b0.toNat : Int) := by rw [← hb0]; rfl
  rw [hb0] at e0
  have lb0 := b0.toNat_lt
  obtain ⟨sz, hsz⟩ : ∃ n, nb [l.getD 2 0, l.getD 3 0] = n := ⟨_, rfl⟩
  have hsize : (Hd.of l).size = (sz : Int) := by rw [← hsz]; rfl
  have lsz : sz < 65536 := by rw [← hsz]; exact Nat.lt_of_lt_of_le (nb_lt _) (by simp)
  have HSZ := Lib.hid hsz
  have hp0 : 0 < l.length := by omega
  have hp20 : (20 : Int) ≤ (l.length : Int) := by omega
  rw [hvi] at g1
  rw [hvi] at g2
  rw [hvi] at g3
  rw [hsize] at g4
  rw [hsize] at g5
  have HVI := Lib.hid hvi
  have HSIZE := Lib.hid hsize
  clear hvi hsize hb0 hsz
  have f1 : ((b0.toNat : Int) / 16 != 4) = false := by rw [Bool.eq_false_iff, Ne, bne_iff_ne]; omega
  clear g1
  have j1 := IntWalk.i64_in (sz : Int) (by omega)
  have f6 : ((su (l.take 20) : Int) != 0) = false := by rw [Bool.eq_false_iff, Ne, bne_iff_ne]; omega
  clear g6
  have e1 := bs_getD l 1 (by omega)
  have e8 := bs_getD l 8 (by omega)
  have e9 := bs_getD l 9 (by omega)
  obtain ⟨b1, hb1⟩ : ∃ b, l.getD 1 0 = b := ⟨_, rfl⟩
  obtain ⟨b8, hb8⟩ : ∃ b, l.getD 8 0 = b := ⟨_, rfl⟩
  obtain ⟨b9, hb9⟩ : ∃ b, l.getD 9 0 = b := ⟨_, rfl⟩
  rw [hb1] at e1
  rw [hb8] at e8
  rw [hb9] at e9
  have lb1 := b1.toNat_lt
  have lb8 := b8.toNat_lt
  have lb9 := b9.toNat_lt
  obtain ⟨nid, hid'⟩ : ∃ n, nb [l.getD 4 0, l.getD 5 0] = n := ⟨_, rfl⟩
  obtain ⟨bt, hbt⟩ : ∃ n, nb [l.getD 6 0, l.getD 7 0] = n := ⟨_, rfl⟩
  obtain ⟨nsrc, hsrc⟩ : ∃ n, nb [l.getD 12 0, l.getD 13 0, l.getD 14 0, l.getD 15 0] = n := ⟨_, rfl⟩
  obtain ⟨ndst, hdst⟩ : ∃ n, nb [l.getD 16 0, l.getD 17 0, l.getD 18 0, l.getD 19 0] = n := ⟨_, rfl⟩
  have lbt : bt < 65536 := by rw [← hbt]; exact Nat.lt_of_lt_of_le (nb_lt _) (by simp)
  have hbits : (Hd.of l).bits = (bt : Int) := by rw [← hbt]; rfl
  obtain ⟨df, hdf⟩ : ∃ d, d = decide ((bt : Int) / 16384 % 2 = 1) := ⟨_, rfl⟩
  obtain ⟨mf, hmf⟩ : ∃ d, d = decide ((bt : Int) / 8192 % 2 = 1) := ⟨_, rfl⟩
  obtain ⟨bb, hbb⟩ : ∃ b, b = (l.take sz).drop 20 := ⟨_, rfl⟩
  have hbbl : bb.length ≤ 1000000 := by rw [hbb, List.length_drop, List.length_take]; omega
  have hpk : ppk l = (⟨(b1.toNat : Int), (nid : Int), df, mf, (bt : Int) % 8192 * 8, (b8.toNat : Int), (b9.toNat : Int), (nsrc : Int), (ndst : Int), bb⟩ : Pk) := by
    unfold ppk
    rw [HSIZE.out, show ((sz : Int)).toNat = sz from rfl, ← hbb]
    unfold Hd.pk
    rw [hbits, ← hdf, ← hmf, ← hb1, ← hb8, ← hb9, ← hid', ← hsrc, ← hdst]
    rfl
  have HPK := Lib.hid hpk
  rw [hbits] at gn
  have HGN : Unit → (bt : Int) < 32768 := fun _ => gn
  clear gn
  have HR : Unit → (ppk l).right = 0 := fun _ => hr
  rw [hpk] at HR
  rw [hpk]
  clear hr
  have s20 : (bs l).extract 20 sz = bs bb := by rw [bs_sub l _ _ (by omega), hbb]
  have p1 : ((bt : Int) / 16384 % 2 == 1) = df := by rw [hdf]; by_cases h : (bt : Int) / 16384 % 2 = 1 <;> simp [h]
  have p2 : ((bt : Int) / 8192 % 2 == 1) = mf := by rw [hmf]; by_cases h : (bt : Int) / 8192 % 2 = 1 <;> simp [h]
  have t1 : (bt : Int).tdiv 16384 = (bt : Int) / 16384 := Int.tdiv_eq_ediv_of_nonneg (by omega)
  have t2 : (bt : Int).tdiv 8192 = (bt : Int) / 8192 := Int.tdiv_eq_ediv_of_nonneg (by omega)
  have t3 : ((bt : Int) / 16384).tmod 2 = (bt : Int) / 16384 % 2 := Int.tmod_eq_emod_of_nonneg (by omega)
  have t4 : ((bt : Int) / 8192).tmod 2 = (bt : Int) / 8192 % 2 := Int.tmod_eq_emod_of_nonneg (by omega)
  have t5 : (bt : Int).tmod 8192 = (bt : Int) % 8192 := Int.tmod_eq_emod_of_nonneg (by omega)
  have u1 := IntWalk.u32_in ((bt : Int) / 16384) (by omega)
  have u2 := IntWalk.u32_in ((bt : Int) / 8192) (by omega)
  have u3 := IntWalk.u32_in ((bt : Int) % 8192) (by omega)
  have u4 := IntWalk.u32_in (b1.toNat : Int) (by omega)
  have u5 := IntWalk.u32_in (b8.toNat : Int) (by omega)
  have u6 := IntWalk.u32_in (b9.toNat : Int) (by omega)
  have u7 := IntWalk.i64_in ((bt : Int) % 8192) (by omega)
  have u8 := IntWalk.i64_in ((bt : Int) % 8192 * 8) (by omega)
  have i1 : (1 : Int) < (l.length : Int) := by omega
  have i8 : (8 : Int) < (l.length : Int) := by omega
  have i9 : (9 : Int) < (l.length : Int) := by omega
  have i4 : (6 : Int) ≤ (l.length : Int) := by omega
  have i5 : (8 : Int) ≤ (l.length : Int) := by omega
  have i6 : (16 : Int) ≤ (l.length : Int) := by omega
  have i7 : (20 : Int) ≤ (l.length : Int) := by omega
  have j3 : (20 : Int) ≤ (sz : Int) := by omega
  have j4 : (sz : Int) ≤ (l.length : Int) := by omega
  have HID := Lib.hid hid'
  have HBT := Lib.hid hbt
  have HSRC := Lib.hid hsrc
  have HDST := Lib.hid hdst
  clear hb1 hb8 hb9 hid' hbt hsrc hdst hbits hdf hmf hbb hpk
  go_enter Tryd.func25, Tryd.ntmps25
  go_upto_region 1 with fail
  have hx : Ex (fun _ => False) w (w.alloc (.cells #[.int .u32 0, .int .u32 0, .bool false, .bool false, .int .i64 0, .int .u32 0, .int .u32 0, .int .u32 0, .int .u32 0, .string ⟨#[]⟩] 55)) := (Ex.refl _ w).alloc _
  have hb : (w.alloc (.cells #[.int .u32 0, .int .u32 0, .bool false, .bool false, .int .i64 0, .int .u32 0, .int .u32 0, .int .u32 0, .int .u32 0, .string ⟨#[]⟩] 55)).heap[w.heap.size]? = some (.cells #[.int .u32 0, .int .u32 0, .bool false, .bool false, .int .i64 0, .int .u32 0, .int .u32 0, .int .u32 0, .int .u32 0, .string ⟨#[]⟩] 55) := heap_alloc_new w _
  obtain ⟨rb, hrb⟩ : ∃ rb, rb = w.heap.size := ⟨_, rfl⟩
  have hb_rb : w.heap.size ≤ rb := by omega
  rw [← hrb] at hb
  try simp only [← hrb]
  generalize w.alloc (.cells #[.int .u32 0, .int .u32 0, .bool false, .bool false, .int .i64 0, .int .u32 0, .int .u32 0, .int .u32 0, .int .u32 0, .string ⟨#[]⟩] 55) = w1 at hx hb ⊢
  clear hrb
  have HX_w1 := Lib.hid hx
  clear hx
  have B_rb := Lib.hid hb
  clear hb
  go_wp2_with fail
  refine (rnum_any [l.getD 2 0, l.getD 3 0] (by simp) _).mono ?_
  rintro e w' ⟨rfl, rfl⟩
  rw [HSZ.out]
  go_wp2_with fail
  refine (refsum_any (l.take 20) (by rw [List.length_take]; omega) _).mono ?_
  rintro e w2 ⟨rfl, hx⟩
  have HX_w2 := Lib.hid hx
  clear hx
  go_wp2_with fail
  refine (rnum_any [l.getD 6 0, l.getD 7 0] (by simp) _).mono ?_
  rintro e w3' ⟨rfl, rfl⟩
  rw [HBT.out]
  go_upto_region 17 with fail
  obtain ⟨w3, hw3⟩ : ∃ w3, w3 = w2 := ⟨_, rfl⟩
  subst hw3
  go_cut [6] (fun x wx => ∃ pb : Nat, x = .pointer (some ⟨pb, 0, none⟩) ∧ Hid (wx.heap[pb]? = some (.cells #[.int .u32 (b1.toNat : Int), .int .u32 (nid : Int), .bool df, .bool mf, .int .i64 ((bt : Int) % 8192 * 8), .int .u32 (b8.toNat : Int), .int .u32 (b9.toNat : Int), .int .u32 (nsrc : Int), .int .u32 (ndst : Int), .string (bs bb)] 55)) ∧ Hid (Ex (fun _ => False) w3 wx))
  case first =>
    have hS0 : Ex (fun _ => False) w3 w3.drew := (Ex.refl _ w3).drew
    refine wp_region_held_drew (S := fun W => Ex (fun _ => False) w3 W) (by kernel_rfl) hS0 (fun _ => ?_)
    generalize w3.drew = wd at hS0 ⊢
    have HX_wd := Lib.hid hS0
    have hS := hS0
    clear hS0
    refine wpAnyH_take (i := 0) (oi := { dst := some 47, op := Go.Op.move (Go.Operand.tmp 0), type := 9, pos := "ref.go:77", after := #[], guard := none }) (v := ?v1) rfl (by kernel_rfl) (by kernel_rfl) (by kernel_rfl) (fun _ _ _ h => h) (Or.inl ⟨by rfl, ?hy1⟩) (by assumption) ?rest1
    case hy1 => (intro w hSw; (try dsimp only at hSw); go_simp <;> with_reducible rfl)
    try simp only [Act.put, List.setIfInBounds_toArray, List.set_cons_zero, List.set_cons_succ]
    refine wpAnyH_take (i := 1) (oi := { dst := some 48, op := Go.Op.index 9 (Go.Operand.tmp 47) (Go.Operand.const (Go.Value.int Go.IntKind.i64 1)), type := 5, pos := "ref.go:77", after := #[{ on := 0, ground := Go.Ground.data }], guard := none }) (v := ?v2) rfl (by kernel_rfl) (by kernel_rfl) (by kernel_rfl) (fun _ _ _ h => h) (Or.inl ⟨by rfl, ?hy2⟩) (by assumption) ?rest2
    case hy2 => (intro w hSw; (try dsimp only at hSw); go_simp <;> with_reducible rfl)
    try simp only [Act.put, List.setIfInBounds_toArray, List.set_cons_zero, List.set_cons_succ]
    refine wpAnyH_take (i := 2) (oi := { dst := some 49, op := Go.Op.convert 5 26 (Go.Operand.tmp 48), type := 26, pos := "ref.go:77", after := #[{ on := 1, ground := Go.Ground.data }], guard := none }) (v := ?v3) rfl (by kernel_rfl) (by kernel_rfl) (by kernel_rfl) (fun _ _ _ h => h) (Or.inl ⟨by rfl, ?hy3⟩) (by assumption) ?rest3
    case hy3 => (intro w hSw; (try dsimp only at hSw); go_simp <;> with_reducible rfl)
    try simp only [Act.put, List.setIfInBounds_toArray, List.set_cons_zero, List.set_cons_succ]
    refine wpAnyH_take (i := 3) (oi := { dst := some 50, op := Go.Op.move (Go.Operand.tmp 0), type := 9, pos := "ref.go:77", after := #[], guard := none }) (v := ?v4) rfl (by kernel_rfl) (by kernel_rfl) (by kernel_rfl) (fun _ _ _ h => h) (Or.inl ⟨by rfl, ?hy4⟩) (by assumption) ?rest4
    case hy4 => (intro w hSw; (try dsimp only at hSw); go_simp <;> with_reducible rfl)
    try simp only [Act.put, List.setIfInBounds_toArray, List.set_cons_zero, List.set_cons_succ]
    refine wpAnyH_take (i := 4) (oi := { dst := some 51, op := Go.Op.slice 9 (Go.Operand.tmp 50) (some (Go.Operand.const (Go.Value.int Go.IntKind.i64 4))) (some (Go.Operand.const (Go.Value.int Go.IntKind.i64 6))) none, type := 9, pos := "ref.go:77", after := #[{ on := 3, ground := Go.Ground.data }], guard := none }) (v := ?v5) rfl (by kernel_rfl) (by kernel_rfl) (by kernel_rfl) (fun _ _ _ h => h) (Or.inl ⟨by rfl, ?hy5⟩) (by assumption) ?rest5
    case hy5 => (intro w hSw; (try dsimp only at hSw); go_simp <;> with_reducible rfl)
    try simp only [Act.put, List.setIfInBounds_toArray, List.set_cons_zero, List.set_cons_succ]
    refine wpAnyH_take (i := 6) (oi := { dst := some 53, op := Go.Op.move (Go.Operand.tmp 5), type := 26, pos := "ref.go:77", after := #[], guard := none }) (v := ?v6) rfl (by kernel_rfl) (by kernel_rfl) (by kernel_rfl) (fun _ _ _ h => h) (Or.inl ⟨by rfl, ?hy6⟩) (by assumption) ?rest6
    case hy6 => (intro w hSw; (try dsimp only at hSw); go_simp <;> with_reducible rfl)
    try simp only [Act.put, List.setIfInBounds_toArray, List.set_cons_zero, List.set_cons_succ]
    refine wpAnyH_take (i := 7) (oi := { dst := some 54, op := Go.Op.binOp Go.BinOp.quo 26 (Go.Operand.tmp 53) (Go.Operand.const (Go.Value.int Go.IntKind.u32 16384)) 26, type := 26, pos := "ref.go:77", after := #[{ on := 6, ground := Go.Ground.data }], guard := none }) (v := ?v7) rfl (by kernel_rfl) (by kernel_rfl) (by kernel_rfl) (fun _ _ _ h => h) (Or.inl ⟨by rfl, ?hy7⟩) (by assumption) ?rest7
    case hy7 => (intro w hSw; (try dsimp only at hSw); go_simp <;> with_reducible rfl)
    try simp only [Act.put, List.setIfInBounds_toArray, List.set_cons_zero, List.set_cons_succ]
    refine wpAnyH_take (i := 8) (oi := { dst := some 55, op := Go.Op.binOp Go.BinOp.rem 26 (Go.Operand.tmp 54) (Go.Operand.const (Go.Value.int Go.IntKind.u32 2)) 26, type := 26, pos := "ref.go:77", after := #[{ on := 7, ground := Go.Ground.data }], guard := none }) (v := ?v8) rfl (by kernel_rfl) (by kernel_rfl) (by kernel_rfl) (fun _ _ _ h => h) (Or.inl ⟨by rfl, ?hy8⟩) (by assumption) ?rest8
    case hy8 => (intro w hSw; (try dsimp only at hSw); go_simp <;> with_reducible rfl)
    try simp only [Act.put, List.setIfInBounds_toArray, List.set_cons_zero, List.set_cons_succ]
    refine wpAnyH_take (i := 9) (oi := { dst := some 56, op := Go.Op.binOp Go.BinOp.eql 26 (Go.Operand.tmp 55) (Go.Operand.const (Go.Value.int Go.IntKind.u32 1)) 26, type := 4, pos := "ref.go:77", after := #[{ on := 8, ground := Go.Ground.data }], guard := none }) (v := ?v9) rfl (by kernel_rfl) (by kernel_rfl) (by kernel_rfl) (fun _ _ _ h => h) (Or.inl ⟨by rfl, ?hy9⟩) (by assumption) ?rest9
    case hy9 => (intro w hSw; (try dsimp only at hSw); go_simp <;> with_reducible rfl)
    try simp only [Act.put, List.setIfInBounds_toArray, List.set_cons_zero, List.set_cons_succ]
    refine wpAnyH_take (i := 10) (oi := { dst := some 57, op := Go.Op.move (Go.Operand.tmp 5), type := 26, pos := "ref.go:77", after := #[], guard := none }) (v := ?v10) rfl (by kernel_rfl) (by kernel_rfl) (by kernel_rfl) (fun _ _ _ h => h) (Or.inl ⟨by rfl, ?hy10⟩) (by assumption) ?rest10
    case hy10 => (intro w hSw; (try dsimp only at hSw); go_simp <;> with_reducible rfl)
    try simp only [Act.put, List.setIfInBounds_toArray, List.set_cons_zero, List.set_cons_succ]
    refine wpAnyH_take (i := 11) (oi := { dst := some 58, op := Go.Op.binOp Go.BinOp.quo 26 (Go.Operand.tmp 57) (Go.Operand.const (Go.Value.int Go.IntKind.u32 8192)) 26, type := 26, pos := "ref.go:77", after := #[{ on := 10, ground := Go.Ground.data }], guard := none }) (v := ?v11) rfl (by kernel_rfl) (by kernel_rfl) (by kernel_rfl) (fun _ _ _ h => h) (Or.inl ⟨by rfl, ?hy11⟩) (by assumption) ?rest11
    case hy11 => (intro w hSw; (try dsimp only at hSw); go_simp <;> with_reducible rfl)
    try simp only [Act.put, List.setIfInBounds_toArray, List.set_cons_zero, List.set_cons_succ]
    refine wpAnyH_take (i := 12) (oi := { dst := some 59, op := Go.Op.binOp Go.BinOp.rem 26 (Go.Operand.tmp 58) (Go.Operand.const (Go.Value.int Go.IntKind.u32 2)) 26, type := 26, pos := "ref.go:77", after := #[{ on := 11, ground := Go.Ground.data }], guard := none }) (v := ?v12) rfl (by kernel_rfl) (by kernel_rfl) (by kernel_rfl) (fun _ _ _ h => h) (Or.inl ⟨by rfl, ?hy12⟩) (by assumption) ?rest12
    case hy12 => (intro w hSw; (try dsimp only at hSw); go_simp <;> with_reducible rfl)
    try simp only [Act.put, List.setIfInBounds_toArray, List.set_cons_zero, List.set_cons_succ]
    refine wpAnyH_take (i := 13) (oi := { dst := some 60, op := Go.Op.binOp Go.BinOp.eql 26 (Go.Operand.tmp 59) (Go.Operand.const (Go.Value.int Go.IntKind.u32 1)) 26, type := 4, pos := "ref.go:77", after := #[{ on := 12, ground := Go.Ground.data }], guard := none }) (v := ?v13) rfl (by kernel_rfl) (by kernel_rfl) (by kernel_rfl) (fun _ _ _ h => h) (Or.inl ⟨by rfl, ?hy13⟩) (by assumption) ?rest13
    case hy13 => (intro w hSw; (try dsimp only at hSw); go_simp <;> with_reducible rfl)
    try simp only [Act.put, List.setIfInBounds_toArray, List.set_cons_zero, List.set_cons_succ]
    refine wpAnyH_take (i := 14) (oi := { dst := some 61, op := Go.Op.move (Go.Operand.tmp 5), type := 26, pos := "ref.go:77", after := #[], guard := none }) (v := ?v14) rfl (by kernel_rfl) (by kernel_rfl) (by kernel_rfl) (fun _ _ _ h => h) (Or.inl ⟨by rfl, ?hy14⟩) (by assumption) ?rest14
    case hy14 => (intro w hSw; (try dsimp only at hSw); go_simp <;> with_reducible rfl)
    try simp only [Act.put, List.setIfInBounds_toArray, List.set_cons_zero, List.set_cons_succ]
    refine wpAnyH_take (i := 15) (oi := { dst := some 62, op := Go.Op.binOp Go.BinOp.rem 26 (Go.Operand.tmp 61) (Go.Operand.const (Go.Value.int Go.IntKind.u32 8192)) 26, type := 26, pos := "ref.go:77", after := #[{ on := 14, ground := Go.Ground.data }], guard := none }) (v := ?v15) rfl (by kernel_rfl) (by kernel_rfl) (by kernel_rfl) (fun _ _ _ h => h) (Or.inl ⟨by rfl, ?hy15⟩) (by assumption) ?rest15
    case hy15 => (intro w hSw; (try dsimp only at hSw); go_simp <;> with_reducible rfl)
    try simp only [Act.put, List.setIfInBounds_toArray, List.set_cons_zero, List.set_cons_succ]
    refine wpAnyH_take (i := 16) (oi := { dst := some 63, op := Go.Op.convert 26 3 (Go.Operand.tmp 62), type := 3, pos := "ref.go:77", after := #[{ on := 15, ground := Go.Ground.data }], guard := none }) (v := ?v16) rfl (by kernel_rfl) (by kernel_rfl) (by kernel_rfl) (fun _ _ _ h => h) (Or.inl ⟨by rfl, ?hy16⟩) (by assumption) ?rest16
    case hy16 => (intro w hSw; (try dsimp only at hSw); go_simp <;> with_reducible rfl)
    try simp only [Act.put, List.setIfInBounds_toArray, List.set_cons_zero, List.set_cons_succ]
    refine wpAnyH_take (i := 17) (oi := { dst := some 64, op := Go.Op.binOp Go.BinOp.mul 3 (Go.Operand.tmp 63) (Go.Operand.const (Go.Value.int Go.IntKind.i64 8)) 3, type := 3, pos := "ref.go:77", after := #[{ on := 16, ground := Go.Ground.data }], guard := none }) (v := ?v17) rfl (by kernel_rfl) (by kernel_rfl) (by kernel_rfl) (fun _ _ _ h => h) (Or.inl ⟨by rfl, ?hy17⟩) (by assumption) ?rest17
    case hy17 => (intro w hSw; (try dsimp only at hSw); go_simp <;> with_reducible rfl)
    try simp only [Act.put, List.setIfInBounds_toArray, List.set_cons_zero, List.set_cons_succ]
    refine wpAnyH_take (i := 18) (oi := { dst := some 65, op := Go.Op.move (Go.Operand.tmp 0), type := 9, pos := "ref.go:77", after := #[], guard := none }) (v := ?v18) rfl (by kernel_rfl) (by kernel_rfl) (by kernel_rfl) (fun _ _ _ h => h) (Or.inl ⟨by rfl, ?hy18⟩) (by assumption) ?rest18
    case hy18 => (intro w hSw; (try dsimp only at hSw); go_simp <;> with_reducible rfl)
    try simp only [Act.put, List.setIfInBounds_toArray, List.set_cons_zero, List.set_cons_succ]
    refine wpAnyH_take (i := 19) (oi := { dst := some 66, op := Go.Op.index 9 (Go.Operand.tmp 65) (Go.Operand.const (Go.Value.int Go.IntKind.i64 8)), type := 5, pos := "ref.go:77", after := #[{ on := 18, ground := Go.Ground.data }], guard := none }) (v := ?v19) rfl (by kernel_rfl) (by kernel_rfl) (by kernel_rfl) (fun _ _ _ h => h) (Or.inl ⟨by rfl, ?hy19⟩) (by assumption) ?rest19
    case hy19 => (intro w hSw; (try dsimp only at hSw); go_simp <;> with_reducible rfl)
    try simp only [Act.put, List.setIfInBounds_toArray, List.set_cons_zero, List.set_cons_succ]
    refine wpAnyH_take (i := 20) (oi := { dst := some 67, op := Go.Op.convert 5 26 (Go.Operand.tmp 66), type := 26, pos := "ref.go:77", after := #[{ on := 19, ground := Go.Ground.data }], guard := none }) (v := ?v20) rfl (by kernel_rfl) (by kernel_rfl) (by kernel_rfl) (fun _ _ _ h => h) (Or.inl ⟨by rfl, ?hy20⟩) (by assumption) ?rest20
    case hy20 => (intro w hSw; (try dsimp only at hSw); go_simp <;> with_reducible rfl)
    try simp only [Act.put, List.setIfInBounds_toArray, List.set_cons_zero, List.set_cons_succ]
    refine wpAnyH_take (i := 21) (oi := { dst := some 68, op := Go.Op.move (Go.Operand.tmp 0), type := 9, pos := "ref.go:77", after := #[], guard := none }) (v := ?v21) rfl (by kernel_rfl) (by kernel_rfl) (by kernel_rfl) (fun _ _ _ h => h) (Or.inl ⟨by rfl, ?hy21⟩) (by assumption) ?rest21
    case hy21 => (intro w hSw; (try dsimp only at hSw); go_simp <;> with_reducible rfl)
    try simp only [Act.put, List.setIfInBounds_toArray, List.set_cons_zero, List.set_cons_succ]
    refine wpAnyH_take (i := 22) (oi := { dst := some 69, op := Go.Op.index 9 (Go.Operand.tmp 68) (Go.Operand.const (Go.Value.int Go.IntKind.i64 9)), type := 5, pos := "ref.go:77", after := #[{ on := 21, ground := Go.Ground.data }], guard := none }) (v := ?v22) rfl (by kernel_rfl) (by kernel_rfl) (by kernel_rfl) (fun _ _ _ h => h) (Or.inl ⟨by rfl, ?hy22⟩) (by assumption) ?rest22
    case hy22 => (intro w hSw; (try dsimp only at hSw); go_simp <;> with_reducible rfl)
    try simp only [Act.put, List.setIfInBounds_toArray, List.set_cons_zero, List.set_cons_succ]
    refine wpAnyH_take (i := 23) (oi := { dst := some 70, op := Go.Op.convert 5 26 (Go.Operand.tmp 69), type := 26, pos := "ref.go:77", after := #[{ on := 22, ground := Go.Ground.data }], guard := none }) (v := ?v23) rfl (by kernel_rfl) (by kernel_rfl) (by kernel_rfl) (fun _ _ _ h => h) (Or.inl ⟨by rfl, ?hy23⟩) (by assumption) ?rest23
    case hy23 => (intro w hSw; (try dsimp only at hSw); go_simp <;> with_reducible rfl)
    try simp only [Act.put, List.setIfInBounds_toArray, List.set_cons_zero, List.set_cons_succ]
    refine wpAnyH_take (i := 24) (oi := { dst := some 71, op := Go.Op.move (Go.Operand.tmp 0), type := 9, pos := "ref.go:77", after := #[], guard := none }) (v := ?v24) rfl (by kernel_rfl) (by kernel_rfl) (by kernel_rfl) (fun _ _ _ h => h) (Or.inl ⟨by rfl, ?hy24⟩) (by assumption) ?rest24
    case hy24 => (intro w hSw; (try dsimp only at hSw); go_simp <;> with_reducible rfl)
    try simp only [Act.put, List.setIfInBounds_toArray, List.set_cons_zero, List.set_cons_succ]
    refine wpAnyH_take (i := 25) (oi := { dst := some 72, op := Go.Op.slice 9 (Go.Operand.tmp 71) (some (Go.Operand.const (Go.Value.int Go.IntKind.i64 12))) (some (Go.Operand.const (Go.Value.int Go.IntKind.i64 16))) none, type := 9, pos := "ref.go:77", after := #[{ on := 24, ground := Go.Ground.data }], guard := none }) (v := ?v25) rfl (by kernel_rfl) (by kernel_rfl) (by kernel_rfl) (fun _ _ _ h => h) (Or.inl ⟨by rfl, ?hy25⟩) (by assumption) ?rest25
    case hy25 => (intro w hSw; (try dsimp only at hSw); go_simp <;> with_reducible rfl)
    try simp only [Act.put, List.setIfInBounds_toArray, List.set_cons_zero, List.set_cons_succ]
    refine wpAnyH_take (i := 27) (oi := { dst := some 74, op := Go.Op.move (Go.Operand.tmp 0), type := 9, pos := "ref.go:77", after := #[], guard := none }) (v := ?v26) rfl (by kernel_rfl) (by kernel_rfl) (by kernel_rfl) (fun _ _ _ h => h) (Or.inl ⟨by rfl, ?hy26⟩) (by assumption) ?rest26
    case hy26 => (intro w hSw; (try dsimp only at hSw); go_simp <;> with_reducible rfl)
    try simp only [Act.put, List.setIfInBounds_toArray, List.set_cons_zero, List.set_cons_succ]
    refine wpAnyH_take (i := 28) (oi := { dst := some 75, op := Go.Op.slice 9 (Go.Operand.tmp 74) (some (Go.Operand.const (Go.Value.int Go.IntKind.i64 16))) (some (Go.Operand.const (Go.Value.int Go.IntKind.i64 20))) none, type := 9, pos := "ref.go:77", after := #[{ on := 27, ground := Go.Ground.data }], guard := none }) (v := ?v27) rfl (by kernel_rfl) (by kernel_rfl) (by kernel_rfl) (fun _ _ _ h => h) (Or.inl ⟨by rfl, ?hy27⟩) (by assumption) ?rest27
    case hy27 => (intro w hSw; (try dsimp only at hSw); go_simp <;> with_reducible rfl)
    try simp only [Act.put, List.setIfInBounds_toArray, List.set_cons_zero, List.set_cons_succ]
    refine wpAnyH_take (i := 30) (oi := { dst := some 77, op := Go.Op.move (Go.Operand.tmp 0), type := 9, pos := "ref.go:77", after := #[], guard := none }) (v := ?v28) rfl (by kernel_rfl) (by kernel_rfl) (by kernel_rfl) (fun _ _ _ h => h) (Or.inl ⟨by rfl, ?hy28⟩) (by assumption) ?rest28
    case hy28 => (intro w hSw; (try dsimp only at hSw); go_simp <;> with_reducible rfl)
    try simp only [Act.put, List.setIfInBounds_toArray, List.set_cons_zero, List.set_cons_succ]
    refine wpAnyH_take (i := 31) (oi := { dst := some 78, op := Go.Op.move (Go.Operand.tmp 4), type := 3, pos := "ref.go:77", after := #[], guard := none }) (v := ?v29) rfl (by kernel_rfl) (by kernel_rfl) (by kernel_rfl) (fun _ _ _ h => h) (Or.inl ⟨by rfl, ?hy29⟩) (by assumption) ?rest29
    case hy29 => (intro w hSw; (try dsimp only at hSw); go_simp <;> with_reducible rfl)
    try simp only [Act.put, List.setIfInBounds_toArray, List.set_cons_zero, List.set_cons_succ]
    refine wpAnyH_take (i := 32) (oi := { dst := some 79, op := Go.Op.slice 9 (Go.Operand.tmp 77) (some (Go.Operand.const (Go.Value.int Go.IntKind.i64 20))) (some (Go.Operand.tmp 78)) none, type := 9, pos := "ref.go:77", after := #[{ on := 30, ground := Go.Ground.data }, { on := 31, ground := Go.Ground.data }], guard := none }) (v := ?v30) rfl (by kernel_rfl) (by kernel_rfl) (by kernel_rfl) (fun _ _ _ h => h) (Or.inl ⟨by rfl, ?hy30⟩) (by assumption) ?rest30
    case hy30 => (intro w hSw; (try dsimp only at hSw); go_simp <;> with_reducible rfl)
    try simp only [Act.put, List.setIfInBounds_toArray, List.set_cons_zero, List.set_cons_succ]
    refine wpAnyH_ready (rs := [5, 34]) (by kernel_rfl) (by simp) ?_
    refine AllReadyH.cons (o := { dst := some 52, op := Go.Op.call { callee := Go.Callee.value (Go.Operand.func 44), args := #[Go.Operand.tmp 51], argTypes := #[9] }, type := 26, pos := "ref.go:77", after := #[{ on := 4, ground := Go.Ground.data }], guard := none }) rfl (fun K hK => ?_) ?_
    ·
      go_simp
      refine (rnum_any [l.getD 4 0, l.getD 5 0] (by simp) _).mono ?_
      rintro e v ⟨rfl, rfl⟩
      rw [HID.out]
      refine hK.out _ _ hS (fun _ => ?_)
      refine wpAnyH_ready (rs := [26, 34]) (by kernel_rfl) (by simp) ?_
      refine AllReadyH.cons (o := { dst := some 73, op := Go.Op.call { callee := Go.Callee.value (Go.Operand.func 44), args := #[Go.Operand.tmp 72], argTypes := #[9] }, type := 26, pos := "ref.go:77", after := #[{ on := 25, ground := Go.Ground.data }, { on := 5, ground := Go.Ground.chain }], guard := none }) rfl (fun K hK => ?_) ?_
      ·
        go_simp
        refine (rnum_any [l.getD 12 0, l.getD 13 0, l.getD 14 0, l.getD 15 0] (by simp) _).mono ?_
        rintro e v ⟨rfl, rfl⟩
        rw [HSRC.out]
        refine hK.out _ _ hS (fun _ => ?_)
        refine wpAnyH_ready (rs := [29, 34]) (by kernel_rfl) (by simp) ?_
        refine AllReadyH.cons (o := { dst := some 76, op := Go.Op.call { callee := Go.Callee.value (Go.Operand.func 44), args := #[Go.Operand.tmp 75], argTypes := #[9] }, type := 26, pos := "ref.go:77", after := #[{ on := 28, ground := Go.Ground.data }, { on := 26, ground := Go.Ground.chain }], guard := none }) rfl (fun K hK => ?_) ?_
        ·
          go_simp
          refine (rnum_any [l.getD 16 0, l.getD 17 0, l.getD 18 0, l.getD 19 0] (by simp) _).mono ?_
          rintro e v ⟨rfl, rfl⟩
          rw [HDST.out]
          refine hK.out _ _ hS (fun _ => ?_)
          refine wpAnyH_take (i := 33) (oi := { dst := some 80, op := Go.Op.build 55 #[(0, Go.Operand.tmp 49), (1, Go.Operand.tmp 52), (2, Go.Operand.tmp 56), (3, Go.Operand.tmp 60), (4, Go.Operand.tmp 64), (5, Go.Operand.tmp 67), (6, Go.Operand.tmp 70), (7, Go.Operand.tmp 73), (8, Go.Operand.tmp 76), (9, Go.Operand.tmp 79)], type := 55, pos := "ref.go:77", after := #[{ on := 2, ground := Go.Ground.data }, { on := 5, ground := Go.Ground.data }, { on := 9, ground := Go.Ground.data }, { on := 13, ground := Go.Ground.data }, { on := 17, ground := Go.Ground.data }, { on := 20, ground := Go.Ground.data }, { on := 23, ground := Go.Ground.data }, { on := 26, ground := Go.Ground.data }, { on := 29, ground := Go.Ground.data }, { on := 32, ground := Go.Ground.data }], guard := none }) (v := ?v31) rfl (by kernel_rfl) (by kernel_rfl) (by kernel_rfl) (fun _ _ _ h => h) (Or.inl ⟨by rfl, ?hy31⟩) (by assumption) ?rest31
          case hy31 => (intro w hSw; (try dsimp only at hSw); go_simp <;> with_reducible rfl)
          try simp only [Act.put, List.setIfInBounds_toArray, List.set_cons_zero, List.set_cons_succ]
          refine wpAnyH_ready (rs := [34]) (by kernel_rfl) (by simp) ?_
          refine AllReadyH.cons (o := { dst := some 6, op := Go.Op.alloc 55, type := 0, pos := "ref.go:77", after := #[], guard := none }) rfl (fun K hK => ?_) AllReadyH.nil
          go_simp
          have hx : Ex (fun _ => False) wd (wd.alloc (.cells #[.int .u32 0, .int .u32 0, .bool false, .bool false, .int .i64 0, .int .u32 0, .int .u32 0, .int .u32 0, .int .u32 0, .string ⟨#[]⟩] 55)) := (Ex.refl _ wd).alloc _
          have hb : (wd.alloc (.cells #[.int .u32 0, .int .u32 0, .bool false, .bool false, .int .i64 0, .int .u32 0, .int .u32 0, .int .u32 0, .int .u32 0, .string ⟨#[]⟩] 55)).heap[wd.heap.size]? = some (.cells #[.int .u32 0, .int .u32 0, .bool false, .bool false, .int .i64 0, .int .u32 0, .int .u32 0, .int .u32 0, .int .u32 0, .string ⟨#[]⟩] 55) := heap_alloc_new wd _
          obtain ⟨pb, hpb⟩ : ∃ pb, pb = wd.heap.size := ⟨_, rfl⟩
          have hb_pb : wd.heap.size ≤ pb := by omega
          rw [← hpb] at hb
          try simp only [← hpb]
          generalize wd.alloc (.cells #[.int .u32 0, .int .u32 0, .bool false, .bool false, .int .i64 0, .int .u32 0, .int .u32 0, .int .u32 0, .int .u32 0, .string ⟨#[]⟩] 55) = we at hx hb ⊢
          clear hpb
          have HX_we := Lib.hid hx
          clear hx
          have B_pb := Lib.hid hb
          clear hb
          have hS : Ex (fun _ => False) w3 we := (HX_wd.out.trans HX_we.out)
          refine hK.out _ _ hS (fun _ => ?_)
          refine wpAnyH_ready (rs := [35]) (by kernel_rfl) (by simp) ?_
          refine AllReadyH.cons (o := { dst := none, op := Go.Op.store 55 (Go.Operand.tmp 6) (Go.Operand.tmp 80), type := 0, pos := "ref.go:77", after := #[{ on := 34, ground := Go.Ground.data }, { on := 33, ground := Go.Ground.data }, { on := 29, ground := Go.Ground.chain }, { on := 0, ground := Go.Ground.phase }, { on := 1, ground := Go.Ground.phase }, { on := 2, ground := Go.Ground.phase }, { on := 3, ground := Go.Ground.phase }, { on := 4, ground := Go.Ground.phase }, { on := 5, ground := Go.Ground.phase }, { on := 6, ground := Go.Ground.phase }, { on := 7, ground := Go.Ground.phase }, { on := 8, ground := Go.Ground.phase }, { on := 9, ground := Go.Ground.phase }, { on := 10, ground := Go.Ground.phase }, { on := 11, ground := Go.Ground.phase }, { on := 12, ground := Go.Ground.phase }, { on := 13, ground := Go.Ground.phase }, { on := 14, ground := Go.Ground.phase }, { on := 15, ground := Go.Ground.phase }, { on := 16, ground := Go.Ground.phase }, { on := 17, ground := Go.Ground.phase }, { on := 18, ground := Go.Ground.phase }, { on := 19, ground := Go.Ground.phase }, { on := 20, ground := Go.Ground.phase }, { on := 21, ground := Go.Ground.phase }, { on := 22, ground := Go.Ground.phase }, { on := 23, ground := Go.Ground.phase }, { on := 24, ground := Go.Ground.phase }, { on := 25, ground := Go.Ground.phase }, { on := 26, ground := Go.Ground.phase }, { on := 27, ground := Go.Ground.phase }, { on := 28, ground := Go.Ground.phase }, { on := 29, ground := Go.Ground.phase }, { on := 30, ground := Go.Ground.phase }, { on := 31, ground := Go.Ground.phase }, { on := 32, ground := Go.Ground.phase }, { on := 33, ground := Go.Ground.phase }, { on := 34, ground := Go.Ground.phase }], guard := none }) rfl (fun K hK => ?_) AllReadyH.nil
          have cpb0 := row_cell (k := 0) (v := .int .u32 0) B_pb.out rfl
          have cpb1 := row_cell (k := 1) (v := .int .u32 0) B_pb.out rfl
          have cpb2 := row_cell (k := 2) (v := .bool false) B_pb.out rfl
          have cpb3 := row_cell (k := 3) (v := .bool false) B_pb.out rfl
          have cpb4 := row_cell (k := 4) (v := .int .i64 0) B_pb.out rfl
          have cpb5 := row_cell (k := 5) (v := .int .u32 0) B_pb.out rfl
          have cpb6 := row_cell (k := 6) (v := .int .u32 0) B_pb.out rfl
          have cpb7 := row_cell (k := 7) (v := .int .u32 0) B_pb.out rfl
          have cpb8 := row_cell (k := 8) (v := .int .u32 0) B_pb.out rfl
          have cpb9 := row_cell (k := 9) (v := .string ⟨#[]⟩) B_pb.out rfl
          have fpb0 := row_frozen B_pb.out 0
          have fpb1 := row_frozen B_pb.out 1
          have fpb2 := row_frozen B_pb.out 2
          have fpb3 := row_frozen B_pb.out 3
          have fpb4 := row_frozen B_pb.out 4
          have fpb5 := row_frozen B_pb.out 5
          have fpb6 := row_frozen B_pb.out 6
          have fpb7 := row_frozen B_pb.out 7
          have fpb8 := row_frozen B_pb.out 8
          have fpb9 := row_frozen B_pb.out 9
          go_simp
          have r0 : (we.setCell ⟨pb, 0, none⟩ (.int .u32 (b1.toNat : Int))).heap[pb]? = some (.cells #[.int .u32 (b1.toNat : Int), .int .u32 0, .bool false, .bool false, .int .i64 0, .int .u32 0, .int .u32 0, .int .u32 0, .int .u32 0, .string ⟨#[]⟩] 55) := row_set B_pb.out 0 (.int .u32 (b1.toNat : Int))
          have r1 : ((we.setCell ⟨pb, 0, none⟩ (.int .u32 (b1.toNat : Int))).setCell ⟨pb, 1, none⟩ (.int .u32 (nid : Int))).heap[pb]? = some (.cells #[.int .u32 (b1.toNat : Int), .int .u32 (nid : Int), .bool false, .bool false, .int .i64 0, .int .u32 0, .int .u32 0, .int .u32 0, .int .u32 0, .string ⟨#[]⟩] 55) := row_set r0 1 (.int .u32 (nid : Int))
          clear r0
          have r2 : (((we.setCell ⟨pb, 0, none⟩ (.int .u32 (b1.toNat : Int))).setCell ⟨pb, 1, none⟩ (.int .u32 (nid : Int))).setCell ⟨pb, 2, none⟩ (.bool df)).heap[pb]? = some (.cells #[.int .u32 (b1.toNat : Int), .int .u32 (nid : Int), .bool df, .bool false, .int .i64 0, .int .u32 0, .int .u32 0, .int .u32 0, .int .u32 0, .string ⟨#[]⟩] 55) := row_set r1 2 (.bool df)
          clear r1
          have r3 : ((((we.setCell ⟨pb, 0, none⟩ (.int .u32 (b1.toNat : Int))).setCell ⟨pb, 1, none⟩ (.int .u32 (nid : Int))).setCell ⟨pb, 2, none⟩ (.bool df)).setCell ⟨pb, 3, none⟩ (.bool mf)).heap[pb]? = some (.cells #[.int .u32 (b1.toNat : Int), .int .u32 (nid : Int), .bool df, .bool mf, .int .i64 0, .int .u32 0, .int .u32 0, .int .u32 0, .int .u32 0, .string ⟨#[]⟩] 55) := row_set r2 3 (.bool mf)
          clear r2
          have r4 : (((((we.setCell ⟨pb, 0, none⟩ (.int .u32 (b1.toNat : Int))).setCell ⟨pb, 1, none⟩ (.int .u32 (nid : Int))).setCell ⟨pb, 2, none⟩ (.bool df)).setCell ⟨pb, 3, none⟩ (.bool mf)).setCell ⟨pb, 4, none⟩ (.int .i64 ((bt : Int) % 8192 * 8))).heap[pb]? = some (.cells #[.int .u32 (b1.toNat : Int), .int .u32 (nid : Int), .bool df, .bool mf, .int .i64 ((bt : Int) % 8192 * 8), .int .u32 0, .int .u32 0, .int .u32 0, .int .u32 0, .string ⟨#[]⟩] 55) := row_set r3 4 (.int .i64 ((bt : Int) % 8192 * 8))
          clear r3
          have r5 : ((((((we.setCell ⟨pb, 0, none⟩ (.int .u32 (b1.toNat : Int))).setCell ⟨pb, 1, none⟩ (.int .u32 (nid : Int))).setCell ⟨pb, 2, none⟩ (.bool df)).setCell ⟨pb, 3, none⟩ (.bool mf)).setCell ⟨pb, 4, none⟩ (.int .i64 ((bt : Int) % 8192 * 8))).setCell ⟨pb, 5, none⟩ (.int .u32 (b8.toNat : Int))).heap[pb]? = some (.cells #[.int .u32 (b1.toNat : Int), .int .u32 (nid : Int), .bool df, .bool mf, .int .i64 ((bt : Int) % 8192 * 8), .int .u32 (b8.toNat : Int), .int .u32 0, .int .u32 0, .int .u32 0, .string ⟨#[]⟩] 55) := row_set r4 5 (.int .u32 (b8.toNat : Int))
          clear r4
          have r6 : (((((((we.setCell ⟨pb, 0, none⟩ (.int .u32 (b1.toNat : Int))).setCell ⟨pb, 1, none⟩ (.int .u32 (nid : Int))).setCell ⟨pb, 2, none⟩ (.bool df)).setCell ⟨pb, 3, none⟩ (.bool mf)).setCell ⟨pb, 4, none⟩ (.int .i64 ((bt : Int) % 8192 * 8))).setCell ⟨pb, 5, none⟩ (.int .u32 (b8.toNat : Int))).setCell ⟨pb, 6, none⟩ (.int .u32 (b9.toNat : Int))).heap[pb]? = some (.cells #[.int .u32 (b1.toNat : Int), .int .u32 (nid : Int), .bool df, .bool mf, .int .i64 ((bt : Int) % 8192 * 8), .int .u32 (b8.toNat : Int), .int .u32 (b9.toNat : Int), .int .u32 0, .int .u32 0, .string ⟨#[]⟩] 55) := row_set r5 6 (.int .u32 (b9.toNat : Int))
          clear r5
          have r7 : ((((((((we.setCell ⟨pb, 0, none⟩ (.int .u32 (b1.toNat : Int))).setCell ⟨pb, 1, none⟩ (.int .u32 (nid : Int))).setCell ⟨pb, 2, none⟩ (.bool df)).setCell ⟨pb, 3, none⟩ (.bool mf)).setCell ⟨pb, 4, none⟩ (.int .i64 ((bt : Int) % 8192 * 8))).setCell ⟨pb, 5, none⟩ (.int .u32 (b8.toNat : Int))).setCell ⟨pb, 6, none⟩ (.int .u32 (b9.toNat : Int))).setCell ⟨pb, 7, none⟩ (.int .u32 (nsrc : Int))).heap[pb]? = some (.cells #[.int .u32 (b1.toNat : Int), .int .u32 (nid : Int), .bool df, .bool mf, .int .i64 ((bt : Int) % 8192 * 8), .int .u32 (b8.toNat : Int), .int .u32 (b9.toNat : Int), .int .u32 (nsrc : Int), .int .u32 0, .string ⟨#[]⟩] 55) := row_set r6 7 (.int .u32 (nsrc : Int))
          clear r6
          have r8 : (((((((((we.setCell ⟨pb, 0, none⟩ (.int .u32 (b1.toNat : Int))).setCell ⟨pb, 1, none⟩ (.int .u32 (nid : Int))).setCell ⟨pb, 2, none⟩ (.bool df)).setCell ⟨pb, 3, none⟩ (.bool mf)).setCell ⟨pb, 4, none⟩ (.int .i64 ((bt : Int) % 8192 * 8))).setCell ⟨pb, 5, none⟩ (.int .u32 (b8.toNat : Int))).setCell ⟨pb, 6, none⟩ (.int .u32 (b9.toNat : Int))).setCell ⟨pb, 7, none⟩ (.int .u32 (nsrc : Int))).setCell ⟨pb, 8, none⟩ (.int .u32 (ndst : Int))).heap[pb]? = some (.cells #[.int .u32 (b1.toNat : Int), .int .u32 (nid : Int), .bool df, .bool mf, .int .i64 ((bt : Int) % 8192 * 8), .int .u32 (b8.toNat : Int), .int .u32 (b9.toNat : Int), .int .u32 (nsrc : Int), .int .u32 (ndst : Int), .string ⟨#[]⟩] 55) := row_set r7 8 (.int .u32 (ndst : Int))
          clear r7
          have r9 : ((((((((((we.setCell ⟨pb, 0, none⟩ (.int .u32 (b1.toNat : Int))).setCell ⟨pb, 1, none⟩ (.int .u32 (nid : Int))).setCell ⟨pb, 2, none⟩ (.bool df)).setCell ⟨pb, 3, none⟩ (.bool mf)).setCell ⟨pb, 4, none⟩ (.int .i64 ((bt : Int) % 8192 * 8))).setCell ⟨pb, 5, none⟩ (.int .u32 (b8.toNat : Int))).setCell ⟨pb, 6, none⟩ (.int .u32 (b9.toNat : Int))).setCell ⟨pb, 7, none⟩ (.int .u32 (nsrc : Int))).setCell ⟨pb, 8, none⟩ (.int .u32 (ndst : Int))).setCell ⟨pb, 9, none⟩ (.string (bs bb))).heap[pb]? = some (.cells #[.int .u32 (b1.toNat : Int), .int .u32 (nid : Int), .bool df, .bool mf, .int .i64 ((bt : Int) % 8192 * 8), .int .u32 (b8.toNat : Int), .int .u32 (b9.toNat : Int), .int .u32 (nsrc : Int), .int .u32 (ndst : Int), .string (bs bb)] 55) := row_set r8 9 (.string (bs bb))
          clear r8
          have hx : Ex (fun j => j = pb) we ((((((((((we.setCell ⟨pb, 0, none⟩ (.int .u32 (b1.toNat : Int))).setCell ⟨pb, 1, none⟩ (.int .u32 (nid : Int))).setCell ⟨pb, 2, none⟩ (.bool df)).setCell ⟨pb, 3, none⟩ (.bool mf)).setCell ⟨pb, 4, none⟩ (.int .i64 ((bt : Int) % 8192 * 8))).setCell ⟨pb, 5, none⟩ (.int .u32 (b8.toNat : Int))).setCell ⟨pb, 6, none⟩ (.int .u32 (b9.toNat : Int))).setCell ⟨pb, 7, none⟩ (.int .u32 (nsrc : Int))).setCell ⟨pb, 8, none⟩ (.int .u32 (ndst : Int))).setCell ⟨pb, 9, none⟩ (.string (bs bb))) := (((((((((((Ex.refl (fun j => j = pb) we).setCell (p := ⟨pb, 0, none⟩) (.inl rfl) (.int .u32 (b1.toNat : Int))).setCell (p := ⟨pb, 1, none⟩) (.inl rfl) (.int .u32 (nid : Int))).setCell (p := ⟨pb, 2, none⟩) (.inl rfl) (.bool df)).setCell (p := ⟨pb, 3, none⟩) (.inl rfl) (.bool mf)).setCell (p := ⟨pb, 4, none⟩) (.inl rfl) (.int .i64 ((bt : Int) % 8192 * 8))).setCell (p := ⟨pb, 5, none⟩) (.inl rfl) (.int .u32 (b8.toNat : Int))).setCell (p := ⟨pb, 6, none⟩) (.inl rfl) (.int .u32 (b9.toNat : Int))).setCell (p := ⟨pb, 7, none⟩) (.inl rfl) (.int .u32 (nsrc : Int))).setCell (p := ⟨pb, 8, none⟩) (.inl rfl) (.int .u32 (ndst : Int))).setCell (p := ⟨pb, 9, none⟩) (.inl rfl) (.string (bs bb)))
          clear cpb0 cpb1 cpb2 cpb3 cpb4 cpb5 cpb6 cpb7 cpb8 cpb9 fpb0 fpb1 fpb2 fpb3 fpb4 fpb5 fpb6 fpb7 fpb8 fpb9
          generalize ((((((((((we.setCell ⟨pb, 0, none⟩ (.int .u32 (b1.toNat : Int))).setCell ⟨pb, 1, none⟩ (.int .u32 (nid : Int))).setCell ⟨pb, 2, none⟩ (.bool df)).setCell ⟨pb, 3, none⟩ (.bool mf)).setCell ⟨pb, 4, none⟩ (.int .i64 ((bt : Int) % 8192 * 8))).setCell ⟨pb, 5, none⟩ (.int .u32 (b8.toNat : Int))).setCell ⟨pb, 6, none⟩ (.int .u32 (b9.toNat : Int))).setCell ⟨pb, 7, none⟩ (.int .u32 (nsrc : Int))).setCell ⟨pb, 8, none⟩ (.int .u32 (ndst : Int))).setCell ⟨pb, 9, none⟩ (.string (bs bb))) = wf at r9 hx ⊢
          replace B_pb := Lib.hid r9
          clear r9
          have HX_wf := Lib.hid hx
          clear hx
          have hS : Ex (fun _ => False) w3 wf := ((HX_wd.out.trans HX_we.out).andThen HX_wf.out (fun i hi e => by have := HX_wd.out.size; have := hb_pb; omega))
          refine hK.out _ _ hS (fun _ => ?_)
          refine wpAnyH_done (by kernel_rfl) ?_ _
          go_wp2_with fail
          go_meet
          exact ⟨pb, rfl, Lib.hid B_pb.out, Lib.hid ((HX_wd.out.trans HX_we.out).andThen HX_wf.out (fun i hi e => by have := HX_wd.out.size; have := hb_pb; omega))⟩
        refine AllReadyH.cons (o := { dst := some 6, op := Go.Op.alloc 55, type := 0, pos := "ref.go:77", after := #[], guard := none }) rfl (fun K hK => ?_) AllReadyH.nil
        go_simp
        have hx : Ex (fun _ => False) wd (wd.alloc (.cells #[.int .u32 0, .int .u32 0, .bool false, .bool false, .int .i64 0, .int .u32 0, .int .u32 0, .int .u32 0, .int .u32 0, .string ⟨#[]⟩] 55)) := (Ex.refl _ wd).alloc _
        have hb : (wd.alloc (.cells #[.int .u32 0, .int .u32 0, .bool false, .bool false, .int .i64 0, .int .u32 0, .int .u32 0, .int .u32 0, .int .u32 0, .string ⟨#[]⟩] 55)).heap[wd.heap.size]? = some (.cells #[.int .u32 0, .int .u32 0, .bool false, .bool false, .int .i64 0, .int .u32 0, .int .u32 0, .int .u32 0, .int .u32 0, .string ⟨#[]⟩] 55) := heap_alloc_new wd _
        obtain ⟨pb, hpb⟩ : ∃ pb, pb = wd.heap.size := ⟨_, rfl⟩
        have hb_pb : wd.heap.size ≤ pb := by omega
        rw [← hpb] at hb
        try simp only [← hpb]
        generalize wd.alloc (.cells #[.int .u32 0, .int .u32 0, .bool false, .bool false, .int .i64 0, .int .u32 0, .int .u32 0, .int .u32 0, .int .u32 0, .string ⟨#[]⟩] 55) = we at hx hb ⊢
        clear hpb
        have HX_we := Lib.hid hx
        clear hx
        have B_pb := Lib.hid hb
        clear hb
        have hS : Ex (fun _ => False) w3 we := (HX_wd.out.trans HX_we.out)
        refine hK.out _ _ hS (fun _ => ?_)
        refine wpAnyH_ready (rs := [29]) (by kernel_rfl) (by simp) ?_
        refine AllReadyH.cons (o := { dst := some 76, op := Go.Op.call { callee := Go.Callee.value (Go.Operand.func 44), args := #[Go.Operand.tmp 75], argTypes := #[9] }, type := 26, pos := "ref.go:77", after := #[{ on := 28, ground := Go.Ground.data }, { on := 26, ground := Go.Ground.chain }], guard := none }) rfl (fun K hK => ?_) AllReadyH.nil
        go_simp
        refine (rnum_any [l.getD 16 0, l.getD 17 0, l.getD 18 0, l.getD 19 0] (by simp) _).mono ?_
        rintro e v ⟨rfl, rfl⟩
        rw [HDST.out]
        refine hK.out _ _ hS (fun _ => ?_)
        refine wpAnyH_take (i := 33) (oi := { dst := some 80, op := Go.Op.build 55 #[(0, Go.Operand.tmp 49), (1, Go.Operand.tmp 52), (2, Go.Operand.tmp 56), (3, Go.Operand.tmp 60), (4, Go.Operand.tmp 64), (5, Go.Operand.tmp 67), (6, Go.Operand.tmp 70), (7, Go.Operand.tmp 73), (8, Go.Operand.tmp 76), (9, Go.Operand.tmp 79)], type := 55, pos := "ref.go:77", after := #[{ on := 2, ground := Go.Ground.data }, { on := 5, ground := Go.Ground.data }, { on := 9, ground := Go.Ground.data }, { on := 13, ground := Go.Ground.data }, { on := 17, ground := Go.Ground.data }, { on := 20, ground := Go.Ground.data }, { on := 23, ground := Go.Ground.data }, { on := 26, ground := Go.Ground.data }, { on := 29, ground := Go.Ground.data }, { on := 32, ground := Go.Ground.data }], guard := none }) (v := ?v32) rfl (by kernel_rfl) (by kernel_rfl) (by kernel_rfl) (fun _ _ _ h => h) (Or.inl ⟨by rfl, ?hy32⟩) (by assumption) ?rest32
        case hy32 => (intro w hSw; (try dsimp only at hSw); go_simp <;> with_reducible rfl)
        try simp only [Act.put, List.setIfInBounds_toArray, List.set_cons_zero, List.set_cons_succ]
        refine wpAnyH_ready (rs := [35]) (by kernel_rfl) (by simp) ?_
        refine AllReadyH.cons (o := { dst := none, op := Go.Op.store 55 (Go.Operand.tmp 6) (Go.Operand.tmp 80), type := 0, pos := "ref.go:77", after := #[{ on := 34, ground := Go.Ground.data }, { on := 33, ground := Go.Ground.data }, { on := 29, ground := Go.Ground.chain }, { on := 0, ground := Go.Ground.phase }, { on := 1, ground := Go.Ground.phase }, { on := 2, ground := Go.Ground.phase }, { on := 3, ground := Go.Ground.phase }, { on := 4, ground := Go.Ground.phase }, { on := 5, ground := Go.Ground.phase }, { on := 6, ground := Go.Ground.phase }, { on := 7, ground := Go.Ground.phase }, { on := 8, ground := Go.Ground.phase }, { on := 9, ground := Go.Ground.phase }, { on := 10, ground := Go.Ground.phase }, { on := 11, ground := Go.Ground.phase }, { on := 12, ground := Go.Ground.phase }, { on := 13, ground := Go.Ground.phase }, { on := 14, ground := Go.Ground.phase }, { on := 15, ground := Go.Ground.phase }, { on := 16, ground := Go.Ground.phase }, { on := 17, ground := Go.Ground.phase }, { on := 18, ground := Go.Ground.phase }, { on := 19, ground := Go.Ground.phase }, { on := 20, ground := Go.Ground.phase }, { on := 21, ground := Go.Ground.phase }, { on := 22, ground := Go.Ground.phase }, { on := 23, ground := Go.Ground.phase }, { on := 24, ground := Go.Ground.phase }, { on := 25, ground := Go.Ground.phase }, { on := 26, ground := Go.Ground.phase }, { on := 27, ground := Go.Ground.phase }, { on := 28, ground := Go.Ground.phase }, { on := 29, ground := Go.Ground.phase }, { on := 30, ground := Go.Ground.phase }, { on := 31, ground := Go.Ground.phase }, { on := 32, ground := Go.Ground.phase }, { on := 33, ground := Go.Ground.phase }, { on := 34, ground := Go.Ground.phase }], guard := none }) rfl (fun K hK => ?_) AllReadyH.nil
        have cpb0 := row_cell (k := 0) (v := .int .u32 0) B_pb.out rfl
        have cpb1 := row_cell (k := 1) (v := .int .u32 0) B_pb.out rfl
        have cpb2 := row_cell (k := 2) (v := .bool false) B_pb.out rfl
        have cpb3 := row_cell (k := 3) (v := .bool false) B_pb.out rfl
        have cpb4 := row_cell (k := 4) (v := .int .i64 0) B_pb.out rfl
        have cpb5 := row_cell (k := 5) (v := .int .u32 0) B_pb.out rfl
        have cpb6 := row_cell (k := 6) (v := .int .u32 0) B_pb.out rfl
        have cpb7 := row_cell (k := 7) (v := .int .u32 0) B_pb.out rfl
        have cpb8 := row_cell (k := 8) (v := .int .u32 0) B_pb.out rfl
        have cpb9 := row_cell (k := 9) (v := .string ⟨#[]⟩) B_pb.out rfl
        have fpb0 := row_frozen B_pb.out 0
        have fpb1 := row_frozen B_pb.out 1
        have fpb2 := row_frozen B_pb.out 2
        have fpb3 := row_frozen B_pb.out 3
        have fpb4 := row_frozen B_pb.out 4
        have fpb5 := row_frozen B_pb.out 5
        have fpb6 := row_frozen B_pb.out 6
        have fpb7 := row_frozen B_pb.out 7
        have fpb8 := row_frozen B_pb.out 8
        have fpb9 := row_frozen B_pb.out 9
        go_simp
        have r0 : (we.setCell ⟨pb, 0, none⟩ (.int .u32 (b1.toNat : Int))).heap[pb]? = some (.cells #[.int .u32 (b1.toNat : Int), .int .u32 0, .bool false, .bool false, .int .i64 0, .int .u32 0, .int .u32 0, .int .u32 0, .int .u32 0, .string ⟨#[]⟩] 55) := row_set B_pb.out 0 (.int .u32 (b1.toNat : Int))
        have r1 : ((we.setCell ⟨pb, 0, none⟩ (.int .u32 (b1.toNat : Int))).setCell ⟨pb, 1, none⟩ (.int .u32 (nid : Int))).heap[pb]? = some (.cells #[.int .u32 (b1.toNat : Int), .int .u32 (nid : Int), .bool false, .bool false, .int .i64 0, .int .u32 0, .int .u32 0, .int .u32 0, .int .u32 0, .string ⟨#[]⟩] 55) := row_set r0 1 (.int .u32 (nid : Int))
        clear r0
        have r2 : (((we.setCell ⟨pb, 0, none⟩ (.int .u32 (b1.toNat : Int))).setCell ⟨pb, 1, none⟩ (.int .u32 (nid : Int))).setCell ⟨pb, 2, none⟩ (.bool df)).heap[pb]? = some (.cells #[.int .u32 (b1.toNat : Int), .int .u32 (nid : Int), .bool df, .bool false, .int .i64 0, .int .u32 0, .int .u32 0, .int .u32 0, .int .u32 0, .string ⟨#[]⟩] 55) := row_set r1 2 (.bool df)
        clear r1
        have r3 : ((((we.setCell ⟨pb, 0, none⟩ (.int .u32 (b1.toNat : Int))).setCell ⟨pb, 1, none⟩ (.int .u32 (nid : Int))).setCell ⟨pb, 2, none⟩ (.bool df)).setCell ⟨pb, 3, none⟩ (.bool mf)).heap[pb]? = some (.cells #[.int .u32 (b1.toNat : Int), .int .u32 (nid : Int), .bool df, .bool mf, .int .i64 0, .int .u32 0, .int .u32 0, .int .u32 0, .int .u32 0, .string ⟨#[]⟩] 55) := row_set r2 3 (.bool mf)
        clear r2
        have r4 : (((((we.setCell ⟨pb, 0, none⟩ (.int .u32 (b1.toNat : Int))).setCell ⟨pb, 1, none⟩ (.int .u32 (nid : Int))).setCell ⟨pb, 2, none⟩ (.bool df)).setCell ⟨pb, 3, none⟩ (.bool mf)).setCell ⟨pb, 4, none⟩ (.int .i64 ((bt : Int) % 8192 * 8))).heap[pb]? = some (.cells #[.int .u32 (b1.toNat : Int), .int .u32 (nid : Int), .bool df, .bool mf, .int .i64 ((bt : Int) % 8192 * 8), .int .u32 0, .int .u32 0, .int .u32 0, .int .u32 0, .string ⟨#[]⟩] 55) := row_set r3 4 (.int .i64 ((bt : Int) % 8192 * 8))
        clear r3
        have r5 : ((((((we.setCell ⟨pb, 0, none⟩ (.int .u32 (b1.toNat : Int))).setCell ⟨pb, 1, none⟩ (.int .u32 (nid : Int))).setCell ⟨pb, 2, none⟩ (.bool df)).setCell ⟨pb, 3, none⟩ (.bool mf)).setCell ⟨pb, 4, none⟩ (.int .i64 ((bt : Int) % 8192 * 8))).setCell ⟨pb, 5, none⟩ (.int .u32 (b8.toNat : Int))).heap[pb]? = some (.cells #[.int .u32 (b1.toNat : Int), .int .u32 (nid : Int), .bool df, .bool mf, .int .i64 ((bt : Int) % 8192 * 8), .int .u32 (b8.toNat : Int), .int .u32 0, .int .u32 0, .int .u32 0, .string ⟨#[]⟩] 55) := row_set r4 5 (.int .u32 (b8.toNat : Int))
        clear r4
        have r6 : (((((((we.setCell ⟨pb, 0, none⟩ (.int .u32 (b1.toNat : Int))).setCell ⟨pb, 1, none⟩ (.int .u32 (nid : Int))).setCell ⟨pb, 2, none⟩ (.bool df)).setCell ⟨pb, 3, none⟩ (.bool mf)).setCell ⟨pb, 4, none⟩ (.int .i64 ((bt : Int) % 8192 * 8))).setCell ⟨pb, 5, none⟩ (.int .u32 (b8.toNat : Int))).setCell ⟨pb, 6, none⟩ (.int .u32 (b9.toNat : Int))).heap[pb]? = some (.cells #[.int .u32 (b1.toNat : Int), .int .u32 (nid : Int), .bool df, .bool mf, .int .i64 ((bt : Int) % 8192 * 8), .int .u32 (b8.toNat : Int), .int .u32 (b9.toNat : Int), .int .u32 0, .int .u32 0, .string ⟨#[]⟩] 55) := row_set r5 6 (.int .u32 (b9.toNat : Int))
        clear r5
        have r7 : ((((((((we.setCell ⟨pb, 0, none⟩ (.int .u32 (b1.toNat : Int))).setCell ⟨pb, 1, none⟩ (.int .u32 (nid : Int))).setCell ⟨pb, 2, none⟩ (.bool df)).setCell ⟨pb, 3, none⟩ (.bool mf)).setCell ⟨pb, 4, none⟩ (.int .i64 ((bt : Int) % 8192 * 8))).setCell ⟨pb, 5, none⟩ (.int .u32 (b8.toNat : Int))).setCell ⟨pb, 6, none⟩ (.int .u32 (b9.toNat : Int))).setCell ⟨pb, 7, none⟩ (.int .u32 (nsrc : Int))).heap[pb]? = some (.cells #[.int .u32 (b1.toNat : Int), .int .u32 (nid : Int), .bool df, .bool mf, .int .i64 ((bt : Int) % 8192 * 8), .int .u32 (b8.toNat : Int), .int .u32 (b9.toNat : Int), .int .u32 (nsrc : Int), .int .u32 0, .string ⟨#[]⟩] 55) := row_set r6 7 (.int .u32 (nsrc : Int))
        clear r6
        have r8 : (((((((((we.setCell ⟨pb, 0, none⟩ (.int .u32 (b1.toNat : Int))).setCell ⟨pb, 1, none⟩ (.int .u32 (nid : Int))).setCell ⟨pb, 2, none⟩ (.bool df)).setCell ⟨pb, 3, none⟩ (.bool mf)).setCell ⟨pb, 4, none⟩ (.int .i64 ((bt : Int) % 8192 * 8))).setCell ⟨pb, 5, none⟩ (.int .u32 (b8.toNat : Int))).setCell ⟨pb, 6, none⟩ (.int .u32 (b9.toNat : Int))).setCell ⟨pb, 7, none⟩ (.int .u32 (nsrc : Int))).setCell ⟨pb, 8, none⟩ (.int .u32 (ndst : Int))).heap[pb]? = some (.cells #[.int .u32 (b1.toNat : Int), .int .u32 (nid : Int), .bool df, .bool mf, .int .i64 ((bt : Int) % 8192 * 8), .int .u32 (b8.toNat : Int), .int .u32 (b9.toNat : Int), .int .u32 (nsrc : Int), .int .u32 (ndst : Int), .string ⟨#[]⟩] 55) := row_set r7 8 (.int .u32 (ndst : Int))
        clear r7
        have r9 : ((((((((((we.setCell ⟨pb, 0, none⟩ (.int .u32 (b1.toNat : Int))).setCell ⟨pb, 1, none⟩ (.int .u32 (nid : Int))).setCell ⟨pb, 2, none⟩ (.bool df)).setCell ⟨pb, 3, none⟩ (.bool mf)).setCell ⟨pb, 4, none⟩ (.int .i64 ((bt : Int) % 8192 * 8))).setCell ⟨pb, 5, none⟩ (.int .u32 (b8.toNat : Int))).setCell ⟨pb, 6, none⟩ (.int .u32 (b9.toNat : Int))).setCell ⟨pb, 7, none⟩ (.int .u32 (nsrc : Int))).setCell ⟨pb, 8, none⟩ (.int .u32 (ndst : Int))).setCell ⟨pb, 9, none⟩ (.string (bs bb))).heap[pb]? = some (.cells #[.int .u32 (b1.toNat : Int), .int .u32 (nid : Int), .bool df, .bool mf, .int .i64 ((bt : Int) % 8192 * 8), .int .u32 (b8.toNat : Int), .int .u32 (b9.toNat : Int), .int .u32 (nsrc : Int), .int .u32 (ndst : Int), .string (bs bb)] 55) := row_set r8 9 (.string (bs bb))
        clear r8
        have hx : Ex (fun j => j = pb) we ((((((((((we.setCell ⟨pb, 0, none⟩ (.int .u32 (b1.toNat : Int))).setCell ⟨pb, 1, none⟩ (.int .u32 (nid : Int))).setCell ⟨pb, 2, none⟩ (.bool df)).setCell ⟨pb, 3, none⟩ (.bool mf)).setCell ⟨pb, 4, none⟩ (.int .i64 ((bt : Int) % 8192 * 8))).setCell ⟨pb, 5, none⟩ (.int .u32 (b8.toNat : Int))).setCell ⟨pb, 6, none⟩ (.int .u32 (b9.toNat : Int))).setCell ⟨pb, 7, none⟩ (.int .u32 (nsrc : Int))).setCell ⟨pb, 8, none⟩ (.int .u32 (ndst : Int))).setCell ⟨pb, 9, none⟩ (.string (bs bb))) := (((((((((((Ex.refl (fun j => j = pb) we).setCell (p := ⟨pb, 0, none⟩) (.inl rfl) (.int .u32 (b1.toNat : Int))).setCell (p := ⟨pb, 1, none⟩) (.inl rfl) (.int .u32 (nid : Int))).setCell (p := ⟨pb, 2, none⟩) (.inl rfl) (.bool df)).setCell (p := ⟨pb, 3, none⟩) (.inl rfl) (.bool mf)).setCell (p := ⟨pb, 4, none⟩) (.inl rfl) (.int .i64 ((bt : Int) % 8192 * 8))).setCell (p := ⟨pb, 5, none⟩) (.inl rfl) (.int .u32 (b8.toNat : Int))).setCell (p := ⟨pb, 6, none⟩) (.inl rfl) (.int .u32 (b9.toNat : Int))).setCell (p := ⟨pb, 7, none⟩) (.inl rfl) (.int .u32 (nsrc : Int))).setCell (p := ⟨pb, 8, none⟩) (.inl rfl) (.int .u32 (ndst : Int))).setCell (p := ⟨pb, 9, none⟩) (.inl rfl) (.string (bs bb)))
        clear cpb0 cpb1 cpb2 cpb3 cpb4 cpb5 cpb6 cpb7 cpb8 cpb9 fpb0 fpb1 fpb2 fpb3 fpb4 fpb5 fpb6 fpb7 fpb8 fpb9
        generalize ((((((((((we.setCell ⟨pb, 0, none⟩ (.int .u32 (b1.toNat : Int))).setCell ⟨pb, 1, none⟩ (.int .u32 (nid : Int))).setCell ⟨pb, 2, none⟩ (.bool df)).setCell ⟨pb, 3, none⟩ (.bool mf)).setCell ⟨pb, 4, none⟩ (.int .i64 ((bt : Int) % 8192 * 8))).setCell ⟨pb, 5, none⟩ (.int .u32 (b8.toNat : Int))).setCell ⟨pb, 6, none⟩ (.int .u32 (b9.toNat : Int))).setCell ⟨pb, 7, none⟩ (.int .u32 (nsrc : Int))).setCell ⟨pb, 8, none⟩ (.int .u32 (ndst : Int))).setCell ⟨pb, 9, none⟩ (.string (bs bb))) = wf at r9 hx ⊢
        replace B_pb := Lib.hid r9
        clear r9
        have HX_wf := Lib.hid hx
        clear hx
        have hS : Ex (fun _ => False) w3 wf := ((HX_wd.out.trans HX_we.out).andThen HX_wf.out (fun i hi e => by have := HX_wd.out.size; have := hb_pb; omega))
        refine hK.out _ _ hS (fun _ => ?_)
        refine wpAnyH_done (by kernel_rfl) ?_ _
        go_wp2_with fail
        go_meet
        exact ⟨pb, rfl, Lib.hid B_pb.out, Lib.hid ((HX_wd.out.trans HX_we.out).andThen HX_wf.out (fun i hi e => by have := HX_wd.out.size; have := hb_pb; omega))⟩
      refine AllReadyH.cons (o := { dst := some 6, op := Go.Op.alloc 55, type := 0, pos := "ref.go:77", after := #[], guard := none }) rfl (fun K hK => ?_) AllReadyH.nil
      go_simp
      have hx : Ex (fun _ => False) wd (wd.alloc (.cells #[.int .u32 0, .int .u32 0, .bool false, .bool false, .int .i64 0, .int .u32 0, .int .u32 0, .int .u32 0, .int .u32 0, .string ⟨#[]⟩] 55)) := (Ex.refl _ wd).alloc _
      have hb : (wd.alloc (.cells #[.int .u32 0, .int .u32 0, .bool false, .bool false, .int .i64 0, .int .u32 0, .int .u32 0, .int .u32 0, .int .u32 0, .string ⟨#[]⟩] 55)).heap[wd.heap.size]? = some (.cells #[.int .u32 0, .int .u32 0, .bool false, .bool false, .int .i64 0, .int .u32 0, .int .u32 0, .int .u32 0, .int .u32 0, .string ⟨#[]⟩] 55) := heap_alloc_new wd _
      obtain ⟨pb, hpb⟩ : ∃ pb, pb = wd.heap.size := ⟨_, rfl⟩
      have hb_pb : wd.heap.size ≤ pb := by omega
      rw [← hpb] at hb
      try simp only [← hpb]
      generalize wd.alloc (.cells #[.int .u32 0, .int .u32 0, .bool false, .bool false, .int .i64 0, .int .u32 0, .int .u32 0, .int .u32 0, .int .u32 0, .string ⟨#[]⟩] 55) = we at hx hb ⊢
      clear hpb
      have HX_we := Lib.hid hx
      clear hx
      have B_pb := Lib.hid hb
      clear hb
      have hS : Ex (fun _ => False) w3 we := (HX_wd.out.trans HX_we.out)
      refine hK.out _ _ hS (fun _ => ?_)
      refine wpAnyH_ready (rs := [26]) (by kernel_rfl) (by simp) ?_
      refine AllReadyH.cons (o := { dst := some 73, op := Go.Op.call { callee := Go.Callee.value (Go.Operand.func 44), args := #[Go.Operand.tmp 72], argTypes := #[9] }, type := 26, pos := "ref.go:77", after := #[{ on := 25, ground := Go.Ground.data }, { on := 5, ground := Go.Ground.chain }], guard := none }) rfl (fun K hK => ?_) AllReadyH.nil
      go_simp
      refine (rnum_any [l.getD 12 0, l.getD 13 0, l.getD 14 0, l.getD 15 0] (by simp) _).mono ?_
      rintro e v ⟨rfl, rfl⟩
      rw [HSRC.out]
      refine hK.out _ _ hS (fun _ => ?_)
      refine wpAnyH_ready (rs := [29]) (by kernel_rfl) (by simp) ?_
      refine AllReadyH.cons (o := { dst := some 76, op := Go.Op.call { callee := Go.Callee.value (Go.Operand.func 44), args := #[Go.Operand.tmp 75], argTypes := #[9] }, type := 26, pos := "ref.go:77", after := #[{ on := 28, ground := Go.Ground.data }, { on := 26, ground := Go.Ground.chain }], guard := none }) rfl (fun K hK => ?_) AllReadyH.nil
      go_simp
      refine (rnum_any [l.getD 16 0, l.getD 17 0, l.getD 18 0, l.getD 19 0] (by simp) _).mono ?_
      rintro e v ⟨rfl, rfl⟩
      rw [HDST.out]
      refine hK.out _ _ hS (fun _ => ?_)
      refine wpAnyH_take (i := 33) (oi := { dst := some 80, op := Go.Op.build 55 #[(0, Go.Operand.tmp 49), (1, Go.Operand.tmp 52), (2, Go.Operand.tmp 56), (3, Go.Operand.tmp 60), (4, Go.Operand.tmp 64), (5, Go.Operand.tmp 67), (6, Go.Operand.tmp 70), (7, Go.Operand.tmp 73), (8, Go.Operand.tmp 76), (9, Go.Operand.tmp 79)], type := 55, pos := "ref.go:77", after := #[{ on := 2, ground := Go.Ground.data }, { on := 5, ground := Go.Ground.data }, { on := 9, ground := Go.Ground.data }, { on := 13, ground := Go.Ground.data }, { on := 17, ground := Go.Ground.data }, { on := 20, ground := Go.Ground.data }, { on := 23, ground := Go.Ground.data }, { on := 26, ground := Go.Ground.data }, { on := 29, ground := Go.Ground.data }, { on := 32, ground := Go.Ground.data }], guard := none }) (v := ?v33) rfl (by kernel_rfl) (by kernel_rfl) (by kernel_rfl) (fun _ _ _ h => h) (Or.inl ⟨by rfl, ?hy33⟩) (by assumption) ?rest33
      case hy33 => (intro w hSw; (try dsimp only at hSw); go_simp <;> with_reducible rfl)
      try simp only [Act.put, List.setIfInBounds_toArray, List.set_cons_zero, List.set_cons_succ]
      refine wpAnyH_ready (rs := [35]) (by kernel_rfl) (by simp) ?_
      refine AllReadyH.cons (o := { dst := none, op := Go.Op.store 55 (Go.Operand.tmp 6) (Go.Operand.tmp 80), type := 0, pos := "ref.go:77", after := #[{ on := 34, ground := Go.Ground.data }, { on := 33, ground := Go.Ground.data }, { on := 29, ground := Go.Ground.chain }, { on := 0, ground := Go.Ground.phase }, { on := 1, ground := Go.Ground.phase }, { on := 2, ground := Go.Ground.phase }, { on := 3, ground := Go.Ground.phase }, { on := 4, ground := Go.Ground.phase }, { on := 5, ground := Go.Ground.phase }, { on := 6, ground := Go.Ground.phase }, { on := 7, ground := Go.Ground.phase }, { on := 8, ground := Go.Ground.phase }, { on := 9, ground := Go.Ground.phase }, { on := 10, ground := Go.Ground.phase }, { on := 11, ground := Go.Ground.phase }, { on := 12, ground := Go.Ground.phase }, { on := 13, ground := Go.Ground.phase }, { on := 14, ground := Go.Ground.phase }, { on := 15, ground := Go.Ground.phase }, { on := 16, ground := Go.Ground.phase }, { on := 17, ground := Go.Ground.phase }, { on := 18, ground := Go.Ground.phase }, { on := 19, ground := Go.Ground.phase }, { on := 20, ground := Go.Ground.phase }, { on := 21, ground := Go.Ground.phase }, { on := 22, ground := Go.Ground.phase }, { on := 23, ground := Go.Ground.phase }, { on := 24, ground := Go.Ground.phase }, { on := 25, ground := Go.Ground.phase }, { on := 26, ground := Go.Ground.phase }, { on := 27, ground := Go.Ground.phase }, { on := 28, ground := Go.Ground.phase }, { on := 29, ground := Go.Ground.phase }, { on := 30, ground := Go.Ground.phase }, { on := 31, ground := Go.Ground.phase }, { on := 32, ground := Go.Ground.phase }, { on := 33, ground := Go.Ground.phase }, { on := 34, ground := Go.Ground.phase }], guard := none }) rfl (fun K hK => ?_) AllReadyH.nil
      have cpb0 := row_cell (k := 0) (v := .int .u32 0) B_pb.out rfl
      have cpb1 := row_cell (k := 1) (v := .int .u32 0) B_pb.out rfl
      have cpb2 := row_cell (k := 2) (v := .bool false) B_pb.out rfl
      have cpb3 := row_cell (k := 3) (v := .bool false) B_pb.out rfl
      have cpb4 := row_cell (k := 4) (v := .int .i64 0) B_pb.out rfl
      have cpb5 := row_cell (k := 5) (v := .int .u32 0) B_pb.out rfl
      have cpb6 := row_cell (k := 6) (v := .int .u32 0) B_pb.out rfl
      have cpb7 := row_cell (k := 7) (v := .int .u32 0) B_pb.out rfl
      have cpb8 := row_cell (k := 8) (v := .int .u32 0) B_pb.out rfl
      have cpb9 := row_cell (k := 9) (v := .string ⟨#[]⟩) B_pb.out rfl
      have fpb0 := row_frozen B_pb.out 0
      have fpb1 := row_frozen B_pb.out 1
      have fpb2 := row_frozen B_pb.out 2
      have fpb3 := row_frozen B_pb.out 3
      have fpb4 := row_frozen B_pb.out 4
      have fpb5 := row_frozen B_pb.out 5
      have fpb6 := row_frozen B_pb.out 6
      have fpb7 := row_frozen B_pb.out 7
      have fpb8 := row_frozen B_pb.out 8
      have fpb9 := row_frozen B_pb.out 9
      go_simp
      have r0 : (we.setCell ⟨pb, 0, none⟩ (.int .u32 (b1.toNat : Int))).heap[pb]? = some (.cells #[.int .u32 (b1.toNat : Int), .int .u32 0, .bool false, .bool false, .int .i64 0, .int .u32 0, .int .u32 0, .int .u32 0, .int .u32 0, .string ⟨#[]⟩] 55) := row_set B_pb.out 0 (.int .u32 (b1.toNat : Int))
      have r1 : ((we.setCell ⟨pb, 0, none⟩ (.int .u32 (b1.toNat : Int))).setCell ⟨pb, 1, none⟩ (.int .u32 (nid : Int))).heap[pb]? = some (.cells #[.int .u32 (b1.toNat : Int), .int .u32 (nid : Int), .bool false, .bool false, .int .i64 0, .int .u32 0, .int .u32 0, .int .u32 0, .int .u32 0, .string ⟨#[]⟩] 55) := row_set r0 1 (.int .u32 (nid : Int))
      clear r0
      have r2 : (((we.setCell ⟨pb, 0, none⟩ (.int .u32 (b1.toNat : Int))).setCell ⟨pb, 1, none⟩ (.int .u32 (nid : Int))).setCell ⟨pb, 2, none⟩ (.bool df)).heap[pb]? = some (.cells #[.int .u32 (b1.toNat : Int), .int .u32 (nid : Int), .bool df, .bool false, .int .i64 0, .int .u32 0, .int .u32 0, .int .u32 0, .int .u32 0, .string ⟨#[]⟩] 55) := row_set r1 2 (.bool df)
      clear r1
      have r3 : ((((we.setCell ⟨pb, 0, none⟩ (.int .u32 (b1.toNat : Int))).setCell ⟨pb, 1, none⟩ (.int .u32 (nid : Int))).setCell ⟨pb, 2, none⟩ (.bool df)).setCell ⟨pb, 3, none⟩ (.bool mf)).heap[pb]? = some (.cells #[.int .u32 (b1.toNat : Int), .int .u32 (nid : Int), .bool df, .bool mf, .int .i64 0, .int .u32 0, .int .u32 0, .int .u32 0, .int .u32 0, .string ⟨#[]⟩] 55) := row_set r2 3 (.bool mf)
      clear r2
      have r4 : (((((we.setCell ⟨pb, 0, none⟩ (.int .u32 (b1.toNat : Int))).setCell ⟨pb, 1, none⟩ (.int .u32 (nid : Int))).setCell ⟨pb, 2, none⟩ (.bool df)).setCell ⟨pb, 3, none⟩ (.bool mf)).setCell ⟨pb, 4, none⟩ (.int .i64 ((bt : Int) % 8192 * 8))).heap[pb]? = some (.cells #[.int .u32 (b1.toNat : Int), .int .u32 (nid : Int), .bool df, .bool mf, .int .i64 ((bt : Int) % 8192 * 8), .int .u32 0, .int .u32 0, .int .u32 0, .int .u32 0, .string ⟨#[]⟩] 55) := row_set r3 4 (.int .i64 ((bt : Int) % 8192 * 8))
      clear r3
      have r5 : ((((((we.setCell ⟨pb, 0, none⟩ (.int .u32 (b1.toNat : Int))).setCell ⟨pb, 1, none⟩ (.int .u32 (nid : Int))).setCell ⟨pb, 2, none⟩ (.bool df)).setCell ⟨pb, 3, none⟩ (.bool mf)).setCell ⟨pb, 4, none⟩ (.int .i64 ((bt : Int) % 8192 * 8))).setCell ⟨pb, 5, none⟩ (.int .u32 (b8.toNat : Int))).heap[pb]? = some (.cells #[.int .u32 (b1.toNat : Int), .int .u32 (nid : Int), .bool df, .bool mf, .int .i64 ((bt : Int) % 8192 * 8), .int .u32 (b8.toNat : Int), .int .u32 0, .int .u32 0, .int .u32 0, .string ⟨#[]⟩] 55) := row_set r4 5 (.int .u32 (b8.toNat : Int))
      clear r4
      have r6 : (((((((we.setCell ⟨pb, 0, none⟩ (.int .u32 (b1.toNat : Int))).setCell ⟨pb, 1, none⟩ (.int .u32 (nid : Int))).setCell ⟨pb, 2, none⟩ (.bool df)).setCell ⟨pb, 3, none⟩ (.bool mf)).setCell ⟨pb, 4, none⟩ (.int .i64 ((bt : Int) % 8192 * 8))).setCell ⟨pb, 5, none⟩ (.int .u32 (b8.toNat : Int))).setCell ⟨pb, 6, none⟩ (.int .u32 (b9.toNat : Int))).heap[pb]? = some (.cells #[.int .u32 (b1.toNat : Int), .int .u32 (nid : Int), .bool df, .bool mf, .int .i64 ((bt : Int) % 8192 * 8), .int .u32 (b8.toNat : Int), .int .u32 (b9.toNat : Int), .int .u32 0, .int .u32 0, .string ⟨#[]⟩] 55) := row_set r5 6 (.int .u32 (b9.toNat : Int))
      clear r5
      have r7 : ((((((((we.setCell ⟨pb, 0, none⟩ (.int .u32 (b1.toNat : Int))).setCell ⟨pb, 1, none⟩ (.int .u32 (nid : Int))).setCell ⟨pb, 2, none⟩ (.bool df)).setCell ⟨pb, 3, none⟩ (.bool mf)).setCell ⟨pb, 4, none⟩ (.int .i64 ((bt : Int) % 8192 * 8))).setCell ⟨pb, 5, none⟩ (.int .u32 (b8.toNat : Int))).setCell ⟨pb, 6, none⟩ (.int .u32 (b9.toNat : Int))).setCell ⟨pb, 7, none⟩ (.int .u32 (nsrc : Int))).heap[pb]? = some (.cells #[.int .u32 (b1.toNat : Int), .int .u32 (nid : Int), .bool df, .bool mf, .int .i64 ((bt : Int) % 8192 * 8), .int .u32 (b8.toNat : Int), .int .u32 (b9.toNat : Int), .int .u32 (nsrc : Int), .int .u32 0, .string ⟨#[]⟩] 55) := row_set r6 7 (.int .u32 (nsrc : Int))
      clear r6
      have r8 : (((((((((we.setCell ⟨pb, 0, none⟩ (.int .u32 (b1.toNat : Int))).setCell ⟨pb, 1, none⟩ (.int .u32 (nid : Int))).setCell ⟨pb, 2, none⟩ (.bool df)).setCell ⟨pb, 3, none⟩ (.bool mf)).setCell ⟨pb, 4, none⟩ (.int .i64 ((bt : Int) % 8192 * 8))).setCell ⟨pb, 5, none⟩ (.int .u32 (b8.toNat : Int))).setCell ⟨pb, 6, none⟩ (.int .u32 (b9.toNat : Int))).setCell ⟨pb, 7, none⟩ (.int .u32 (nsrc : Int))).setCell ⟨pb, 8, none⟩ (.int .u32 (ndst : Int))).heap[pb]? = some (.cells #[.int .u32 (b1.toNat : Int), .int .u32 (nid : Int), .bool df, .bool mf, .int .i64 ((bt : Int) % 8192 * 8), .int .u32 (b8.toNat : Int), .int .u32 (b9.toNat : Int), .int .u32 (nsrc : Int), .int .u32 (ndst : Int), .string ⟨#[]⟩] 55) := row_set r7 8 (.int .u32 (ndst : Int))
      clear r7
      have r9 : ((((((((((we.setCell ⟨pb, 0, none⟩ (.int .u32 (b1.toNat : Int))).setCell ⟨pb, 1, none⟩ (.int .u32 (nid : Int))).setCell ⟨pb, 2, none⟩ (.bool df)).setCell ⟨pb, 3, none⟩ (.bool mf)).setCell ⟨pb, 4, none⟩ (.int .i64 ((bt : Int) % 8192 * 8))).setCell ⟨pb, 5, none⟩ (.int .u32 (b8.toNat : Int))).setCell ⟨pb, 6, none⟩ (.int .u32 (b9.toNat : Int))).setCell ⟨pb, 7, none⟩ (.int .u32 (nsrc : Int))).setCell ⟨pb, 8, none⟩ (.int .u32 (ndst : Int))).setCell ⟨pb, 9, none⟩ (.string (bs bb))).heap[pb]? = some (.cells #[.int .u32 (b1.toNat : Int), .int .u32 (nid : Int), .bool df, .bool mf, .int .i64 ((bt : Int) % 8192 * 8), .int .u32 (b8.toNat : Int), .int .u32 (b9.toNat : Int), .int .u32 (nsrc : Int), .int .u32 (ndst : Int), .string (bs bb)] 55) := row_set r8 9 (.string (bs bb))
      clear r8
      have hx : Ex (fun j => j = pb) we ((((((((((we.setCell ⟨pb, 0, none⟩ (.int .u32 (b1.toNat : Int))).setCell ⟨pb, 1, none⟩ (.int .u32 (nid : Int))).setCell ⟨pb, 2, none⟩ (.bool df)).setCell ⟨pb, 3, none⟩ (.bool mf)).setCell ⟨pb, 4, none⟩ (.int .i64 ((bt : Int) % 8192 * 8))).setCell ⟨pb, 5, none⟩ (.int .u32 (b8.toNat : Int))).setCell ⟨pb, 6, none⟩ (.int .u32 (b9.toNat : Int))).setCell ⟨pb, 7, none⟩ (.int .u32 (nsrc : Int))).setCell ⟨pb, 8, none⟩ (.int .u32 (ndst : Int))).setCell ⟨pb, 9, none⟩ (.string (bs bb))) := (((((((((((Ex.refl (fun j => j = pb) we).setCell (p := ⟨pb, 0, none⟩) (.inl rfl) (.int .u32 (b1.toNat : Int))).setCell (p := ⟨pb, 1, none⟩) (.inl rfl) (.int .u32 (nid : Int))).setCell (p := ⟨pb, 2, none⟩) (.inl rfl) (.bool df)).setCell (p := ⟨pb, 3, none⟩) (.inl rfl) (.bool mf)).setCell (p := ⟨pb, 4, none⟩) (.inl rfl) (.int .i64 ((bt : Int) % 8192 * 8))).setCell (p := ⟨pb, 5, none⟩) (.inl rfl) (.int .u32 (b8.toNat : Int))).setCell (p := ⟨pb, 6, none⟩) (.inl rfl) (.int .u32 (b9.toNat : Int))).setCell (p := ⟨pb, 7, none⟩) (.inl rfl) (.int .u32 (nsrc : Int))).setCell (p := ⟨pb, 8, none⟩) (.inl rfl) (.int .u32 (ndst : Int))).setCell (p := ⟨pb, 9, none⟩) (.inl rfl) (.string (bs bb)))
      clear cpb0 cpb1 cpb2 cpb3 cpb4 cpb5 cpb6 cpb7 cpb8 cpb9 fpb0 fpb1 fpb2 fpb3 fpb4 fpb5 fpb6 fpb7 fpb8 fpb9
      generalize ((((((((((we.setCell ⟨pb, 0, none⟩ (.int .u32 (b1.toNat : Int))).setCell ⟨pb, 1, none⟩ (.int .u32 (nid : Int))).setCell ⟨pb, 2, none⟩ (.bool df)).setCell ⟨pb, 3, none⟩ (.bool mf)).setCell ⟨pb, 4, none⟩ (.int .i64 ((bt : Int) % 8192 * 8))).setCell ⟨pb, 5, none⟩ (.int .u32 (b8.toNat : Int))).setCell ⟨pb, 6, none⟩ (.int .u32 (b9.toNat : Int))).setCell ⟨pb, 7, none⟩ (.int .u32 (nsrc : Int))).setCell ⟨pb, 8, none⟩ (.int .u32 (ndst : Int))).setCell ⟨pb, 9, none⟩ (.string (bs bb))) = wf at r9 hx ⊢
      replace B_pb := Lib.hid r9
      clear r9
      have HX_wf := Lib.hid hx
      clear hx
      have hS : Ex (fun _ => False) w3 wf := ((HX_wd.out.trans HX_we.out).andThen HX_wf.out (fun i hi e => by have := HX_wd.out.size; have := hb_pb; omega))
      refine hK.out _ _ hS (fun _ => ?_)
      refine wpAnyH_done (by kernel_rfl) ?_ _
      go_wp2_with fail
      go_meet
      exact ⟨pb, rfl, Lib.hid B_pb.out, Lib.hid ((HX_wd.out.trans HX_we.out).andThen HX_wf.out (fun i hi e => by have := HX_wd.out.size; have := hb_pb; omega))⟩
    refine AllReadyH.cons (o := { dst := some 6, op := Go.Op.alloc 55, type := 0, pos := "ref.go:77", after := #[], guard := none }) rfl (fun K hK => ?_) AllReadyH.nil
    go_simp
    have hx : Ex (fun _ => False) wd (wd.alloc (.cells #[.int .u32 0, .int .u32 0, .bool false, .bool false, .int .i64 0, .int .u32 0, .int .u32 0, .int .u32 0, .int .u32 0, .string ⟨#[]⟩] 55)) := (Ex.refl _ wd).alloc _
    have hb : (wd.alloc (.cells #[.int .u32 0, .int .u32 0, .bool false, .bool false, .int .i64 0, .int .u32 0, .int .u32 0, .int .u32 0, .int .u32 0, .string ⟨#[]⟩] 55)).heap[wd.heap.size]? = some (.cells #[.int .u32 0, .int .u32 0, .bool false, .bool false, .int .i64 0, .int .u32 0, .int .u32 0, .int .u32 0, .int .u32 0, .string ⟨#[]⟩] 55) := heap_alloc_new wd _
    obtain ⟨pb, hpb⟩ : ∃ pb, pb = wd.heap.size := ⟨_, rfl⟩
    have hb_pb : wd.heap.size ≤ pb := by omega
    rw [← hpb] at hb
    try simp only [← hpb]
    generalize wd.alloc (.cells #[.int .u32 0, .int .u32 0, .bool false, .bool false, .int .i64 0, .int .u32 0, .int .u32 0, .int .u32 0, .int .u32 0, .string ⟨#[]⟩] 55) = we at hx hb ⊢
    clear hpb
    have HX_we := Lib.hid hx
    clear hx
    have B_pb := Lib.hid hb
    clear hb
    have hS : Ex (fun _ => False) w3 we := (HX_wd.out.trans HX_we.out)
    refine hK.out _ _ hS (fun _ => ?_)
    refine wpAnyH_ready (rs := [5]) (by kernel_rfl) (by simp) ?_
    refine AllReadyH.cons (o := { dst := some 52, op := Go.Op.call { callee := Go.Callee.value (Go.Operand.func 44), args := #[Go.Operand.tmp 51], argTypes := #[9] }, type := 26, pos := "ref.go:77", after := #[{ on := 4, ground := Go.Ground.data }], guard := none }) rfl (fun K hK => ?_) AllReadyH.nil
    go_simp
    refine (rnum_any [l.getD 4 0, l.getD 5 0] (by simp) _).mono ?_
    rintro e v ⟨rfl, rfl⟩
    rw [HID.out]
    refine hK.out _ _ hS (fun _ => ?_)
    refine wpAnyH_ready (rs := [26]) (by kernel_rfl) (by simp) ?_
    refine AllReadyH.cons (o := { dst := some 73, op := Go.Op.call { callee := Go.Callee.value (Go.Operand.func 44), args := #[Go.Operand.tmp 72], argTypes := #[9] }, type := 26, pos := "ref.go:77", after := #[{ on := 25, ground := Go.Ground.data }, { on := 5, ground := Go.Ground.chain }], guard := none }) rfl (fun K hK => ?_) AllReadyH.nil
    go_simp
    refine (rnum_any [l.getD 12 0, l.getD 13 0, l.getD 14 0, l.getD 15 0] (by simp) _).mono ?_
    rintro e v ⟨rfl, rfl⟩
    rw [HSRC.out]
    refine hK.out _ _ hS (fun _ => ?_)
    refine wpAnyH_ready (rs := [29]) (by kernel_rfl) (by simp) ?_
    refine AllReadyH.cons (o := { dst := some 76, op := Go.Op.call { callee := Go.Callee.value (Go.Operand.func 44), args := #[Go.Operand.tmp 75], argTypes := #[9] }, type := 26, pos := "ref.go:77", after := #[{ on := 28, ground := Go.Ground.data }, { on := 26, ground := Go.Ground.chain }], guard := none }) rfl (fun K hK => ?_) AllReadyH.nil
    go_simp
    refine (rnum_any [l.getD 16 0, l.getD 17 0, l.getD 18 0, l.getD 19 0] (by simp) _).mono ?_
    rintro e v ⟨rfl, rfl⟩
    rw [HDST.out]
    refine hK.out _ _ hS (fun _ => ?_)
    refine wpAnyH_take (i := 33) (oi := { dst := some 80, op := Go.Op.build 55 #[(0, Go.Operand.tmp 49), (1, Go.Operand.tmp 52), (2, Go.Operand.tmp 56), (3, Go.Operand.tmp 60), (4, Go.Operand.tmp 64), (5, Go.Operand.tmp 67), (6, Go.Operand.tmp 70), (7, Go.Operand.tmp 73), (8, Go.Operand.tmp 76), (9, Go.Operand.tmp 79)], type := 55, pos := "ref.go:77", after := #[{ on := 2, ground := Go.Ground.data }, { on := 5, ground := Go.Ground.data }, { on := 9, ground := Go.Ground.data }, { on := 13, ground := Go.Ground.data }, { on := 17, ground := Go.Ground.data }, { on := 20, ground := Go.Ground.data }, { on := 23, ground := Go.Ground.data }, { on := 26, ground := Go.Ground.data }, { on := 29, ground := Go.Ground.data }, { on := 32, ground := Go.Ground.data }], guard := none }) (v := ?v34) rfl (by kernel_rfl) (by kernel_rfl) (by kernel_rfl) (fun _ _ _ h => h) (Or.inl ⟨by rfl, ?hy34⟩) (by assumption) ?rest34
    case hy34 => (intro w hSw; (try dsimp only at hSw); go_simp <;> with_reducible rfl)
    try simp only [Act.put, List.setIfInBounds_toArray, List.set_cons_zero, List.set_cons_succ]
    refine wpAnyH_ready (rs := [35]) (by kernel_rfl) (by simp) ?_
    refine AllReadyH.cons (o := { dst := none, op := Go.Op.store 55 (Go.Operand.tmp 6) (Go.Operand.tmp 80), type := 0, pos := "ref.go:77", after := #[{ on := 34, ground := Go.Ground.data }, { on := 33, ground := Go.Ground.data }, { on := 29, ground := Go.Ground.chain }, { on := 0, ground := Go.Ground.phase }, { on := 1, ground := Go.Ground.phase }, { on := 2, ground := Go.Ground.phase }, { on := 3, ground := Go.Ground.phase }, { on := 4, ground := Go.Ground.phase }, { on := 5, ground := Go.Ground.phase }, { on := 6, ground := Go.Ground.phase }, { on := 7, ground := Go.Ground.phase }, { on := 8, ground := Go.Ground.phase }, { on := 9, ground := Go.Ground.phase }, { on := 10, ground := Go.Ground.phase }, { on := 11, ground := Go.Ground.phase }, { on := 12, ground := Go.Ground.phase }, { on := 13, ground := Go.Ground.phase }, { on := 14, ground := Go.Ground.phase }, { on := 15, ground := Go.Ground.phase }, { on := 16, ground := Go.Ground.phase }, { on := 17, ground := Go.Ground.phase }, { on := 18, ground := Go.Ground.phase }, { on := 19, ground := Go.Ground.phase }, { on := 20, ground := Go.Ground.phase }, { on := 21, ground := Go.Ground.phase }, { on := 22, ground := Go.Ground.phase }, { on := 23, ground := Go.Ground.phase }, { on := 24, ground := Go.Ground.phase }, { on := 25, ground := Go.Ground.phase }, { on := 26, ground := Go.Ground.phase }, { on := 27, ground := Go.Ground.phase }, { on := 28, ground := Go.Ground.phase }, { on := 29, ground := Go.Ground.phase }, { on := 30, ground := Go.Ground.phase }, { on := 31, ground := Go.Ground.phase }, { on := 32, ground := Go.Ground.phase }, { on := 33, ground := Go.Ground.phase }, { on := 34, ground := Go.Ground.phase }], guard := none }) rfl (fun K hK => ?_) AllReadyH.nil
    have cpb0 := row_cell (k := 0) (v := .int .u32 0) B_pb.out rfl
    have cpb1 := row_cell (k := 1) (v := .int .u32 0) B_pb.out rfl
    have cpb2 := row_cell (k := 2) (v := .bool false) B_pb.out rfl
    have cpb3 := row_cell (k := 3) (v := .bool false) B_pb.out rfl
    have cpb4 := row_cell (k := 4) (v := .int .i64 0) B_pb.out rfl
    have cpb5 := row_cell (k := 5) (v := .int .u32 0) B_pb.out rfl
    have cpb6 := row_cell (k := 6) (v := .int .u32 0) B_pb.out rfl
    have cpb7 := row_cell (k := 7) (v := .int .u32 0) B_pb.out rfl
    have cpb8 := row_cell (k := 8) (v := .int .u32 0) B_pb.out rfl
    have cpb9 := row_cell (k := 9) (v := .string ⟨#[]⟩) B_pb.out rfl
    have fpb0 := row_frozen B_pb.out 0
    have fpb1 := row_frozen B_pb.out 1
    have fpb2 := row_frozen B_pb.out 2
    have fpb3 := row_frozen B_pb.out 3
    have fpb4 := row_frozen B_pb.out 4
    have fpb5 := row_frozen B_pb.out 5
    have fpb6 := row_frozen B_pb.out 6
    have fpb7 := row_frozen B_pb.out 7
    have fpb8 := row_frozen B_pb.out 8
    have fpb9 := row_frozen B_pb.out 9
    go_simp
    have r0 : (we.setCell ⟨pb, 0, none⟩ (.int .u32 (b1.toNat : Int))).heap[pb]? = some (.cells #[.int .u32 (b1.toNat : Int), .int .u32 0, .bool false, .bool false, .int .i64 0, .int .u32 0, .int .u32 0, .int .u32 0, .int .u32 0, .string ⟨#[]⟩] 55) := row_set B_pb.out 0 (.int .u32 (b1.toNat : Int))
    have r1 : ((we.setCell ⟨pb, 0, none⟩ (.int .u32 (b1.toNat : Int))).setCell ⟨pb, 1, none⟩ (.int .u32 (nid : Int))).heap[pb]? = some (.cells #[.int .u32 (b1.toNat : Int), .int .u32 (nid : Int), .bool false, .bool false, .int .i64 0, .int .u32 0, .int .u32 0, .int .u32 0, .int .u32 0, .string ⟨#[]⟩] 55) := row_set r0 1 (.int .u32 (nid : Int))
    clear r0
    have r2 : (((we.setCell ⟨pb, 0, none⟩ (.int .u32 (b1.toNat : Int))).setCell ⟨pb, 1, none⟩ (.int .u32 (nid : Int))).setCell ⟨pb, 2, none⟩ (.bool df)).heap[pb]? = some (.cells #[.int .u32 (b1.toNat : Int), .int .u32 (nid : Int), .bool df, .bool false, .int .i64 0, .int .u32 0, .int .u32 0, .int .u32 0, .int .u32 0, .string ⟨#[]⟩] 55) := row_set r1 2 (.bool df)
    clear r1
    have r3 : ((((we.setCell ⟨pb, 0, none⟩ (.int .u32 (b1.toNat : Int))).setCell ⟨pb, 1, none⟩ (.int .u32 (nid : Int))).setCell ⟨pb, 2, none⟩ (.bool df)).setCell ⟨pb, 3, none⟩ (.bool mf)).heap[pb]? = some (.cells #[.int .u32 (b1.toNat : Int), .int .u32 (nid : Int), .bool df, .bool mf, .int .i64 0, .int .u32 0, .int .u32 0, .int .u32 0, .int .u32 0, .string ⟨#[]⟩] 55) := row_set r2 3 (.bool mf)
    clear r2
    have r4 : (((((we.setCell ⟨pb, 0, none⟩ (.int .u32 (b1.toNat : Int))).setCell ⟨pb, 1, none⟩ (.int .u32 (nid : Int))).setCell ⟨pb, 2, none⟩ (.bool df)).setCell ⟨pb, 3, none⟩ (.bool mf)).setCell ⟨pb, 4, none⟩ (.int .i64 ((bt : Int) % 8192 * 8))).heap[pb]? = some (.cells #[.int .u32 (b1.toNat : Int), .int .u32 (nid : Int), .bool df, .bool mf, .int .i64 ((bt : Int) % 8192 * 8), .int .u32 0, .int .u32 0, .int .u32 0, .int .u32 0, .string ⟨#[]⟩] 55) := row_set r3 4 (.int .i64 ((bt : Int) % 8192 * 8))
    clear r3
    have r5 : ((((((we.setCell ⟨pb, 0, none⟩ (.int .u32 (b1.toNat : Int))).setCell ⟨pb, 1, none⟩ (.int .u32 (nid : Int))).setCell ⟨pb, 2, none⟩ (.bool df)).setCell ⟨pb, 3, none⟩ (.bool mf)).setCell ⟨pb, 4, none⟩ (.int .i64 ((bt : Int) % 8192 * 8))).setCell ⟨pb, 5, none⟩ (.int .u32 (b8.toNat : Int))).heap[pb]? = some (.cells #[.int .u32 (b1.toNat : Int), .int .u32 (nid : Int), .bool df, .bool mf, .int .i64 ((bt : Int) % 8192 * 8), .int .u32 (b8.toNat : Int), .int .u32 0, .int .u32 0, .int .u32 0, .string ⟨#[]⟩] 55) := row_set r4 5 (.int .u32 (b8.toNat : Int))
    clear r4
    have r6 : (((((((we.setCell ⟨pb, 0, none⟩ (.int .u32 (b1.toNat : Int))).setCell ⟨pb, 1, none⟩ (.int .u32 (nid : Int))).setCell ⟨pb, 2, none⟩ (.bool df)).setCell ⟨pb, 3, none⟩ (.bool mf)).setCell ⟨pb, 4, none⟩ (.int .i64 ((bt : Int) % 8192 * 8))).setCell ⟨pb, 5, none⟩ (.int .u32 (b8.toNat : Int))).setCell ⟨pb, 6, none⟩ (.int .u32 (b9.toNat : Int))).heap[pb]? = some (.cells #[.int .u32 (b1.toNat : Int), .int .u32 (nid : Int), .bool df, .bool mf, .int .i64 ((bt : Int) % 8192 * 8), .int .u32 (b8.toNat : Int), .int .u32 (b9.toNat : Int), .int .u32 0, .int .u32 0, .string ⟨#[]⟩] 55) := row_set r5 6 (.int .u32 (b9.toNat : Int))
    clear r5
    have r7 : ((((((((we.setCell ⟨pb, 0, none⟩ (.int .u32 (b1.toNat : Int))).setCell ⟨pb, 1, none⟩ (.int .u32 (nid : Int))).setCell ⟨pb, 2, none⟩ (.bool df)).setCell ⟨pb, 3, none⟩ (.bool mf)).setCell ⟨pb, 4, none⟩ (.int .i64 ((bt : Int) % 8192 * 8))).setCell ⟨pb, 5, none⟩ (.int .u32 (b8.toNat : Int))).setCell ⟨pb, 6, none⟩ (.int .u32 (b9.toNat : Int))).setCell ⟨pb, 7, none⟩ (.int .u32 (nsrc : Int))).heap[pb]? = some (.cells #[.int .u32 (b1.toNat : Int), .int .u32 (nid : Int), .bool df, .bool mf, .int .i64 ((bt : Int) % 8192 * 8), .int .u32 (b8.toNat : Int), .int .u32 (b9.toNat : Int), .int .u32 (nsrc : Int), .int .u32 0, .string ⟨#[]⟩] 55) := row_set r6 7 (.int .u32 (nsrc : Int))
    clear r6
    have r8 : (((((((((we.setCell ⟨pb, 0, none⟩ (.int .u32 (b1.toNat : Int))).setCell ⟨pb, 1, none⟩ (.int .u32 (nid : Int))).setCell ⟨pb, 2, none⟩ (.bool df)).setCell ⟨pb, 3, none⟩ (.bool mf)).setCell ⟨pb, 4, none⟩ (.int .i64 ((bt : Int) % 8192 * 8))).setCell ⟨pb, 5, none⟩ (.int .u32 (b8.toNat : Int))).setCell ⟨pb, 6, none⟩ (.int .u32 (b9.toNat : Int))).setCell ⟨pb, 7, none⟩ (.int .u32 (nsrc : Int))).setCell ⟨pb, 8, none⟩ (.int .u32 (ndst : Int))).heap[pb]? = some (.cells #[.int .u32 (b1.toNat : Int), .int .u32 (nid : Int), .bool df, .bool mf, .int .i64 ((bt : Int) % 8192 * 8), .int .u32 (b8.toNat : Int), .int .u32 (b9.toNat : Int), .int .u32 (nsrc : Int), .int .u32 (ndst : Int), .string ⟨#[]⟩] 55) := row_set r7 8 (.int .u32 (ndst : Int))
    clear r7
    have r9 : ((((((((((we.setCell ⟨pb, 0, none⟩ (.int .u32 (b1.toNat : Int))).setCell ⟨pb, 1, none⟩ (.int .u32 (nid : Int))).setCell ⟨pb, 2, none⟩ (.bool df)).setCell ⟨pb, 3, none⟩ (.bool mf)).setCell ⟨pb, 4, none⟩ (.int .i64 ((bt : Int) % 8192 * 8))).setCell ⟨pb, 5, none⟩ (.int .u32 (b8.toNat : Int))).setCell ⟨pb, 6, none⟩ (.int .u32 (b9.toNat : Int))).setCell ⟨pb, 7, none⟩ (.int .u32 (nsrc : Int))).setCell ⟨pb, 8, none⟩ (.int .u32 (ndst : Int))).setCell ⟨pb, 9, none⟩ (.string (bs bb))).heap[pb]? = some (.cells #[.int .u32 (b1.toNat : Int), .int .u32 (nid : Int), .bool df, .bool mf, .int .i64 ((bt : Int) % 8192 * 8), .int .u32 (b8.toNat : Int), .int .u32 (b9.toNat : Int), .int .u32 (nsrc : Int), .int .u32 (ndst : Int), .string (bs bb)] 55) := row_set r8 9 (.string (bs bb))
    clear r8
    have hx : Ex (fun j => j = pb) we ((((((((((we.setCell ⟨pb, 0, none⟩ (.int .u32 (b1.toNat : Int))).setCell ⟨pb, 1, none⟩ (.int .u32 (nid : Int))).setCell ⟨pb, 2, none⟩ (.bool df)).setCell ⟨pb, 3, none⟩ (.bool mf)).setCell ⟨pb, 4, none⟩ (.int .i64 ((bt : Int) % 8192 * 8))).setCell ⟨pb, 5, none⟩ (.int .u32 (b8.toNat : Int))).setCell ⟨pb, 6, none⟩ (.int .u32 (b9.toNat : Int))).setCell ⟨pb, 7, none⟩ (.int .u32 (nsrc : Int))).setCell ⟨pb, 8, none⟩ (.int .u32 (ndst : Int))).setCell ⟨pb, 9, none⟩ (.string (bs bb))) := (((((((((((Ex.refl (fun j => j = pb) we).setCell (p := ⟨pb, 0, none⟩) (.inl rfl) (.int .u32 (b1.toNat : Int))).setCell (p := ⟨pb, 1, none⟩) (.inl rfl) (.int .u32 (nid : Int))).setCell (p := ⟨pb, 2, none⟩) (.inl rfl) (.bool df)).setCell (p := ⟨pb, 3, none⟩) (.inl rfl) (.bool mf)).setCell (p := ⟨pb, 4, none⟩) (.inl rfl) (.int .i64 ((bt : Int) % 8192 * 8))).setCell (p := ⟨pb, 5, none⟩) (.inl rfl) (.int .u32 (b8.toNat : Int))).setCell (p := ⟨pb, 6, none⟩) (.inl rfl) (.int .u32 (b9.toNat : Int))).setCell (p := ⟨pb, 7, none⟩) (.inl rfl) (.int .u32 (nsrc : Int))).setCell (p := ⟨pb, 8, none⟩) (.inl rfl) (.int .u32 (ndst : Int))).setCell (p := ⟨pb, 9, none⟩) (.inl rfl) (.string (bs bb)))
    clear cpb0 cpb1 cpb2 cpb3 cpb4 cpb5 cpb6 cpb7 cpb8 cpb9 fpb0 fpb1 fpb2 fpb3 fpb4 fpb5 fpb6 fpb7 fpb8 fpb9
    generalize ((((((((((we.setCell ⟨pb, 0, none⟩ (.int .u32 (b1.toNat : Int))).setCell ⟨pb, 1, none⟩ (.int .u32 (nid : Int))).setCell ⟨pb, 2, none⟩ (.bool df)).setCell ⟨pb, 3, none⟩ (.bool mf)).setCell ⟨pb, 4, none⟩ (.int .i64 ((bt : Int) % 8192 * 8))).setCell ⟨pb, 5, none⟩ (.int .u32 (b8.toNat : Int))).setCell ⟨pb, 6, none⟩ (.int .u32 (b9.toNat : Int))).setCell ⟨pb, 7, none⟩ (.int .u32 (nsrc : Int))).setCell ⟨pb, 8, none⟩ (.int .u32 (ndst : Int))).setCell ⟨pb, 9, none⟩ (.string (bs bb))) = wf at r9 hx ⊢
    replace B_pb := Lib.hid r9
    clear r9
    have HX_wf := Lib.hid hx
    clear hx
    have hS : Ex (fun _ => False) w3 wf := ((HX_wd.out.trans HX_we.out).andThen HX_wf.out (fun i hi e => by have := HX_wd.out.size; have := hb_pb; omega))
    refine hK.out _ _ hS (fun _ => ?_)
    refine wpAnyH_done (by kernel_rfl) ?_ _
    go_wp2_with fail
    go_meet
    exact ⟨pb, rfl, Lib.hid B_pb.out, Lib.hid ((HX_wd.out.trans HX_we.out).andThen HX_wf.out (fun i hi e => by have := HX_wd.out.size; have := hb_pb; omega))⟩
  case rest =>
    obtain ⟨pb, rfl, B_pb, hx⟩ := hcut
    have hx := hx.out
    have HX_wc := Lib.hid hx
    clear hx
    have cpb0 := row_cell (k := 0) (v := .int .u32 (b1.toNat : Int)) B_pb.out rfl
    have cpb1 := row_cell (k := 1) (v := .int .u32 (nid : Int)) B_pb.out rfl
    have cpb2 := row_cell (k := 2) (v := .bool df) B_pb.out rfl
    have cpb3 := row_cell (k := 3) (v := .bool mf) B_pb.out rfl
    have cpb4 := row_cell (k := 4) (v := .int .i64 ((bt : Int) % 8192 * 8)) B_pb.out rfl
    have cpb5 := row_cell (k := 5) (v := .int .u32 (b8.toNat : Int)) B_pb.out rfl
    have cpb6 := row_cell (k := 6) (v := .int .u32 (b9.toNat : Int)) B_pb.out rfl
    have cpb7 := row_cell (k := 7) (v := .int .u32 (nsrc : Int)) B_pb.out rfl
    have cpb8 := row_cell (k := 8) (v := .int .u32 (ndst : Int)) B_pb.out rfl
    have cpb9 := row_cell (k := 9) (v := .string (bs bb)) B_pb.out rfl
    go_wp2_with fail
    refine (rright_any (⟨(b1.toNat : Int), (nid : Int), df, mf, (bt : Int) % 8192 * 8, (b8.toNat : Int), (b9.toNat : Int), (nsrc : Int), (ndst : Int), bb⟩ : Pk) wc (by show bb.length ≤ _; omega)).mono ?_
    rintro e w4 ⟨rfl, hx⟩
    clear cpb0 cpb1 cpb2 cpb3 cpb4 cpb5 cpb6 cpb7 cpb8 cpb9
    have HX_w4 := Lib.hid hx
    clear hx
    rw [HR (), show rtx [lay5] 0 = ⟨#[]⟩ from rfl]
    have f7 : ¬ (32768 : Int) ≤ (bt : Int) := by have := HGN (); omega
    have f8 : decide ((32768 : Int) ≤ (bt : Int)) = false := decide_eq_false f7
    clear f7 HR HGN lbt
    go_upto_region 21 with fail
    clear f8
    try clear p1
    try clear p2
    try clear t1
    try clear t2
    try clear t3
    try clear t4
    try clear t5
    try clear u1
    try clear u2
    try clear u3
    try clear u4
    try clear u5
    try clear u6
    try clear u7
    try clear u8
    try clear e0
    try clear e1
    try clear e8
    try clear e9
    try clear i1
    try clear i4
    try clear i5
    try clear i6
    try clear i7
    try clear i8
    try clear i9
    try clear j1
    try clear j3
    try clear j4
    try clear f1
    try clear f6
    try clear s20
    try clear s24
    try clear s46
    try clear s68
    try clear s1216
    try clear s1620
    try clear s020
    replace B_pb := Lib.hid ((HX_w4.out.block pb (row_lt B_pb.out) id).trans B_pb.out)
    have cpb0 := row_cell (k := 0) (v := .int .u32 (b1.toNat : Int)) B_pb.out rfl
    have cpb1 := row_cell (k := 1) (v := .int .u32 (nid : Int)) B_pb.out rfl
    have cpb2 := row_cell (k := 2) (v := .bool df) B_pb.out rfl
    have cpb3 := row_cell (k := 3) (v := .bool mf) B_pb.out rfl
    have cpb4 := row_cell (k := 4) (v := .int .i64 ((bt : Int) % 8192 * 8)) B_pb.out rfl
    have cpb5 := row_cell (k := 5) (v := .int .u32 (b8.toNat : Int)) B_pb.out rfl
    have cpb6 := row_cell (k := 6) (v := .int .u32 (b9.toNat : Int)) B_pb.out rfl
    have cpb7 := row_cell (k := 7) (v := .int .u32 (nsrc : Int)) B_pb.out rfl
    have cpb8 := row_cell (k := 8) (v := .int .u32 (ndst : Int)) B_pb.out rfl
    have cpb9 := row_cell (k := 9) (v := .string (bs bb)) B_pb.out rfl
    replace B_rb := Lib.hid ((((HX_w2.out.trans HX_wc.out).trans HX_w4.out).block rb (row_lt B_rb.out) id).trans B_rb.out)
    have crb0 := row_cell (k := 0) (v := .int .u32 0) B_rb.out rfl
    have crb1 := row_cell (k := 1) (v := .int .u32 0) B_rb.out rfl
    have crb2 := row_cell (k := 2) (v := .bool false) B_rb.out rfl
    have crb3 := row_cell (k := 3) (v := .bool false) B_rb.out rfl
    have crb4 := row_cell (k := 4) (v := .int .i64 0) B_rb.out rfl
    have crb5 := row_cell (k := 5) (v := .int .u32 0) B_rb.out rfl
    have crb6 := row_cell (k := 6) (v := .int .u32 0) B_rb.out rfl
    have crb7 := row_cell (k := 7) (v := .int .u32 0) B_rb.out rfl
    have crb8 := row_cell (k := 8) (v := .int .u32 0) B_rb.out rfl
    have crb9 := row_cell (k := 9) (v := .string ⟨#[]⟩) B_rb.out rfl
    have frb0 := row_frozen B_rb.out 0
    have frb1 := row_frozen B_rb.out 1
    have frb2 := row_frozen B_rb.out 2
    have frb3 := row_frozen B_rb.out 3
    have frb4 := row_frozen B_rb.out 4
    have frb5 := row_frozen B_rb.out 5
    have frb6 := row_frozen B_rb.out 6
    have frb7 := row_frozen B_rb.out 7
    have frb8 := row_frozen B_rb.out 8
    have frb9 := row_frozen B_rb.out 9
    go_wp2_with fail
    (try simp only [Exit.inBlock, Exit.then])
    clear crb0 crb1 crb2 crb3 crb4 crb5 crb6 crb7 crb8 crb9 frb0 frb1 frb2 frb3 frb4 frb5 frb6 frb7 frb8 frb9
    have r0 : (w4.setCell ⟨rb, 0, none⟩ (.int .u32 (b1.toNat : Int))).heap[rb]? = some (.cells #[.int .u32 (b1.toNat : Int), .int .u32 0, .bool false, .bool false, .int .i64 0, .int .u32 0, .int .u32 0, .int .u32 0, .int .u32 0, .string ⟨#[]⟩] 55) := row_set B_rb.out 0 (.int .u32 (b1.toNat : Int))
    have r1 : ((w4.setCell ⟨rb, 0, none⟩ (.int .u32 (b1.toNat : Int))).setCell ⟨rb, 1, none⟩ (.int .u32 (nid : Int))).heap[rb]? = some (.cells #[.int .u32 (b1.toNat : Int), .int .u32 (nid : Int), .bool false, .bool false, .int .i64 0, .int .u32 0, .int .u32 0, .int .u32 0, .int .u32 0, .string ⟨#[]⟩] 55) := row_set r0 1 (.int .u32 (nid : Int))
    clear r0
    have r2 : (((w4.setCell ⟨rb, 0, none⟩ (.int .u32 (b1.toNat : Int))).setCell ⟨rb, 1, none⟩ (.int .u32 (nid : Int))).setCell ⟨rb, 2, none⟩ (.bool df)).heap[rb]? = some (.cells #[.int .u32 (b1.toNat : Int), .int .u32 (nid : Int), .bool df, .bool false, .int .i64 0, .int .u32 0, .int .u32 0, .int .u32 0, .int .u32 0, .string ⟨#[]⟩] 55) := row_set r1 2 (.bool df)
    clear r1
    have r3 : ((((w4.setCell ⟨rb, 0, none⟩ (.int .u32 (b1.toNat : Int))).setCell ⟨rb, 1, none⟩ (.int .u32 (nid : Int))).setCell ⟨rb, 2, none⟩ (.bool df)).setCell ⟨rb, 3, none⟩ (.bool mf)).heap[rb]? = some (.cells #[.int .u32 (b1.toNat : Int), .int .u32 (nid : Int), .bool df, .bool mf, .int .i64 0, .int .u32 0, .int .u32 0, .int .u32 0, .int .u32 0, .string ⟨#[]⟩] 55) := row_set r2 3 (.bool mf)
    clear r2
    have r4 : (((((w4.setCell ⟨rb, 0, none⟩ (.int .u32 (b1.toNat : Int))).setCell ⟨rb, 1, none⟩ (.int .u32 (nid : Int))).setCell ⟨rb, 2, none⟩ (.bool df)).setCell ⟨rb, 3, none⟩ (.bool mf)).setCell ⟨rb, 4, none⟩ (.int .i64 ((bt : Int) % 8192 * 8))).heap[rb]? = some (.cells #[.int .u32 (b1.toNat : Int), .int .u32 (nid : Int), .bool df, .bool mf, .int .i64 ((bt : Int) % 8192 * 8), .int .u32 0, .int .u32 0, .int .u32 0, .int .u32 0, .string ⟨#[]⟩] 55) := row_set r3 4 (.int .i64 ((bt : Int) % 8192 * 8))
    clear r3
    have r5 : ((((((w4.setCell ⟨rb, 0, none⟩ (.int .u32 (b1.toNat : Int))).setCell ⟨rb, 1, none⟩ (.int .u32 (nid : Int))).setCell ⟨rb, 2, none⟩ (.bool df)).setCell ⟨rb, 3, none⟩ (.bool mf)).setCell ⟨rb, 4, none⟩ (.int .i64 ((bt : Int) % 8192 * 8))).setCell ⟨rb, 5, none⟩ (.int .u32 (b8.toNat : Int))).heap[rb]? = some (.cells #[.int .u32 (b1.toNat : Int), .int .u32 (nid : Int), .bool df, .bool mf, .int .i64 ((bt : Int) % 8192 * 8), .int .u32 (b8.toNat : Int), .int .u32 0, .int .u32 0, .int .u32 0, .string ⟨#[]⟩] 55) := row_set r4 5 (.int .u32 (b8.toNat : Int))
    clear r4
    have r6 : (((((((w4.setCell ⟨rb, 0, none⟩ (.int .u32 (b1.toNat : Int))).setCell ⟨rb, 1, none⟩ (.int .u32 (nid : Int))).setCell ⟨rb, 2, none⟩ (.bool df)).setCell ⟨rb, 3, none⟩ (.bool mf)).setCell ⟨rb, 4, none⟩ (.int .i64 ((bt : Int) % 8192 * 8))).setCell ⟨rb, 5, none⟩ (.int .u32 (b8.toNat : Int))).setCell ⟨rb, 6, none⟩ (.int .u32 (b9.toNat : Int))).heap[rb]? = some (.cells #[.int .u32 (b1.toNat : Int), .int .u32 (nid : Int), .bool df, .bool mf, .int .i64 ((bt : Int) % 8192 * 8), .int .u32 (b8.toNat : Int), .int .u32 (b9.toNat : Int), .int .u32 0, .int .u32 0, .string ⟨#[]⟩] 55) := row_set r5 6 (.int .u32 (b9.toNat : Int))
    clear r5
    have r7 : ((((((((w4.setCell ⟨rb, 0, none⟩ (.int .u32 (b1.toNat : Int))).setCell ⟨rb, 1, none⟩ (.int .u32 (nid : Int))).setCell ⟨rb, 2, none⟩ (.bool df)).setCell ⟨rb, 3, none⟩ (.bool mf)).setCell ⟨rb, 4, none⟩ (.int .i64 ((bt : Int) % 8192 * 8))).setCell ⟨rb, 5, none⟩ (.int .u32 (b8.toNat : Int))).setCell ⟨rb, 6, none⟩ (.int .u32 (b9.toNat : Int))).setCell ⟨rb, 7, none⟩ (.int .u32 (nsrc : Int))).heap[rb]? = some (.cells #[.int .u32 (b1.toNat : Int), .int .u32 (nid : Int), .bool df, .bool mf, .int .i64 ((bt : Int) % 8192 * 8), .int .u32 (b8.toNat : Int), .int .u32 (b9.toNat : Int), .int .u32 (nsrc : Int), .int .u32 0, .string ⟨#[]⟩] 55) := row_set r6 7 (.int .u32 (nsrc : Int))
    clear r6
    have r8 : (((((((((w4.setCell ⟨rb, 0, none⟩ (.int .u32 (b1.toNat : Int))).setCell ⟨rb, 1, none⟩ (.int .u32 (nid : Int))).setCell ⟨rb, 2, none⟩ (.bool df)).setCell ⟨rb, 3, none⟩ (.bool mf)).setCell ⟨rb, 4, none⟩ (.int .i64 ((bt : Int) % 8192 * 8))).setCell ⟨rb, 5, none⟩ (.int .u32 (b8.toNat : Int))).setCell ⟨rb, 6, none⟩ (.int .u32 (b9.toNat : Int))).setCell ⟨rb, 7, none⟩ (.int .u32 (nsrc : Int))).setCell ⟨rb, 8, none⟩ (.int .u32 (ndst : Int))).heap[rb]? = some (.cells #[.int .u32 (b1.toNat : Int), .int .u32 (nid : Int), .bool df, .bool mf, .int .i64 ((bt : Int) % 8192 * 8), .int .u32 (b8.toNat : Int), .int .u32 (b9.toNat : Int), .int .u32 (nsrc : Int), .int .u32 (ndst : Int), .string ⟨#[]⟩] 55) := row_set r7 8 (.int .u32 (ndst : Int))
    clear r7
    have r9 : ((((((((((w4.setCell ⟨rb, 0, none⟩ (.int .u32 (b1.toNat : Int))).setCell ⟨rb, 1, none⟩ (.int .u32 (nid : Int))).setCell ⟨rb, 2, none⟩ (.bool df)).setCell ⟨rb, 3, none⟩ (.bool mf)).setCell ⟨rb, 4, none⟩ (.int .i64 ((bt : Int) % 8192 * 8))).setCell ⟨rb, 5, none⟩ (.int .u32 (b8.toNat : Int))).setCell ⟨rb, 6, none⟩ (.int .u32 (b9.toNat : Int))).setCell ⟨rb, 7, none⟩ (.int .u32 (nsrc : Int))).setCell ⟨rb, 8, none⟩ (.int .u32 (ndst : Int))).setCell ⟨rb, 9, none⟩ (.string (bs bb))).heap[rb]? = some (.cells #[.int .u32 (b1.toNat : Int), .int .u32 (nid : Int), .bool df, .bool mf, .int .i64 ((bt : Int) % 8192 * 8), .int .u32 (b8.toNat : Int), .int .u32 (b9.toNat : Int), .int .u32 (nsrc : Int), .int .u32 (ndst : Int), .string (bs bb)] 55) := row_set r8 9 (.string (bs bb))
    clear r8
    have hx : Ex (fun j => j = rb) w4 ((((((((((w4.setCell ⟨rb, 0, none⟩ (.int .u32 (b1.toNat : Int))).setCell ⟨rb, 1, none⟩ (.int .u32 (nid : Int))).setCell ⟨rb, 2, none⟩ (.bool df)).setCell ⟨rb, 3, none⟩ (.bool mf)).setCell ⟨rb, 4, none⟩ (.int .i64 ((bt : Int) % 8192 * 8))).setCell ⟨rb, 5, none⟩ (.int .u32 (b8.toNat : Int))).setCell ⟨rb, 6, none⟩ (.int .u32 (b9.toNat : Int))).setCell ⟨rb, 7, none⟩ (.int .u32 (nsrc : Int))).setCell ⟨rb, 8, none⟩ (.int .u32 (ndst : Int))).setCell ⟨rb, 9, none⟩ (.string (bs bb))) := (((((((((((Ex.refl (fun j => j = rb) w4).setCell (p := ⟨rb, 0, none⟩) (.inl rfl) (.int .u32 (b1.toNat : Int))).setCell (p := ⟨rb, 1, none⟩) (.inl rfl) (.int .u32 (nid : Int))).setCell (p := ⟨rb, 2, none⟩) (.inl rfl) (.bool df)).setCell (p := ⟨rb, 3, none⟩) (.inl rfl) (.bool mf)).setCell (p := ⟨rb, 4, none⟩) (.inl rfl) (.int .i64 ((bt : Int) % 8192 * 8))).setCell (p := ⟨rb, 5, none⟩) (.inl rfl) (.int .u32 (b8.toNat : Int))).setCell (p := ⟨rb, 6, none⟩) (.inl rfl) (.int .u32 (b9.toNat : Int))).setCell (p := ⟨rb, 7, none⟩) (.inl rfl) (.int .u32 (nsrc : Int))).setCell (p := ⟨rb, 8, none⟩) (.inl rfl) (.int .u32 (ndst : Int))).setCell (p := ⟨rb, 9, none⟩) (.inl rfl) (.string (bs bb)))
    generalize ((((((((((w4.setCell ⟨rb, 0, none⟩ (.int .u32 (b1.toNat : Int))).setCell ⟨rb, 1, none⟩ (.int .u32 (nid : Int))).setCell ⟨rb, 2, none⟩ (.bool df)).setCell ⟨rb, 3, none⟩ (.bool mf)).setCell ⟨rb, 4, none⟩ (.int .i64 ((bt : Int) % 8192 * 8))).setCell ⟨rb, 5, none⟩ (.int .u32 (b8.toNat : Int))).setCell ⟨rb, 6, none⟩ (.int .u32 (b9.toNat : Int))).setCell ⟨rb, 7, none⟩ (.int .u32 (nsrc : Int))).setCell ⟨rb, 8, none⟩ (.int .u32 (ndst : Int))).setCell ⟨rb, 9, none⟩ (.string (bs bb))) = wz at r9 hx ⊢
    have HROW := Lib.hid r9
    clear r9
    have HX_wz := Lib.hid hx
    clear hx
    refine bodyPost_ret (v := .tuple #[.agg #[.int .u32 (b1.toNat : Int), .int .u32 (nid : Int), .bool df, .bool mf, .int .i64 ((bt : Int) % 8192 * 8), .int .u32 (b8.toNat : Int), .int .u32 (b9.toNat : Int), .int .u32 (nsrc : Int), .int .u32 (ndst : Int), .string (bs bb)], .string ⟨#[]⟩]) ?_ rfl ⟨rfl, ((((HX_w1.out.trans HX_w2.out).trans HX_wc.out).trans HX_w4.out).andThen HX_wz.out (fun i hi e => by have := hb_rb; omega))⟩
    exact results_cell_row2 (p := 2) (u := 3) rfl _ _ rb 55 #[.int .u32 (b1.toNat : Int), .int .u32 (nid : Int), .bool df, .bool mf, .int .i64 ((bt : Int) % 8192 * 8), .int .u32 (b8.toNat : Int), .int .u32 (b9.toNat : Int), .int .u32 (nsrc : Int), .int .u32 (ndst : Int), .string (bs bb)] (0, 0) _ _ rfl rfl HROW.out Tryd.underlying55 rfl rp_size
end Go.Proofs.YtfcfpkhcpijkfaaDoor
