/-
  The walk of FragSpoilt. By an AI agent.
-/
import Derived.Test.YtabjihchcmjdmaaDoorGh10
import Derived.Test.YtabjihchcmjdmaaDoorGi10
import Derived.Test.YtabjihchcmjdmaaDoorGb10
namespace Go.Proofs.YtabjihchcmjdmaaDoor
open Go.RowKit

theorem msrS {n i k : Nat} (h : n - i ≤ k) (hl : i < n) : n - (i + 1) < k := by omega
theorem sp_step {i k : Nat} (h : k < i + 1) : k < i ∨ k = i := by omega
theorem sp_gap {n n1 : Nat} (h : n1 + 1 = n) : n1 < n := by omega
theorem sp_ne {i n0 n1 : Nat} (h : i < n0) (h2 : n0 ≤ n1) : i ≠ n1 := by omega
theorem sp_200 {i n0 n : Nat} (h : i < n0) (h2 : n0 < n) (h3 : n ≤ 42) : i < 200 := by omega
theorem sp_200' {n0 n : Nat} (h2 : n0 < n) (h3 : n ≤ 42) : n0 < 200 := by omega
theorem sp_1000 {k n0 n : Nat} (h : k ≤ n0) (h2 : n0 < n) (h3 : n ≤ 42) : k ≤ 1000 := by omega
theorem sp_100k {m2 qb : List UInt8} (h : m2.length = qb.length) (h2 : qb.length ≤ 2000) : m2.length ≤ 100000 := by omega
theorem sp_42 {n0 n : Nat} (h2 : n0 < n) (h3 : n ≤ 42) : n0 ≤ 42 := by omega
theorem sp_end {i n0 : Nat} (h : ¬ (i : Int) < (n0 : Int)) (h2 : i ≤ n0) : i = n0 := by omega
theorem PD.bpos {p : Pk} {m : Int} {z n : Nat} {l : List Pk} (h : PD p m z n l) (hn : 1 < n) {i : Nat} (hi : i < n) : 0 < (pti p z n i).b.length := by
  rw [(h.place hi).2.2]
  have h1 := h.some hn hi
  have h2 := h.zp
  omega
theorem xor_u8 (a b : UInt8) : Go.bits .xor .u8 (a.toNat : Int) (b.toNat : Int) = ((a ^^^ b).toNat : Int) := by
  have ha := a.toNat_lt
  have hb := b.toNat_lt
  have key : (BitVec.ofInt 8 (a.toNat : Int) ^^^ BitVec.ofInt 8 (b.toNat : Int)).toNat = (a ^^^ b).toNat := by
    rw [BitVec.toNat_xor, BitVec.toNat_ofInt, BitVec.toNat_ofInt, UInt8.toNat_xor, show ((a.toNat : Int) % ((2 ^ 8 : Nat) : Int)).toNat = a.toNat by omega, show ((b.toNat : Int) % ((2 ^ 8 : Nat) : Int)).toNat = b.toNat by omega]
  have hl := (a ^^^ b).toNat_lt
  show IntKind.u8.wrap ((BitVec.ofInt 8 (a.toNat : Int) ^^^ BitVec.ofInt 8 (b.toNat : Int)).toNat : Nat) = _
  rw [key, IntKind.wrap_u8]
  omega
theorem u8_of {x : Int} (h : 0 ≤ x ∧ x ≤ 255) : ∃ y : UInt8, x = (y.toNat : Int) := by
  obtain ⟨n, rfl⟩ := Int.eq_ofNat_of_zero_le h.1
  exact ⟨UInt8.ofNat n, by rw [UInt8.toNat_ofNat']; omega⟩
theorem right_len {x : Pk} {b : List UInt8} (h : b.length = x.b.length) : ({ x with b := b } : Pk).right = x.right := by
  unfold Pk.right
  simp only [h]
theorem spoilt_any {os : List Po} {x q : Pk} (hm : x ∈ os.map Prod.fst) (h1 : q = { x with b := q.b }) (h2 : q.b.length = x.b.length) (h3 : q.b ≠ x.b) : os.any (fun o => fightsB q o.1) = true := by
  rw [any_fst, List.any_eq_true]
  exact ⟨x, hm, spoilt_fights h1 h2 h3⟩
theorem xor_ne {b y : UInt8} (h : y ≠ 0) : b ^^^ y ≠ b := by
  intro e
  apply h
  have h1 : b ^^^ (b ^^^ y) = b ^^^ b := by rw [e]
  rw [← UInt8.xor_assoc, UInt8.xor_self, UInt8.zero_xor] at h1
  exact h1
theorem wrap_s1 {i n : Nat} (h : i < n) (hn : n ≤ 42) : wrap64 ((i : Int) + 1) = (i : Int) + 1 := by unfold wrap64; omega
theorem wrap_s12 {i n : Nat} (h : i < n) (hn : n ≤ 42) : wrap64 ((i : Int) + 1) = ((i + 1 : Nat) : Int) := by unfold wrap64; omega
theorem wrap_sn {n : Nat} (h : 1 < n) (hn : n ≤ 42) : ∃ n1 : Nat, wrap64 ((n : Int) - 1) = (n1 : Int) ∧ (0 < n1 ∧ n1 + 1 = n) ∧ ¬ (n1 : Int) = 0 := ⟨n - 1, by unfold wrap64; omega, by omega, by omega⟩
theorem wrap_s1r {r n n1 : Nat} (h : r < n1) (hn1 : n1 + 1 = n) (hn : n ≤ 42) : ∃ n0 : Nat, wrap64 (1 + (r : Int)) = (n0 : Int) ∧ 0 < n0 ∧ (n0 < n ∧ n0 ≤ n1 ∧ n1 + 1 = n) := ⟨1 + r, by unfold wrap64; omega, by omega, by omega, by omega, hn1⟩
set_option maxRecDepth 100000 in
set_option maxHeartbeats 16000000 in
theorem spoilt10_any (p : Pk) (A : Option Addr) (c : Nat) (m0 nn wh at0 : Int) (by0 : Int) (w : World) (ok : p.ok) (hp : RB w (fun _ => True) (.slice A p.b.length c) p.b) (hby : 0 ≤ by0 ∧ by0 ≤ 255) (hg : ET w) :
    Calls Tryd.prog 8 #[pkv p (.slice A p.b.length c), .int .i64 m0, .int .i64 nn, .int .i64 wh, .int .i64 at0, .int .u8 by0] w fun e w' => e = .returned (.bool true) ∧ Ex (fun _ => False) w w' := by
  obtain ⟨y, rfl⟩ := u8_of hby
  obtain ⟨k1, hk1, hk1b⟩ := and16 m0
  obtain ⟨r1, hr1, hr1b⟩ := rem5 k1
  obtain ⟨k2, hk2, _⟩ := and16 nn
  obtain ⟨k3, hk3, _⟩ := and16 wh
  obtain ⟨k4, hk4, _⟩ := and16 at0
  have HKB := Lib.hid hr1b
  have HR1 := Lib.hid hr1
  have HK1 := Lib.hid hk1
  have HK2 := Lib.hid hk2
  have HK3 := Lib.hid hk3
  have HK4 := Lib.hid hk4
  clear hk1b hr1b hk1 hk2 hk3 hk4 hr1 hby
  obtain ⟨xtos, xid, xdf, xmf, xoff, xttl, xpr, xsrc, xdst, xb⟩ := p
  simp only at hp
  have HG := Lib.hid hg
  have HP := Lib.hid hp
  have OKP := Lib.hid ok
  clear hp ok hg
  show Calls Tryd.prog 8 #[.agg #[.int .u8 xtos, .int .u16 xid, .bool xdf, .bool xmf, .int .i64 xoff, .int .u8 xttl, .int .u8 xpr, .int .u32 xsrc, .int .u32 xdst, .slice A xb.length c], .int .i64 m0, .int .i64 nn, .int .i64 wh, .int .i64 at0, .int .u8 (y.toNat : Int)] w _
  go_enter Tryd.func8, Tryd.ntmps8
  go_upto_region 1 with fail
  have hx : Ex (fun _ => False) w (w.alloc (.cells #[.int .u8 xtos, .int .u16 xid, .bool xdf, .bool xmf, .int .i64 xoff, .int .u8 xttl, .int .u8 xpr, .int .u32 xsrc, .int .u32 xdst, .slice A xb.length c] 27)) := (Ex.refl _ w).alloc _
  have hb : (w.alloc (.cells #[.int .u8 xtos, .int .u16 xid, .bool xdf, .bool xmf, .int .i64 xoff, .int .u8 xttl, .int .u8 xpr, .int .u32 xsrc, .int .u32 xdst, .slice A xb.length c] 27)).heap[w.heap.size]? = some (.cells #[.int .u8 xtos, .int .u16 xid, .bool xdf, .bool xmf, .int .i64 xoff, .int .u8 xttl, .int .u8 xpr, .int .u32 xsrc, .int .u32 xdst, .slice A xb.length c] 27) := heap_alloc_new w _
  obtain ⟨bp, hbp⟩ : ∃ bp, bp = w.heap.size := ⟨_, rfl⟩
  have hb_bp : w.heap.size ≤ bp := by omega
  rw [← hbp] at hb
  try simp only [← hbp]
  generalize w.alloc (.cells #[.int .u8 xtos, .int .u16 xid, .bool xdf, .bool xmf, .int .i64 xoff, .int .u8 xttl, .int .u8 xpr, .int .u32 xsrc, .int .u32 xdst, .slice A xb.length c] 27) = w1 at hx hb ⊢
  clear hbp
  have HX_w1 := Lib.hid hx
  clear hx
  have B_bp := Lib.hid hb
  clear hb
  have hlp := row_lt B_bp.out
  go_wp2_with fail
  refine (shown10_any w1 (HG.out.keep HX_w1.out id)).mono ?_
  rintro e w2 ⟨rfl, hx⟩
  have hz12 := hx.size
  have HX_w2 := Lib.hid hx
  clear hx
  replace B_bp := Lib.hid ((HX_w2.out.block bp (row_lt B_bp.out) id).trans B_bp.out)
  have cbp0 := row_cell (k := 0) (v := .int .u8 xtos) B_bp.out rfl
  have cbp1 := row_cell (k := 1) (v := .int .u16 xid) B_bp.out rfl
  have cbp2 := row_cell (k := 2) (v := .bool xdf) B_bp.out rfl
  have cbp3 := row_cell (k := 3) (v := .bool xmf) B_bp.out rfl
  have cbp4 := row_cell (k := 4) (v := .int .i64 xoff) B_bp.out rfl
  have cbp5 := row_cell (k := 5) (v := .int .u8 xttl) B_bp.out rfl
  have cbp6 := row_cell (k := 6) (v := .int .u8 xpr) B_bp.out rfl
  have cbp7 := row_cell (k := 7) (v := .int .u32 xsrc) B_bp.out rfl
  have cbp8 := row_cell (k := 8) (v := .int .u32 xdst) B_bp.out rfl
  have cbp9 := row_cell (k := 9) (v := .slice A xb.length c) B_bp.out rfl
  have fbp0 := row_frozen B_bp.out 0
  have fbp1 := row_frozen B_bp.out 1
  have fbp2 := row_frozen B_bp.out 2
  have fbp3 := row_frozen B_bp.out 3
  have fbp4 := row_frozen B_bp.out 4
  have fbp5 := row_frozen B_bp.out 5
  have fbp6 := row_frozen B_bp.out 6
  have fbp7 := row_frozen B_bp.out 7
  have fbp8 := row_frozen B_bp.out 8
  have fbp9 := row_frozen B_bp.out 9
  go_wp2_with fail
  refine (few10_any (fun _ => True) (⟨xtos, xid, xdf, xmf, xoff, xttl, xpr, xsrc, xdst, xb⟩ : Pk) A c w2 (RB.keep HP.out (HX_w1.out.trans HX_w2.out) (fun _ _ _ => id))).mono ?_
  rintro e w3 ⟨xA, xc, rfl, ho, hx⟩
  obtain ⟨xl, hxl⟩ : ∃ l, l = xb.take 2000 := ⟨_, rfl⟩
  have hfw : (⟨xtos, xid, xdf, xmf, xoff, xttl, xpr, xsrc, xdst, xb⟩ : Pk).few 2000 = (⟨xtos, xid, xdf, xmf, xoff, xttl, xpr, xsrc, xdst, xl⟩ : Pk) := by rw [hxl]; rfl
  rw [hfw] at ho ⊢
  have hxn : xl.length ≤ 2000 := by rw [hxl, List.length_take]; omega
  have hv : pkv (⟨xtos, xid, xdf, xmf, xoff, xttl, xpr, xsrc, xdst, xl⟩ : Pk) (.slice (some xA) (⟨xtos, xid, xdf, xmf, xoff, xttl, xpr, xsrc, xdst, xl⟩ : Pk).b.length xc) = .agg #[.int .u8 xtos, .int .u16 xid, .bool xdf, .bool xmf, .int .i64 xoff, .int .u8 xttl, .int .u8 xpr, .int .u32 xsrc, .int .u32 xdst, .slice (some xA) xl.length xc] := rfl
  rw [hv]
  have ho' : OB w3 w2.heap.size (.slice (some xA) xl.length xc) xl := ho
  clear hv hfw hxl ho cbp0 cbp1 cbp2 cbp3 cbp4 cbp5 cbp6 cbp7 cbp8 cbp9 fbp0 fbp1 fbp2 fbp3 fbp4 fbp5 fbp6 fbp7 fbp8 fbp9
  have HX_w3 := Lib.hid hx
  clear hx
  have HO_x := Lib.hid ho'
  clear ho'
  have hbl_bp := row_lt B_bp.out
  replace B_bp := Lib.hid ((HX_w3.out.block bp (row_lt B_bp.out) id).trans B_bp.out)
  have cbp0 := row_cell (k := 0) (v := .int .u8 xtos) B_bp.out rfl
  have cbp1 := row_cell (k := 1) (v := .int .u16 xid) B_bp.out rfl
  have cbp2 := row_cell (k := 2) (v := .bool xdf) B_bp.out rfl
  have cbp3 := row_cell (k := 3) (v := .bool xmf) B_bp.out rfl
  have cbp4 := row_cell (k := 4) (v := .int .i64 xoff) B_bp.out rfl
  have cbp5 := row_cell (k := 5) (v := .int .u8 xttl) B_bp.out rfl
  have cbp6 := row_cell (k := 6) (v := .int .u8 xpr) B_bp.out rfl
  have cbp7 := row_cell (k := 7) (v := .int .u32 xsrc) B_bp.out rfl
  have cbp8 := row_cell (k := 8) (v := .int .u32 xdst) B_bp.out rfl
  have cbp9 := row_cell (k := 9) (v := .slice A xb.length c) B_bp.out rfl
  have fbp0 := row_frozen B_bp.out 0
  have fbp1 := row_frozen B_bp.out 1
  have fbp2 := row_frozen B_bp.out 2
  have fbp3 := row_frozen B_bp.out 3
  have fbp4 := row_frozen B_bp.out 4
  have fbp5 := row_frozen B_bp.out 5
  have fbp6 := row_frozen B_bp.out 6
  have fbp7 := row_frozen B_bp.out 7
  have fbp8 := row_frozen B_bp.out 8
  have fbp9 := row_frozen B_bp.out 9
  go_upto_region 3 with fail
  have r0 : (w3.setCell ⟨bp, 0, none⟩ (.int .u8 xtos)).heap[bp]? = some (.cells #[.int .u8 xtos, .int .u16 xid, .bool xdf, .bool xmf, .int .i64 xoff, .int .u8 xttl, .int .u8 xpr, .int .u32 xsrc, .int .u32 xdst, .slice A xb.length c] 27) := row_set B_bp.out 0 (.int .u8 xtos)
  have r1 : ((w3.setCell ⟨bp, 0, none⟩ (.int .u8 xtos)).setCell ⟨bp, 1, none⟩ (.int .u16 xid)).heap[bp]? = some (.cells #[.int .u8 xtos, .int .u16 xid, .bool xdf, .bool xmf, .int .i64 xoff, .int .u8 xttl, .int .u8 xpr, .int .u32 xsrc, .int .u32 xdst, .slice A xb.length c] 27) := row_set r0 1 (.int .u16 xid)
  clear r0
  have r2 : (((w3.setCell ⟨bp, 0, none⟩ (.int .u8 xtos)).setCell ⟨bp, 1, none⟩ (.int .u16 xid)).setCell ⟨bp, 2, none⟩ (.bool xdf)).heap[bp]? = some (.cells #[.int .u8 xtos, .int .u16 xid, .bool xdf, .bool xmf, .int .i64 xoff, .int .u8 xttl, .int .u8 xpr, .int .u32 xsrc, .int .u32 xdst, .slice A xb.length c] 27) := row_set r1 2 (.bool xdf)
  clear r1
  have r3 : ((((w3.setCell ⟨bp, 0, none⟩ (.int .u8 xtos)).setCell ⟨bp, 1, none⟩ (.int .u16 xid)).setCell ⟨bp, 2, none⟩ (.bool xdf)).setCell ⟨bp, 3, none⟩ (.bool xmf)).heap[bp]? = some (.cells #[.int .u8 xtos, .int .u16 xid, .bool xdf, .bool xmf, .int .i64 xoff, .int .u8 xttl, .int .u8 xpr, .int .u32 xsrc, .int .u32 xdst, .slice A xb.length c] 27) := row_set r2 3 (.bool xmf)
  clear r2
  have r4 : (((((w3.setCell ⟨bp, 0, none⟩ (.int .u8 xtos)).setCell ⟨bp, 1, none⟩ (.int .u16 xid)).setCell ⟨bp, 2, none⟩ (.bool xdf)).setCell ⟨bp, 3, none⟩ (.bool xmf)).setCell ⟨bp, 4, none⟩ (.int .i64 xoff)).heap[bp]? = some (.cells #[.int .u8 xtos, .int .u16 xid, .bool xdf, .bool xmf, .int .i64 xoff, .int .u8 xttl, .int .u8 xpr, .int .u32 xsrc, .int .u32 xdst, .slice A xb.length c] 27) := row_set r3 4 (.int .i64 xoff)
  clear r3
  have r5 : ((((((w3.setCell ⟨bp, 0, none⟩ (.int .u8 xtos)).setCell ⟨bp, 1, none⟩ (.int .u16 xid)).setCell ⟨bp, 2, none⟩ (.bool xdf)).setCell ⟨bp, 3, none⟩ (.bool xmf)).setCell ⟨bp, 4, none⟩ (.int .i64 xoff)).setCell ⟨bp, 5, none⟩ (.int .u8 xttl)).heap[bp]? = some (.cells #[.int .u8 xtos, .int .u16 xid, .bool xdf, .bool xmf, .int .i64 xoff, .int .u8 xttl, .int .u8 xpr, .int .u32 xsrc, .int .u32 xdst, .slice A xb.length c] 27) := row_set r4 5 (.int .u8 xttl)
  clear r4
  have r6 : (((((((w3.setCell ⟨bp, 0, none⟩ (.int .u8 xtos)).setCell ⟨bp, 1, none⟩ (.int .u16 xid)).setCell ⟨bp, 2, none⟩ (.bool xdf)).setCell ⟨bp, 3, none⟩ (.bool xmf)).setCell ⟨bp, 4, none⟩ (.int .i64 xoff)).setCell ⟨bp, 5, none⟩ (.int .u8 xttl)).setCell ⟨bp, 6, none⟩ (.int .u8 xpr)).heap[bp]? = some (.cells #[.int .u8 xtos, .int .u16 xid, .bool xdf, .bool xmf, .int .i64 xoff, .int .u8 xttl, .int .u8 xpr, .int .u32 xsrc, .int .u32 xdst, .slice A xb.length c] 27) := row_set r5 6 (.int .u8 xpr)
  clear r5
  have r7 : ((((((((w3.setCell ⟨bp, 0, none⟩ (.int .u8 xtos)).setCell ⟨bp, 1, none⟩ (.int .u16 xid)).setCell ⟨bp, 2, none⟩ (.bool xdf)).setCell ⟨bp, 3, none⟩ (.bool xmf)).setCell ⟨bp, 4, none⟩ (.int .i64 xoff)).setCell ⟨bp, 5, none⟩ (.int .u8 xttl)).setCell ⟨bp, 6, none⟩ (.int .u8 xpr)).setCell ⟨bp, 7, none⟩ (.int .u32 xsrc)).heap[bp]? = some (.cells #[.int .u8 xtos, .int .u16 xid, .bool xdf, .bool xmf, .int .i64 xoff, .int .u8 xttl, .int .u8 xpr, .int .u32 xsrc, .int .u32 xdst, .slice A xb.length c] 27) := row_set r6 7 (.int .u32 xsrc)
  clear r6
  have r8 : (((((((((w3.setCell ⟨bp, 0, none⟩ (.int .u8 xtos)).setCell ⟨bp, 1, none⟩ (.int .u16 xid)).setCell ⟨bp, 2, none⟩ (.bool xdf)).setCell ⟨bp, 3, none⟩ (.bool xmf)).setCell ⟨bp, 4, none⟩ (.int .i64 xoff)).setCell ⟨bp, 5, none⟩ (.int .u8 xttl)).setCell ⟨bp, 6, none⟩ (.int .u8 xpr)).setCell ⟨bp, 7, none⟩ (.int .u32 xsrc)).setCell ⟨bp, 8, none⟩ (.int .u32 xdst)).heap[bp]? = some (.cells #[.int .u8 xtos, .int .u16 xid, .bool xdf, .bool xmf, .int .i64 xoff, .int .u8 xttl, .int .u8 xpr, .int .u32 xsrc, .int .u32 xdst, .slice A xb.length c] 27) := row_set r7 8 (.int .u32 xdst)
  clear r7
  have r9 : ((((((((((w3.setCell ⟨bp, 0, none⟩ (.int .u8 xtos)).setCell ⟨bp, 1, none⟩ (.int .u16 xid)).setCell ⟨bp, 2, none⟩ (.bool xdf)).setCell ⟨bp, 3, none⟩ (.bool xmf)).setCell ⟨bp, 4, none⟩ (.int .i64 xoff)).setCell ⟨bp, 5, none⟩ (.int .u8 xttl)).setCell ⟨bp, 6, none⟩ (.int .u8 xpr)).setCell ⟨bp, 7, none⟩ (.int .u32 xsrc)).setCell ⟨bp, 8, none⟩ (.int .u32 xdst)).setCell ⟨bp, 9, none⟩ (.slice (some xA) xl.length xc)).heap[bp]? = some (.cells #[.int .u8 xtos, .int .u16 xid, .bool xdf, .bool xmf, .int .i64 xoff, .int .u8 xttl, .int .u8 xpr, .int .u32 xsrc, .int .u32 xdst, .slice (some xA) xl.length xc] 27) := row_set r8 9 (.slice (some xA) xl.length xc)
  clear r8
  have hx : Ex (fun j => j = bp) w3 ((((((((((w3.setCell ⟨bp, 0, none⟩ (.int .u8 xtos)).setCell ⟨bp, 1, none⟩ (.int .u16 xid)).setCell ⟨bp, 2, none⟩ (.bool xdf)).setCell ⟨bp, 3, none⟩ (.bool xmf)).setCell ⟨bp, 4, none⟩ (.int .i64 xoff)).setCell ⟨bp, 5, none⟩ (.int .u8 xttl)).setCell ⟨bp, 6, none⟩ (.int .u8 xpr)).setCell ⟨bp, 7, none⟩ (.int .u32 xsrc)).setCell ⟨bp, 8, none⟩ (.int .u32 xdst)).setCell ⟨bp, 9, none⟩ (.slice (some xA) xl.length xc)) := (((((((((((Ex.refl (fun j => j = bp) w3).setCell (p := ⟨bp, 0, none⟩) (.inl rfl) (.int .u8 xtos)).setCell (p := ⟨bp, 1, none⟩) (.inl rfl) (.int .u16 xid)).setCell (p := ⟨bp, 2, none⟩) (.inl rfl) (.bool xdf)).setCell (p := ⟨bp, 3, none⟩) (.inl rfl) (.bool xmf)).setCell (p := ⟨bp, 4, none⟩) (.inl rfl) (.int .i64 xoff)).setCell (p := ⟨bp, 5, none⟩) (.inl rfl) (.int .u8 xttl)).setCell (p := ⟨bp, 6, none⟩) (.inl rfl) (.int .u8 xpr)).setCell (p := ⟨bp, 7, none⟩) (.inl rfl) (.int .u32 xsrc)).setCell (p := ⟨bp, 8, none⟩) (.inl rfl) (.int .u32 xdst)).setCell (p := ⟨bp, 9, none⟩) (.inl rfl) (.slice (some xA) xl.length xc))
  clear cbp0 cbp1 cbp2 cbp3 cbp4 cbp5 cbp6 cbp7 cbp8 cbp9 fbp0 fbp1 fbp2 fbp3 fbp4 fbp5 fbp6 fbp7 fbp8 fbp9
  generalize ((((((((((w3.setCell ⟨bp, 0, none⟩ (.int .u8 xtos)).setCell ⟨bp, 1, none⟩ (.int .u16 xid)).setCell ⟨bp, 2, none⟩ (.bool xdf)).setCell ⟨bp, 3, none⟩ (.bool xmf)).setCell ⟨bp, 4, none⟩ (.int .i64 xoff)).setCell ⟨bp, 5, none⟩ (.int .u8 xttl)).setCell ⟨bp, 6, none⟩ (.int .u8 xpr)).setCell ⟨bp, 7, none⟩ (.int .u32 xsrc)).setCell ⟨bp, 8, none⟩ (.int .u32 xdst)).setCell ⟨bp, 9, none⟩ (.slice (some xA) xl.length xc)) = w4 at r9 hx ⊢
  replace B_bp := Lib.hid r9
  clear r9
  have HX_w4 := Lib.hid hx
  clear hx
  have HXN := Lib.hid hxn
  clear hxn
  have cbp4 := row_cell (k := 4) (v := .int .i64 xoff) B_bp.out rfl
  have fbp4 := row_frozen B_bp.out 4
  go_upto_region 4 with fail
  have hb : (w4.setCell ⟨bp, 4, none⟩ (.int .i64 0)).heap[bp]? = some (.cells #[.int .u8 xtos, .int .u16 xid, .bool xdf, .bool xmf, .int .i64 0, .int .u8 xttl, .int .u8 xpr, .int .u32 xsrc, .int .u32 xdst, .slice (some xA) xl.length xc] 27) := (row_set B_bp.out 4 (.int .i64 0))
  have hx : Ex (fun j => j = bp) w4 (w4.setCell ⟨bp, 4, none⟩ (.int .i64 0)) := ((Ex.refl (fun j => j = bp) w4).setCell (p := ⟨bp, 4, none⟩) (.inl rfl) (.int .i64 0))
  clear cbp4 fbp4
  generalize (w4.setCell ⟨bp, 4, none⟩ (.int .i64 0)) = w5 at hx hb ⊢
  clear B_bp
  have HX_w5 := Lib.hid hx
  clear hx
  have B_bp := Lib.hid hb
  clear hb
  have cbp3 := row_cell (k := 3) (v := .bool xmf) B_bp.out rfl
  have fbp3 := row_frozen B_bp.out 3
  go_upto_region 5 with fail
  have hb : (w5.setCell ⟨bp, 3, none⟩ (.bool false)).heap[bp]? = some (.cells #[.int .u8 xtos, .int .u16 xid, .bool xdf, .bool false, .int .i64 0, .int .u8 xttl, .int .u8 xpr, .int .u32 xsrc, .int .u32 xdst, .slice (some xA) xl.length xc] 27) := (row_set B_bp.out 3 (.bool false))
  have hx : Ex (fun j => j = bp) w5 (w5.setCell ⟨bp, 3, none⟩ (.bool false)) := ((Ex.refl (fun j => j = bp) w5).setCell (p := ⟨bp, 3, none⟩) (.inl rfl) (.bool false))
  clear cbp3 fbp3
  generalize (w5.setCell ⟨bp, 3, none⟩ (.bool false)) = w6 at hx hb ⊢
  clear B_bp
  have HX_w6 := Lib.hid hx
  clear hx
  have B_bp := Lib.hid hb
  clear hb
  have cbp2 := row_cell (k := 2) (v := .bool xdf) B_bp.out rfl
  have fbp2 := row_frozen B_bp.out 2
  go_upto_region 6 with fail
  have hb : (w6.setCell ⟨bp, 2, none⟩ (.bool false)).heap[bp]? = some (.cells #[.int .u8 xtos, .int .u16 xid, .bool false, .bool false, .int .i64 0, .int .u8 xttl, .int .u8 xpr, .int .u32 xsrc, .int .u32 xdst, .slice (some xA) xl.length xc] 27) := (row_set B_bp.out 2 (.bool false))
  have hx : Ex (fun j => j = bp) w6 (w6.setCell ⟨bp, 2, none⟩ (.bool false)) := ((Ex.refl (fun j => j = bp) w6).setCell (p := ⟨bp, 2, none⟩) (.inl rfl) (.bool false))
  clear cbp2 fbp2
  generalize (w6.setCell ⟨bp, 2, none⟩ (.bool false)) = w7 at hx hb ⊢
  clear B_bp
  have HX_w7 := Lib.hid hx
  clear hx
  have B_bp := Lib.hid hb
  clear hb
  replace HO_x := Lib.hid (OB.keepB (OB.keepB (OB.keepB (OB.keepB HO_x.out HX_w4.out (by omega)) HX_w5.out (by omega)) HX_w6.out (by omega)) HX_w7.out (by omega))
  have HGL := Lib.hid (HG.out.keep (HX_w1.out.trans HX_w2.out) id)
  have HPG : Hid (0 ≠ bp) := by
    intro e
    have h1 := HG.out
    have h2 := cell_lt h1
    simp only at h2
    omega
  have HG7 : Hid (ET w7) := (((((HGL.out.keep HX_w3.out id).keep HX_w4.out (fun e => HPG.out e)).keep HX_w5.out (fun e => HPG.out e)).keep HX_w6.out (fun e => HPG.out e)).keep HX_w7.out (fun e => HPG.out e))
  have OKX : Hid ((⟨xtos, xid, false, false, 0, xttl, xpr, xsrc, xdst, xl⟩ : Pk).ok) := ⟨OKP.out.1, OKP.out.2.1, ⟨by show (-9223372036854775808 : Int) ≤ 0; decide, by show (0 : Int) ≤ 9223372036854775807; decide⟩, OKP.out.2.2.2⟩
  have hrt : (⟨xtos, xid, false, false, 0, xttl, xpr, xsrc, xdst, xl⟩ : Pk).right = 0 := by
    have := HXN.out
    unfold Pk.right
    simp only
    rw [if_neg (by simp), if_neg (by omega)]
  have HRR := Lib.hid hrt
  clear hrt
  have hk1 := HK1.out
  have hr1 := HR1.out
  have cbp0 := row_cell (k := 0) (v := .int .u8 xtos) B_bp.out rfl
  have cbp1 := row_cell (k := 1) (v := .int .u16 xid) B_bp.out rfl
  have cbp2 := row_cell (k := 2) (v := .bool false) B_bp.out rfl
  have cbp3 := row_cell (k := 3) (v := .bool false) B_bp.out rfl
  have cbp4 := row_cell (k := 4) (v := .int .i64 0) B_bp.out rfl
  have cbp5 := row_cell (k := 5) (v := .int .u8 xttl) B_bp.out rfl
  have cbp6 := row_cell (k := 6) (v := .int .u8 xpr) B_bp.out rfl
  have cbp7 := row_cell (k := 7) (v := .int .u32 xsrc) B_bp.out rfl
  have cbp8 := row_cell (k := 8) (v := .int .u32 xdst) B_bp.out rfl
  have cbp9 := row_cell (k := 9) (v := .slice (some xA) xl.length xc) B_bp.out rfl
  go_wp2_with fail
  clear hk1 hr1
  obtain ⟨M, hM⟩ : ∃ M : Int, M = wrap64 (68 + (r1 : Int)) := ⟨_, rfl⟩
  try rw [← hM]
  have HM68 : Hid (68 ≤ M) := by
    show 68 ≤ M
    have := HKB.out
    rw [hM]
    unfold wrap64
    omega
  clear hM
  refine (split_pl _ (⟨xtos, xid, false, false, 0, xttl, xpr, xsrc, xdst, xl⟩ : Pk) (some xA) xc M w7 HO_x.out.rb (fun h => by cases h) HXN.out (spe_good HM68.out HRR.out rfl)).mono ?_
  rintro e w8 ⟨g, c5, z, n, os, rfl, hpl, hn42, hgb, hx⟩
  obtain ⟨Bp, hBp⟩ : ∃ Bp, Bp = w7.heap.size := ⟨_, rfl⟩
  rw [← hBp] at hpl hgb
  have HPL := Lib.hid hpl
  have HPD := Lib.hid hpl.pd
  have HN := Lib.hid hn42
  have HGB := Lib.hid hgb
  have HBP := Lib.hid hBp
  clear hpl hn42 hgb hBp
  have HX_w8 := Lib.hid hx
  clear hx
  clear cbp0 cbp1 cbp2 cbp3 cbp4 cbp5 cbp6 cbp7 cbp8 cbp9
  go_wp2_with fail
  refine (new_any 9 w8).mono ?_
  rintro e w9 ⟨rb, bm, rfl, hrs, hx⟩
  obtain ⟨B, hBe⟩ : ∃ B, B = w8.heap.size := ⟨_, rfl⟩
  rw [← hBe] at hrs
  have HRS0 := Lib.hid hrs
  have HBE := Lib.hid hBe
  clear hrs hBe
  have HX_w9 := Lib.hid hx
  clear hx
  by_cases hn2 : (n : Int) < 2
  · go_wp2_with fail
    go_ret
    exact ⟨rfl, ((((((((HX_w1.out.trans HX_w2.out).trans HX_w3.out).andThen HX_w4.out (fun i hi e => by have := hb_bp; omega)).andThen HX_w5.out (fun i hi e => by have := hb_bp; omega)).andThen HX_w6.out (fun i hi e => by have := hb_bp; omega)).andThen HX_w7.out (fun i hi e => by have := hb_bp; omega)).trans HX_w8.out).trans HX_w9.out)⟩
  · have H1N : Hid (1 < n) := show 1 < n by omega
    have hk2 := HK2.out
    obtain ⟨n1, hwn, hn1, hnz⟩ := wrap_sn H1N.out HN.out.2
    obtain ⟨r2, hr2, hr2b⟩ := rem_nat k2 n1 hn1.1
    obtain ⟨n0, hwr, hn0, hn0n⟩ := wrap_s1r hr2b hn1.2 HN.out.2
    clear hr2b hn1
    have HN0 := Lib.hid hn0n
    have HN00 := Lib.hid hn0
    clear hn0n hn0
    have HX08 := Lib.hid (((((((HX_w1.out.trans HX_w2.out).trans HX_w3.out).andThen HX_w4.out (fun i hi e => by have := hb_bp; omega)).andThen HX_w5.out (fun i hi e => by have := hb_bp; omega)).andThen HX_w6.out (fun i hi e => by have := hb_bp; omega)).andThen HX_w7.out (fun i hi e => by have := hb_bp; omega)).trans HX_w8.out)
    have HX09 := Lib.hid ((((((((HX_w1.out.trans HX_w2.out).trans HX_w3.out).andThen HX_w4.out (fun i hi e => by have := hb_bp; omega)).andThen HX_w5.out (fun i hi e => by have := hb_bp; omega)).andThen HX_w6.out (fun i hi e => by have := hb_bp; omega)).andThen HX_w7.out (fun i hi e => by have := hb_bp; omega)).trans HX_w8.out).trans HX_w9.out)
    have HG8 : Hid (ET w8) := HG7.out.keep HX_w8.out id
    go_upto_region 13 with fail
    rw [hwr]
    clear hwr hwn hr2 hk2 hnz hn2 HK2
    have HG0 := Lib.hid (GapS.start (⟨xtos, xid, false, false, 0, xttl, xpr, xsrc, xdst, xl⟩ : Pk) z n n1 1 HRS0.out)
    have HU0 : Hid (Up B w8 w9) := HX_w9.out.mono (fun _ _ h => h.elim)
    go_wp2_with fail
    go_loopg [17, 18, 19, 20] n0 (fun kx s17 _ _ _ wr => ∃ (i : Nat), s17 = .int .i64 i ∧ i ≤ n0 ∧ n0 - i ≤ kx ∧ Hid (GapS wr B rb bm 9 (⟨xtos, xid, false, false, 0, xttl, xpr, xsrc, xdst, xl⟩ : Pk) z n n1 1 (fun j => j < i) i) ∧ Hid (Up B w8 wr))
    case atStart => exact ⟨0, rfl, Nat.zero_le _, Nat.le_refl _, Lib.hid (HG0.out.mono (fun j h => absurd h (Nat.not_lt_zero _)) (Nat.le_refl _)), HU0⟩
    case round =>
      clear HU0 HG0
      obtain ⟨i, rfl, hi2, hkx, HGS, HU⟩ := hrel
      by_cases hlt : (i : Int) < (n0 : Int)
      · have HLT := Lib.hid (Int.ofNat_lt.1 hlt)
        have hil : i < n := Nat.lt_of_lt_of_le HLT.out (Nat.le_of_lt HN0.out.1)
        obtain ⟨omf, ooff, ob, oA, oc, hpe_o, hbl_o, hob_o, hrow_o⟩ := ((HPL.out.up HU.out (Nat.le_of_eq HBE.out.symm))).row hil
        have lc0 : wr.cell? ⟨g, i * 10, none⟩ = some (.int .u8 xtos) := hrow_o 0 _ rfl
        have lc1 : wr.cell? ⟨g, i * 10 + 1, none⟩ = some (.int .u16 xid) := hrow_o 1 _ rfl
        have lc2 : wr.cell? ⟨g, i * 10 + 2, none⟩ = some (.bool false) := hrow_o 2 _ rfl
        have lc3 : wr.cell? ⟨g, i * 10 + 3, none⟩ = some (.bool omf) := hrow_o 3 _ rfl
        have lc4 : wr.cell? ⟨g, i * 10 + 4, none⟩ = some (.int .i64 ooff) := hrow_o 4 _ rfl
        have lc5 : wr.cell? ⟨g, i * 10 + 5, none⟩ = some (.int .u8 xttl) := hrow_o 5 _ rfl
        have lc6 : wr.cell? ⟨g, i * 10 + 6, none⟩ = some (.int .u8 xpr) := hrow_o 6 _ rfl
        have lc7 : wr.cell? ⟨g, i * 10 + 7, none⟩ = some (.int .u32 xsrc) := hrow_o 7 _ rfl
        have lc8 : wr.cell? ⟨g, i * 10 + 8, none⟩ = some (.int .u32 xdst) := hrow_o 8 _ rfl
        have lc9 : wr.cell? ⟨g, i * 10 + 9, none⟩ = some (.slice oA ob.length oc) := hrow_o 9 _ rfl
        have HPE_o : Hid (pti (⟨xtos, xid, false, false, 0, xttl, xpr, xsrc, xdst, xl⟩ : Pk) z n i = (⟨xtos, xid, false, omf, ooff, xttl, xpr, xsrc, xdst, ob⟩ : Pk)) := hpe_o
        have HOB_o := Lib.hid hob_o
        have HBL_o : Hid (ob.length ≤ xl.length) := hbl_o
        clear hrow_o hpe_o hob_o hbl_o
        have hcall := gap_take HPD.out H1N.out (sp_gap HN0.out.2.2) OKX.out rfl rfl HRR.out HXN.out hil (sp_ne HLT.out HN0.out.2.1) (⟨xtos, xid, false, omf, ooff, xttl, xpr, xsrc, xdst, ob⟩ : Pk) HPE_o.out.symm oA oc 1 B rb bm 9 _ i (sp_200 HLT.out HN0.out.1 HN.out.2) wr HGS.out (RB.any HOB_o.out.rb) HOB_o.out.anyA
        have HC := Lib.hid hcall
        clear hcall hi2
        go_wp2_with fail
        refine HC.out.mono ?_
        rintro e wt ⟨rfl, hgs, hup⟩
        have HGT := Lib.hid hgs
        have HUT : Hid (Up B w8 wt) := HU.out.trans hup
        clear hgs hup HC lc0 lc1 lc2 lc3 lc4 lc5 lc6 lc7 lc8 lc9
        have hwi := wrap_s1 HLT.out (sp_42 HN0.out.1 HN.out.2)
        go_wp2_with fail
        go_roundg (n0 - (i + 1))
        case measure => exact msrS hkx HLT.out
        case rel =>
          refine ⟨i + 1, by first | (simp; done) | (rw [wrap_s12 HLT.out (sp_42 HN0.out.1 HN.out.2)]), HLT.out, Nat.le_refl _, Lib.hid ((HGT.out.mono (fun k h => ?_) (Nat.le_refl _)).keep ((Ex.refl _ _).alloc _)), Lib.hid (HUT.out.andThen ((Ex.refl (fun _ => False) _).alloc _) (fun k _ h => h.elim))⟩
          exact sp_step h
      · obtain rfl := sp_end hlt hi2
        clear hi2 hkx hlt
        obtain ⟨r3, hr3, hr3l⟩ := rem_nat k3 i HN00.out
        have hk3 := HK3.out
        have hnz : ¬ (i : Int) = 0 := by have := HN00.out; omega
        have HR3 := Lib.hid hr3l
        have hr3n : r3 < n := Nat.lt_trans hr3l HN0.out.1
        have hr3i : (r3 : Int) < (n : Int) := Int.ofNat_lt.2 hr3n
        obtain ⟨qmf, qoff, qb, qA, qc, hpe_q, hbl_q, hob_q, hrow_q⟩ := ((HPL.out.up HU.out (Nat.le_of_eq HBE.out.symm))).row hr3n
        have lq0 : wr.cell? ⟨g, r3 * 10, none⟩ = some (.int .u8 xtos) := hrow_q 0 _ rfl
        have lq1 : wr.cell? ⟨g, r3 * 10 + 1, none⟩ = some (.int .u16 xid) := hrow_q 1 _ rfl
        have lq2 : wr.cell? ⟨g, r3 * 10 + 2, none⟩ = some (.bool false) := hrow_q 2 _ rfl
        have lq3 : wr.cell? ⟨g, r3 * 10 + 3, none⟩ = some (.bool qmf) := hrow_q 3 _ rfl
        have lq4 : wr.cell? ⟨g, r3 * 10 + 4, none⟩ = some (.int .i64 qoff) := hrow_q 4 _ rfl
        have lq5 : wr.cell? ⟨g, r3 * 10 + 5, none⟩ = some (.int .u8 xttl) := hrow_q 5 _ rfl
        have lq6 : wr.cell? ⟨g, r3 * 10 + 6, none⟩ = some (.int .u8 xpr) := hrow_q 6 _ rfl
        have lq7 : wr.cell? ⟨g, r3 * 10 + 7, none⟩ = some (.int .u32 xsrc) := hrow_q 7 _ rfl
        have lq8 : wr.cell? ⟨g, r3 * 10 + 8, none⟩ = some (.int .u32 xdst) := hrow_q 8 _ rfl
        have lq9 : wr.cell? ⟨g, r3 * 10 + 9, none⟩ = some (.slice qA qb.length qc) := hrow_q 9 _ rfl
        have HPE_q : Hid (pti (⟨xtos, xid, false, false, 0, xttl, xpr, xsrc, xdst, xl⟩ : Pk) z n r3 = (⟨xtos, xid, false, qmf, qoff, xttl, xpr, xsrc, xdst, qb⟩ : Pk)) := hpe_q
        have HOB_q := Lib.hid hob_q
        have HBL_q : Hid (qb.length ≤ xl.length) := hbl_q
        clear hrow_q hpe_q hob_q hbl_q
        go_upto_region 20 with fail
        clear hr3 hk3 hnz hr3i lq0 lq1 lq2 lq3 lq4 lq5 lq6 lq7 lq8 lq9
        have hx : Ex (fun _ => False) wr (wr.alloc (.cells #[.int .u8 xtos, .int .u16 xid, .bool false, .bool qmf, .int .i64 qoff, .int .u8 xttl, .int .u8 xpr, .int .u32 xsrc, .int .u32 xdst, .slice qA qb.length qc] 27)) := (Ex.refl _ wr).alloc _
        have hb : (wr.alloc (.cells #[.int .u8 xtos, .int .u16 xid, .bool false, .bool qmf, .int .i64 qoff, .int .u8 xttl, .int .u8 xpr, .int .u32 xsrc, .int .u32 xdst, .slice qA qb.length qc] 27)).heap[wr.heap.size]? = some (.cells #[.int .u8 xtos, .int .u16 xid, .bool false, .bool qmf, .int .i64 qoff, .int .u8 xttl, .int .u8 xpr, .int .u32 xsrc, .int .u32 xdst, .slice qA qb.length qc] 27) := heap_alloc_new wr _
        obtain ⟨sx, hsx⟩ : ∃ sx, sx = wr.heap.size := ⟨_, rfl⟩
        have hb_sx : wr.heap.size ≤ sx := by omega
        rw [← hsx] at hb
        try simp only [← hsx]
        generalize wr.alloc (.cells #[.int .u8 xtos, .int .u16 xid, .bool false, .bool qmf, .int .i64 qoff, .int .u8 xttl, .int .u8 xpr, .int .u32 xsrc, .int .u32 xdst, .slice qA qb.length qc] 27) = wx at hx hb ⊢
        clear hsx
        have HX_wx := Lib.hid hx
        clear hx
        have B_sx := Lib.hid hb
        clear hb
        have hq0 : 0 < qb.length := by
          have h := HPD.out.bpos H1N.out hr3n
          rw [HPE_q.out] at h
          exact h
        have HQ0 := Lib.hid hq0
        have HR3N := Lib.hid hr3n
        have hq2k : qb.length ≤ 2000 := Nat.le_trans HBL_q.out HXN.out
        have HQ2 := Lib.hid hq2k
        clear hq0 hr3n hr3l hq2k
        obtain ⟨i0, hi, hz0, hz1, hz2⟩ := info_parts Tryd.info5
        have hrw := (OB.keep HOB_q.out HX_wx.out (fun _ _ _ _ => id))
        have HRW := Lib.hid hrw
        clear hrw
        have csx9 := row_cell (k := 9) (v := .slice qA qb.length qc) B_sx.out rfl
        have fsx9 := row_frozen B_sx.out 9
        have hx0 : (wx.alloc (.cells #[] 5)).heap[sx]? = _ := (((Ex.refl (fun _ => False) wx).alloc (.cells #[] 5)).block sx (row_lt (show wx.heap[sx]? = _ from B_sx.out)) id).trans B_sx.out
        have c9a := row_cell (k := 9) (v := .slice qA qb.length qc) hx0 rfl
        clear hx0
        go_upto_region 21 with (at_builtin; refine wpList_append_ob i0 25 Tryd.underlying25 hi hz0 hz1 hz2 rfl (.tmp 85) (.tmp 87) rfl wx.heap.size (.slice (some ⟨wx.heap.size, 0, none⟩) 0 0) [] rfl (fun _ => True) (.slice qA qb.length qc) qb rfl (OB.lit wx wx.heap.size [] (Nat.le_refl _) (by simp)) ((RB.any HRW.out.rb).alloc _) (by have := HQ2.out; simp; omega) (by simp) ?_; intro A3 c3 wy ho3 hg3 hn3 hb3; have hx3 : Ex (fun _ => False) wx wy := ((Ex.refl _ wx).alloc _).grown hg3 (fun k hk => .inr (by obtain rfl := Option.some.inj hk; exact Nat.le_refl _)); have hq := hx3.block sx (row_lt (show wx.heap[sx]? = _ from B_sx.out)) id; have hq2 := hq.trans (show wx.heap[sx]? = _ from B_sx.out); have c9 := row_cell (k := 9) (v := .slice qA qb.length qc) hq2 rfl; have f9 := row_frozen hq2 9; clear hq)
        clear csx9 fsx9 c9a c9 f9 hi hz0 hz1 hz2
        cases A3 with
        | none => exact absurd (hn3.1 rfl).1 (by simp)
        | some A3 =>
          have hx := hx3
          have ho : OB wy wx.heap.size (.slice (some A3) qb.length c3) qb := by simpa using ho3
          obtain ⟨gq, rfl, hb_gq, hgqs⟩ := ho.plain
          clear hx3 hq2 hg3 hn3 hb3 ho3
          have hbx := row_lt B_sx.out
          have HX_wy := Lib.hid hx
          clear hx
          have HO := Lib.hid ho
          clear ho
          try simp only [List.length_nil, Nat.zero_add]
          replace B_sx := Lib.hid ((HX_wy.out.block sx (row_lt B_sx.out) id).trans B_sx.out)
          have hb : (wy.setCell ⟨sx, 9, none⟩ (.slice (some ⟨gq, 0, none⟩) qb.length c3)).heap[sx]? = some (.cells #[.int .u8 xtos, .int .u16 xid, .bool false, .bool qmf, .int .i64 qoff, .int .u8 xttl, .int .u8 xpr, .int .u32 xsrc, .int .u32 xdst, .slice (some ⟨gq, 0, none⟩) qb.length c3] 27) := (row_set B_sx.out 9 (.slice (some ⟨gq, 0, none⟩) qb.length c3))
          have hx : Ex (fun j => j = sx) wy (wy.setCell ⟨sx, 9, none⟩ (.slice (some ⟨gq, 0, none⟩) qb.length c3)) := ((Ex.refl (fun j => j = sx) wy).setCell (p := ⟨sx, 9, none⟩) (.inl rfl) (.slice (some ⟨gq, 0, none⟩) qb.length c3))
          generalize (wy.setCell ⟨sx, 9, none⟩ (.slice (some ⟨gq, 0, none⟩) qb.length c3)) = wz at hx hb ⊢
          clear B_sx
          have HX_wz := Lib.hid hx
          clear hx
          have B_sx := Lib.hid hb
          clear hb
          replace HO := Lib.hid (OB.keepB HO.out HX_wz.out (by omega))
          have ne_sx_gq : sx ≠ gq := by omega
          obtain ⟨jj, hjt, hjl⟩ := rem_nat k4 qb.length HQ0.out
          have hk4 := HK4.out
          have HQN : Hid (¬ qb = []) := fun e => by have h := HQ0.out; rw [e] at h; exact Nat.lt_irrefl _ h
          have cj := HO.out.cell jj hjl
          have fj := HO.out.frozen jj
          have xj := xor_u8 qb[jj] y
          obtain ⟨X, hX⟩ : ∃ X, X = qb[jj] ^^^ y := ⟨_, rfl⟩
          rw [← hX] at xj
          have HX9 := Lib.hid hX
          clear hX
          obtain ⟨Q, hQ⟩ : ∃ Q : Int, (qb[jj].toNat : Int) = Q := ⟨_, rfl⟩
          rw [hQ] at cj xj
          clear hQ
          have csx9 := row_cell (k := 9) (v := .slice (some ⟨gq, 0, none⟩) qb.length c3) B_sx.out rfl
          have hS0 : Ex (fun k => k = gq) wz wz.drew := (Ex.refl _ wz).drew
          refine wp_region_held_drew (S := fun W => Ex (fun k => k = gq) wz W) (by kernel_rfl) hS0 (fun _ => ?_)
          refine wpAnyH_take (i := 0) (oi := { dst := some 90, op := Go.Op.fieldAddr 27 (Go.Operand.tmp 21) 9, type := 0, pos := "more.go:71", after := #[], guard := none }) (v := ?v1) rfl (by kernel_rfl) (by kernel_rfl) (by kernel_rfl) (fun _ _ _ h => h) (Or.inl ⟨by rfl, ?hy1⟩) (by assumption) ?rest1
          case hy1 => (intro w hSw; (try dsimp only at hSw); have ecsx9 := hSw.cell csx9 ne_sx_gq; have hqn := HQN.out; go_simp <;> with_reducible rfl)
          try simp only [Act.put, List.setIfInBounds_toArray, List.set_cons_zero, List.set_cons_succ]
          refine wpAnyH_take (i := 1) (oi := { dst := some 91, op := Go.Op.load 25 (Go.Operand.tmp 90), type := 25, pos := "more.go:71", after := #[{ on := 0, ground := Go.Ground.data }], guard := none }) (v := ?v2) rfl (by kernel_rfl) (by kernel_rfl) (by kernel_rfl) (fun _ _ _ h => h) (Or.inl ⟨by rfl, ?hy2⟩) (by assumption) ?rest2
          case hy2 => (intro w hSw; (try dsimp only at hSw); have ecsx9 := hSw.cell csx9 ne_sx_gq; have hqn := HQN.out; go_simp <;> with_reducible rfl)
          try simp only [Act.put, List.setIfInBounds_toArray, List.set_cons_zero, List.set_cons_succ]
          refine wpAnyH_take (i := 2) (oi := { dst := some 92, op := Go.Op.move (Go.Operand.tmp 4), type := 3, pos := "more.go:71", after := #[], guard := none }) (v := ?v3) rfl (by kernel_rfl) (by kernel_rfl) (by kernel_rfl) (fun _ _ _ h => h) (Or.inl ⟨by rfl, ?hy3⟩) (by assumption) ?rest3
          case hy3 => (intro w hSw; (try dsimp only at hSw); have ecsx9 := hSw.cell csx9 ne_sx_gq; have hqn := HQN.out; go_simp <;> with_reducible rfl)
          try simp only [Act.put, List.setIfInBounds_toArray, List.set_cons_zero, List.set_cons_succ]
          refine wpAnyH_take (i := 3) (oi := { dst := some 93, op := Go.Op.binOp Go.BinOp.and 3 (Go.Operand.tmp 92) (Go.Operand.const (Go.Value.int Go.IntKind.i64 65535)) 3, type := 3, pos := "more.go:71", after := #[{ on := 2, ground := Go.Ground.data }], guard := none }) (v := ?v4) rfl (by kernel_rfl) (by kernel_rfl) (by kernel_rfl) (fun _ _ _ h => h) (Or.inl ⟨by rfl, ?hy4⟩) (by assumption) ?rest4
          case hy4 => (intro w hSw; (try dsimp only at hSw); have ecsx9 := hSw.cell csx9 ne_sx_gq; have hqn := HQN.out; go_simp <;> with_reducible rfl)
          try simp only [Act.put, List.setIfInBounds_toArray, List.set_cons_zero, List.set_cons_succ]
          refine wpAnyH_take (i := 4) (oi := { dst := some 94, op := Go.Op.fieldAddr 27 (Go.Operand.tmp 21) 9, type := 0, pos := "more.go:71", after := #[], guard := none }) (v := ?v5) rfl (by kernel_rfl) (by kernel_rfl) (by kernel_rfl) (fun _ _ _ h => h) (Or.inl ⟨by rfl, ?hy5⟩) (by assumption) ?rest5
          case hy5 => (intro w hSw; (try dsimp only at hSw); have ecsx9 := hSw.cell csx9 ne_sx_gq; have hqn := HQN.out; go_simp <;> with_reducible rfl)
          try simp only [Act.put, List.setIfInBounds_toArray, List.set_cons_zero, List.set_cons_succ]
          refine wpAnyH_take (i := 5) (oi := { dst := some 95, op := Go.Op.load 25 (Go.Operand.tmp 94), type := 25, pos := "more.go:71", after := #[{ on := 4, ground := Go.Ground.data }], guard := none }) (v := ?v6) rfl (by kernel_rfl) (by kernel_rfl) (by kernel_rfl) (fun _ _ _ h => h) (Or.inl ⟨by rfl, ?hy6⟩) (by assumption) ?rest6
          case hy6 => (intro w hSw; (try dsimp only at hSw); have ecsx9 := hSw.cell csx9 ne_sx_gq; have hqn := HQN.out; go_simp <;> with_reducible rfl)
          try simp only [Act.put, List.setIfInBounds_toArray, List.set_cons_zero, List.set_cons_succ]
          refine wpAnyH_take (i := 6) (oi := { dst := some 96, op := Go.Op.call { callee := Go.Callee.builtin Go.Builtin.len, args := #[Go.Operand.tmp 95], argTypes := #[25] }, type := 3, pos := "more.go:71", after := #[{ on := 5, ground := Go.Ground.data }], guard := none }) (v := ?v7) rfl (by kernel_rfl) (by kernel_rfl) (by kernel_rfl) (fun _ _ _ h => h) (Or.inl ⟨by rfl, ?hy7⟩) (by assumption) ?rest7
          case hy7 => (intro w hSw; (try dsimp only at hSw); have ecsx9 := hSw.cell csx9 ne_sx_gq; have hqn := HQN.out; go_simp <;> with_reducible rfl)
          try simp only [Act.put, List.setIfInBounds_toArray, List.set_cons_zero, List.set_cons_succ]
          refine wpAnyH_take (i := 7) (oi := { dst := some 97, op := Go.Op.binOp Go.BinOp.rem 3 (Go.Operand.tmp 93) (Go.Operand.tmp 96) 3, type := 3, pos := "more.go:71", after := #[{ on := 3, ground := Go.Ground.data }, { on := 6, ground := Go.Ground.data }], guard := none }) (v := ?v8) rfl (by kernel_rfl) (by kernel_rfl) (by kernel_rfl) (fun _ _ _ h => h) (Or.inl ⟨by rfl, ?hy8⟩) (by assumption) ?rest8
          case hy8 => (intro w hSw; (try dsimp only at hSw); have ecsx9 := hSw.cell csx9 ne_sx_gq; have hqn := HQN.out; go_simp <;> with_reducible rfl)
          try simp only [Act.put, List.setIfInBounds_toArray, List.set_cons_zero, List.set_cons_succ]
          refine wpAnyH_take (i := 8) (oi := { dst := some 98, op := Go.Op.fieldAddr 27 (Go.Operand.tmp 21) 9, type := 0, pos := "more.go:71", after := #[], guard := none }) (v := ?v9) rfl (by kernel_rfl) (by kernel_rfl) (by kernel_rfl) (fun _ _ _ h => h) (Or.inl ⟨by rfl, ?hy9⟩) (by assumption) ?rest9
          case hy9 => (intro w hSw; (try dsimp only at hSw); have ecsx9 := hSw.cell csx9 ne_sx_gq; have hqn := HQN.out; go_simp <;> with_reducible rfl)
          try simp only [Act.put, List.setIfInBounds_toArray, List.set_cons_zero, List.set_cons_succ]
          refine wpAnyH_take (i := 9) (oi := { dst := some 99, op := Go.Op.load 25 (Go.Operand.tmp 98), type := 25, pos := "more.go:71", after := #[{ on := 8, ground := Go.Ground.data }], guard := none }) (v := ?v10) rfl (by kernel_rfl) (by kernel_rfl) (by kernel_rfl) (fun _ _ _ h => h) (Or.inl ⟨by rfl, ?hy10⟩) (by assumption) ?rest10
          case hy10 => (intro w hSw; (try dsimp only at hSw); have ecsx9 := hSw.cell csx9 ne_sx_gq; have hqn := HQN.out; go_simp <;> with_reducible rfl)
          try simp only [Act.put, List.setIfInBounds_toArray, List.set_cons_zero, List.set_cons_succ]
          refine wpAnyH_take (i := 10) (oi := { dst := some 100, op := Go.Op.move (Go.Operand.tmp 4), type := 3, pos := "more.go:71", after := #[], guard := none }) (v := ?v11) rfl (by kernel_rfl) (by kernel_rfl) (by kernel_rfl) (fun _ _ _ h => h) (Or.inl ⟨by rfl, ?hy11⟩) (by assumption) ?rest11
          case hy11 => (intro w hSw; (try dsimp only at hSw); have ecsx9 := hSw.cell csx9 ne_sx_gq; have hqn := HQN.out; go_simp <;> with_reducible rfl)
          try simp only [Act.put, List.setIfInBounds_toArray, List.set_cons_zero, List.set_cons_succ]
          refine wpAnyH_take (i := 11) (oi := { dst := some 101, op := Go.Op.binOp Go.BinOp.and 3 (Go.Operand.tmp 100) (Go.Operand.const (Go.Value.int Go.IntKind.i64 65535)) 3, type := 3, pos := "more.go:71", after := #[{ on := 10, ground := Go.Ground.data }], guard := none }) (v := ?v12) rfl (by kernel_rfl) (by kernel_rfl) (by kernel_rfl) (fun _ _ _ h => h) (Or.inl ⟨by rfl, ?hy12⟩) (by assumption) ?rest12
          case hy12 => (intro w hSw; (try dsimp only at hSw); have ecsx9 := hSw.cell csx9 ne_sx_gq; have hqn := HQN.out; go_simp <;> with_reducible rfl)
          try simp only [Act.put, List.setIfInBounds_toArray, List.set_cons_zero, List.set_cons_succ]
          refine wpAnyH_take (i := 12) (oi := { dst := some 102, op := Go.Op.fieldAddr 27 (Go.Operand.tmp 21) 9, type := 0, pos := "more.go:71", after := #[], guard := none }) (v := ?v13) rfl (by kernel_rfl) (by kernel_rfl) (by kernel_rfl) (fun _ _ _ h => h) (Or.inl ⟨by rfl, ?hy13⟩) (by assumption) ?rest13
          case hy13 => (intro w hSw; (try dsimp only at hSw); have ecsx9 := hSw.cell csx9 ne_sx_gq; have hqn := HQN.out; go_simp <;> with_reducible rfl)
          try simp only [Act.put, List.setIfInBounds_toArray, List.set_cons_zero, List.set_cons_succ]
          refine wpAnyH_take (i := 13) (oi := { dst := some 103, op := Go.Op.load 25 (Go.Operand.tmp 102), type := 25, pos := "more.go:71", after := #[{ on := 12, ground := Go.Ground.data }], guard := none }) (v := ?v14) rfl (by kernel_rfl) (by kernel_rfl) (by kernel_rfl) (fun _ _ _ h => h) (Or.inl ⟨by rfl, ?hy14⟩) (by assumption) ?rest14
          case hy14 => (intro w hSw; (try dsimp only at hSw); have ecsx9 := hSw.cell csx9 ne_sx_gq; have hqn := HQN.out; go_simp <;> with_reducible rfl)
          try simp only [Act.put, List.setIfInBounds_toArray, List.set_cons_zero, List.set_cons_succ]
          refine wpAnyH_take (i := 14) (oi := { dst := some 104, op := Go.Op.call { callee := Go.Callee.builtin Go.Builtin.len, args := #[Go.Operand.tmp 103], argTypes := #[25] }, type := 3, pos := "more.go:71", after := #[{ on := 13, ground := Go.Ground.data }], guard := none }) (v := ?v15) rfl (by kernel_rfl) (by kernel_rfl) (by kernel_rfl) (fun _ _ _ h => h) (Or.inl ⟨by rfl, ?hy15⟩) (by assumption) ?rest15
          case hy15 => (intro w hSw; (try dsimp only at hSw); have ecsx9 := hSw.cell csx9 ne_sx_gq; have hqn := HQN.out; go_simp <;> with_reducible rfl)
          try simp only [Act.put, List.setIfInBounds_toArray, List.set_cons_zero, List.set_cons_succ]
          refine wpAnyH_take (i := 15) (oi := { dst := some 105, op := Go.Op.binOp Go.BinOp.rem 3 (Go.Operand.tmp 101) (Go.Operand.tmp 104) 3, type := 3, pos := "more.go:71", after := #[{ on := 11, ground := Go.Ground.data }, { on := 14, ground := Go.Ground.data }], guard := none }) (v := ?v16) rfl (by kernel_rfl) (by kernel_rfl) (by kernel_rfl) (fun _ _ _ h => h) (Or.inl ⟨by rfl, ?hy16⟩) (by assumption) ?rest16
          case hy16 => (intro w hSw; (try dsimp only at hSw); have ecsx9 := hSw.cell csx9 ne_sx_gq; have hqn := HQN.out; go_simp <;> with_reducible rfl)
          try simp only [Act.put, List.setIfInBounds_toArray, List.set_cons_zero, List.set_cons_succ]
          refine wpAnyH_take (i := 16) (oi := { dst := some 106, op := Go.Op.indexAddr 25 (Go.Operand.tmp 99) (Go.Operand.tmp 105), type := 0, pos := "more.go:71", after := #[{ on := 9, ground := Go.Ground.data }, { on := 15, ground := Go.Ground.data }], guard := none }) (v := ?v17) rfl (by kernel_rfl) (by kernel_rfl) (by kernel_rfl) (fun _ _ _ h => h) (Or.inl ⟨by rfl, ?hy17⟩) (by assumption) ?rest17
          case hy17 => (intro w hSw; (try dsimp only at hSw); have ecsx9 := hSw.cell csx9 ne_sx_gq; have hqn := HQN.out; go_simp <;> with_reducible rfl)
          try simp only [Act.put, List.setIfInBounds_toArray, List.set_cons_zero, List.set_cons_succ]
          refine wpAnyH_take (i := 18) (oi := { dst := some 108, op := Go.Op.move (Go.Operand.tmp 5), type := 5, pos := "more.go:71", after := #[], guard := none }) (v := ?v18) rfl (by kernel_rfl) (by kernel_rfl) (by kernel_rfl) (fun _ _ _ h => h) (Or.inl ⟨by rfl, ?hy18⟩) (by assumption) ?rest18
          case hy18 => (intro w hSw; (try dsimp only at hSw); have ecsx9 := hSw.cell csx9 ne_sx_gq; have hqn := HQN.out; go_simp <;> with_reducible rfl)
          try simp only [Act.put, List.setIfInBounds_toArray, List.set_cons_zero, List.set_cons_succ]
          refine wpAnyH_ready (rs := [17]) (by kernel_rfl) (by simp) ?_
          refine AllReadyH.cons (o := { dst := some 107, op := Go.Op.load 5 (Go.Operand.tmp 106), type := 5, pos := "more.go:71", after := #[{ on := 16, ground := Go.Ground.data }], guard := none }) rfl (fun K hK => ?_) AllReadyH.nil
          go_simp
          refine hK.out _ _ hS0 (fun _ => ?_)
          refine wpAnyH_take (i := 19) (oi := { dst := some 109, op := Go.Op.binOp Go.BinOp.xor 5 (Go.Operand.tmp 107) (Go.Operand.tmp 108) 5, type := 5, pos := "more.go:71", after := #[{ on := 17, ground := Go.Ground.data }, { on := 18, ground := Go.Ground.data }], guard := none }) (v := ?v19) rfl (by kernel_rfl) (by kernel_rfl) (by kernel_rfl) (fun _ _ _ h => h) (Or.inl ⟨by rfl, ?hy19⟩) (by assumption) ?rest19
          case hy19 => (intro w hSw; (try dsimp only at hSw); have ecsx9 := hSw.cell csx9 ne_sx_gq; have hqn := HQN.out; go_simp <;> with_reducible rfl)
          try simp only [Act.put, List.setIfInBounds_toArray, List.set_cons_zero, List.set_cons_succ]
          refine wpAnyH_take (i := 20) (oi := { dst := some 110, op := Go.Op.indexAddr 25 (Go.Operand.tmp 91) (Go.Operand.tmp 97), type := 0, pos := "more.go:71", after := #[{ on := 1, ground := Go.Ground.data }, { on := 7, ground := Go.Ground.data }, { on := 0, ground := Go.Ground.phase }, { on := 1, ground := Go.Ground.phase }, { on := 2, ground := Go.Ground.phase }, { on := 3, ground := Go.Ground.phase }, { on := 4, ground := Go.Ground.phase }, { on := 5, ground := Go.Ground.phase }, { on := 6, ground := Go.Ground.phase }, { on := 7, ground := Go.Ground.phase }, { on := 8, ground := Go.Ground.phase }, { on := 9, ground := Go.Ground.phase }, { on := 10, ground := Go.Ground.phase }, { on := 11, ground := Go.Ground.phase }, { on := 12, ground := Go.Ground.phase }, { on := 13, ground := Go.Ground.phase }, { on := 14, ground := Go.Ground.phase }, { on := 15, ground := Go.Ground.phase }, { on := 16, ground := Go.Ground.phase }, { on := 17, ground := Go.Ground.phase }, { on := 18, ground := Go.Ground.phase }, { on := 19, ground := Go.Ground.phase }], guard := none }) (v := ?v20) rfl (by kernel_rfl) (by kernel_rfl) (by kernel_rfl) (fun _ _ _ h => h) (Or.inl ⟨by rfl, ?hy20⟩) (by assumption) ?rest20
          case hy20 => (intro w hSw; (try dsimp only at hSw); have ecsx9 := hSw.cell csx9 ne_sx_gq; have hqn := HQN.out; go_simp <;> with_reducible rfl)
          try simp only [Act.put, List.setIfInBounds_toArray, List.set_cons_zero, List.set_cons_succ]
          refine wpAnyH_ready (rs := [21]) (by kernel_rfl) (by simp) ?_
          refine AllReadyH.cons (o := { dst := none, op := Go.Op.store 5 (Go.Operand.tmp 110) (Go.Operand.tmp 109), type := 0, pos := "more.go:71", after := #[{ on := 20, ground := Go.Ground.data }, { on := 19, ground := Go.Ground.data }, { on := 0, ground := Go.Ground.phase }, { on := 1, ground := Go.Ground.phase }, { on := 2, ground := Go.Ground.phase }, { on := 3, ground := Go.Ground.phase }, { on := 4, ground := Go.Ground.phase }, { on := 5, ground := Go.Ground.phase }, { on := 6, ground := Go.Ground.phase }, { on := 7, ground := Go.Ground.phase }, { on := 8, ground := Go.Ground.phase }, { on := 9, ground := Go.Ground.phase }, { on := 10, ground := Go.Ground.phase }, { on := 11, ground := Go.Ground.phase }, { on := 12, ground := Go.Ground.phase }, { on := 13, ground := Go.Ground.phase }, { on := 14, ground := Go.Ground.phase }, { on := 15, ground := Go.Ground.phase }, { on := 16, ground := Go.Ground.phase }, { on := 17, ground := Go.Ground.phase }, { on := 18, ground := Go.Ground.phase }, { on := 19, ground := Go.Ground.phase }], guard := none }) rfl (fun K hK => ?_) AllReadyH.nil
          go_simp
          refine hK.out _ _ (((Ex.refl (fun k => k = gq) wz).setCell (p := ⟨gq, jj, none⟩) (.inl rfl) (.int .u8 (X.toNat : Int))).drew) (fun _ => ?_)
          refine wpAnyH_done (by kernel_rfl) ?_ _
          have hx : Ex (fun k => k = gq) wz (wz.setCell ⟨gq, jj, none⟩ (.int .u8 (X.toNat : Int))).drew := ((Ex.refl (fun k => k = gq) wz).setCell (p := ⟨gq, jj, none⟩) (.inl rfl) (.int .u8 (X.toNat : Int))).drew
          have ho : OB (wz.setCell ⟨gq, jj, none⟩ (.int .u8 (X.toNat : Int))).drew wx.heap.size (.slice (some ⟨gq, 0, none⟩) qb.length c3) (qb.set jj X) := (HO.out.set jj X (.int .u8 (X.toNat : Int)) rfl).keep ((Ex.refl (fun _ => False) _).drew) (fun _ _ _ _ => id)
          clear hS0 csx9 cj fj xj hjt hk4
          generalize (wz.setCell ⟨gq, jj, none⟩ (.int .u8 (X.toNat : Int))).drew = wv at hx ho ⊢
          have hml : (qb.set jj X).length = qb.length := List.length_set
          have hm0 : y = 0 → qb.set jj X = qb := by
            intro hy
            rw [HX9.out, hy, UInt8.xor_zero, List.set_getElem_self]
          have hm1 : y ≠ 0 → qb.set jj X ≠ qb := by
            intro hy e
            have h1 : (qb.set jj X)[jj]? = qb[jj]? := by rw [e]
            rw [List.getElem?_set_self hjl, List.getElem?_eq_getElem hjl, HX9.out] at h1
            exact xor_ne hy (Option.some.inj h1)
          obtain ⟨m2, hm2⟩ : ∃ m2, m2 = qb.set jj X := ⟨_, rfl⟩
          rw [← hm2] at ho hml hm0 hm1
          have HML := Lib.hid hml
          have HM0 := Lib.hid hm0
          have HM1 := Lib.hid hm1
          have HGQ := Lib.hid hb_gq
          clear hml hm0 hm1 hm2 HX9 hjl
          have HX_wv := Lib.hid hx
          clear hx
          have HOV := Lib.hid ho
          clear ho
          replace B_sx := Lib.hid ((HX_wv.out.block sx (row_lt B_sx.out) ne_sx_gq).trans B_sx.out)
          have csx0 := row_cell (k := 0) (v := .int .u8 xtos) B_sx.out rfl
          have csx1 := row_cell (k := 1) (v := .int .u16 xid) B_sx.out rfl
          have csx2 := row_cell (k := 2) (v := .bool false) B_sx.out rfl
          have csx3 := row_cell (k := 3) (v := .bool qmf) B_sx.out rfl
          have csx4 := row_cell (k := 4) (v := .int .i64 qoff) B_sx.out rfl
          have csx5 := row_cell (k := 5) (v := .int .u8 xttl) B_sx.out rfl
          have csx6 := row_cell (k := 6) (v := .int .u8 xpr) B_sx.out rfl
          have csx7 := row_cell (k := 7) (v := .int .u32 xsrc) B_sx.out rfl
          have csx8 := row_cell (k := 8) (v := .int .u32 xdst) B_sx.out rfl
          have csx9 := row_cell (k := 9) (v := .slice (some ⟨gq, 0, none⟩) qb.length c3) B_sx.out rfl
          have HX0V := Lib.hid (((HX_wx.out.trans HX_wy.out).andThen HX_wz.out (fun i hi e => by have := hb_sx; omega)).andThen HX_wv.out (fun i hi e => by have := HX_wx.out.size; have := hb_gq; omega))
          have HUV : Hid (Up B w8 wv) := HU.out.andThen HX0V.out (fun k _ h => h.elim)
          have HGV : Hid (GapS wv B rb bm 9 (⟨xtos, xid, false, false, 0, xttl, xpr, xsrc, xdst, xl⟩ : Pk) z n n1 1 (fun j => j < i) i) := HGS.out.keep HX0V.out
          have HOW : Hid (RB wv (fun _ => True) (.slice (some ⟨gq, 0, none⟩) m2.length c3) m2) := by
            have h := RB.any HOV.out.rb
            rw [← HML.out] at h
            exact h
          rw [← HML.out] at csx9
          by_cases hy : y = 0
          · have hyb : ((y.toNat : Int) == 0) = true := by rw [hy]; rfl
            have HM := Lib.hid (HM0.out hy)
            clear hy
            have hpe : (⟨xtos, xid, false, qmf, qoff, xttl, xpr, xsrc, xdst, m2⟩ : Pk) = pti (⟨xtos, xid, false, false, 0, xttl, xpr, xsrc, xdst, xl⟩ : Pk) z n r3 := by rw [HM.out]; exact HPE_q.out.symm
            have hcall := gap_take HPD.out H1N.out (sp_gap HN0.out.2.2) OKX.out rfl rfl HRR.out HXN.out HR3N.out (sp_ne HR3.out HN0.out.2.1) (⟨xtos, xid, false, qmf, qoff, xttl, xpr, xsrc, xdst, m2⟩ : Pk) hpe (some ⟨gq, 0, none⟩) c3 1 B rb bm 9 _ i (sp_200' HN0.out.1 HN.out.2) wv HGV.out HOW.out (fun h => by cases h)
            have HC := Lib.hid hcall
            clear hcall hpe
            go_wp2_with fail
            refine HC.out.mono ?_
            rintro e wt ⟨rfl, hgs, hup⟩
            obtain ⟨x, hrs1, _, _, _, _⟩ := hgs.one (j := r3) (.inr rfl)
            have HRS1 := Lib.hid hrs1
            have HUT : Hid (Up B w8 wt) := HUV.out.trans hup
            clear hgs hup HC hrs1 csx0 csx1 csx2 csx3 csx4 csx5 csx6 csx7 csx8 csx9
            go_wp2_with fail
            refine (len_any B rb bm 9 [x] _ (HRS1.out.keep ((Ex.refl _ _).alloc _))).mono ?_
            rintro e wl ⟨rfl, hwl⟩
            rw [show ((([x] : List Hp).length : Int)) = 1 from rfl]
            have HXL : Hid (Ex (fun _ => False) wt wl) := by rw [hwl]; exact (Ex.refl (fun _ => False) _).alloc _
            clear hwl
            go_wp2_with fail
            go_ret
            refine ⟨rfl, HX08.out.andThen (HUT.out.andThen HXL.out (fun k _ h => h.elim)) (fun k h1 h2 => ?_)⟩
            have h3 := HBE.out
            have h4 := HX08.out.size
            omega
          · have hyb : ((y.toNat : Int) == 0) = false := by
              rw [beq_eq_false_iff_ne]
              intro h
              exact hy (UInt8.toNat_inj.1 (by rw [show y.toNat = 0 by omega]; rfl))
            have HM := Lib.hid (HM1.out hy)
            clear hy
            obtain ⟨x, hrs1, hxk, _, hxm, hxl⟩ := HGV.out.one (j := r3) HR3.out
            have hok : (⟨xtos, xid, false, qmf, qoff, xttl, xpr, xsrc, xdst, m2⟩ : Pk).ok := by
              have h := HPD.out.ok OKX.out HRR.out HR3N.out
              rw [HPE_q.out] at h
              exact h
            have hrt : (⟨xtos, xid, false, qmf, qoff, xttl, xpr, xsrc, xdst, m2⟩ : Pk).right = 0 := by
              have h := HPD.out.right HRR.out HR3N.out
              rw [HPE_q.out] at h
              exact (right_len (x := (⟨xtos, xid, false, qmf, qoff, xttl, xpr, xsrc, xdst, qb⟩ : Pk)) (b := m2) HML.out).trans h
            have hap : ¬ ((⟨xtos, xid, false, qmf, qoff, xttl, xpr, xsrc, xdst, m2⟩ : Pk).off = 0 ∧ (⟨xtos, xid, false, qmf, qoff, xttl, xpr, xsrc, xdst, m2⟩ : Pk).mf = false) := by
              have h := HPD.out.apart (i := r3) rfl H1N.out
              rw [HPE_q.out] at h
              exact h
            have hmm := hxm r3 HR3.out
            rw [HPE_q.out] at hmm
            have hcall := take_fight (⟨xtos, xid, false, qmf, qoff, xttl, xpr, xsrc, xdst, m2⟩ : Pk) (some ⟨gq, 0, none⟩) c3 1 B rb bm 9 ([] ++ x :: []) wv hrs1 hok HOW.out (fun h => by cases h) (sp_100k HML.out HQ2.out) [] [] x hrt hap rfl hxk (spoilt_any hmm rfl HML.out HM.out) (sp_1000 hxl HN0.out.1 HN.out.2)
            have HC := Lib.hid hcall
            have HBM := Lib.hid hrs1.lo.2
            clear hcall hok hrt hap hmm hxm hxl hxk hrs1
            go_wp2_with fail
            refine HC.out.mono ?_
            rintro e wt ⟨t9, y9, rfl, hec, hrs, hx⟩
            have HRST := Lib.hid hrs
            have HUT : Hid (Up B w8 wt) := HUV.out.trans (hx.mono (fun k _ e => by have e : k = bm := e; have := HBM.out; omega))
            have hgt : ∀ W, Ex (fun _ => False) wt W → ET W := fun W h => ET.up HG8.out (HUT.out.andThen h (fun k _ h => h.elim)) (Nat.le_of_eq HBE.out.symm)
            have HGT := Lib.hid hgt
            have HEC := Lib.hid (fun W (h : Ex (fun _ => False) wt W) => EC.keep h (fun _ _ => id) hec)
            clear HC hrs hx hec hgt csx0 csx1 csx2 csx3 csx4 csx5 csx6 csx7 csx8 csx9
            go_wp2_with fail
            refine (code_any _ _ _ _ _ (HEC.out _ ((Ex.refl _ _).alloc _)) (HGT.out _ ((Ex.refl _ _).alloc _))).mono ?_
            rintro e wc ⟨rfl, hx⟩
            have HXC : Hid (Ex (fun _ => False) wt wc) := ((Ex.refl (fun _ => False) wt).alloc _).trans hx
            clear hx
            go_wp2_with fail
            refine (len_any B rb bm 9 ([] ++ []) wc (HRST.out.keep HXC.out)).mono ?_
            rintro e wl ⟨rfl, hwl⟩
            rw [show ((([] ++ [] : List Hp).length : Int)) = 0 from rfl]
            obtain rfl : wc = wl := hwl.symm
            go_wp2_with fail
            go_ret
            refine ⟨rfl, HX08.out.andThen (HUT.out.andThen HXC.out (fun k _ h => h.elim)) (fun k h1 h2 => ?_)⟩
            have h3 := HBE.out
            have h4 := HX08.out.size
            omega
end Go.Proofs.YtabjihchcmjdmaaDoor
