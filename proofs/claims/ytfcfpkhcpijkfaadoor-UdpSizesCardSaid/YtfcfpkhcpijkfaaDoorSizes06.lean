/-
  The walk of UdpSizes. By an AI agent.
-/
import Derived.Test.YtfcfpkhcpijkfaaDoorUnlike06
namespace Go.Proofs.YtfcfpkhcpijkfaaDoor
open Go.RowKit

/-- bytes whose size is told anew -/
def resz (m : List UInt8) (n : Int) : List UInt8 := (m.set 4 (by8 (n / 256))).set 5 (by8 n)
theorem resz_len (m : List UInt8) (n : Int) : (resz m n).length = m.length := by simp [resz]
theorem resz_dsz (m : List UInt8) (n : Nat) (h : 8 ≤ m.length) (hn : n ≤ 65535) : dsz (resz m (n : Int)) = n := by
  have e := nb_txt2 (n : Int) (by omega) (by omega)
  have : dsz (resz m (n : Int)) = nb [by8 ((n : Int) / 256), by8 (n : Int)] := by
    unfold dsz resz
    simp only [List.getD_eq_getElem?_getD]
    rw [List.getElem?_set_ne (by omega), List.getElem?_set_self (by omega), List.getElem?_set_self (by rw [List.length_set]; omega)]
    rfl
  omega
theorem resz_dsm (m : List UInt8) (n : Int) : dsm (resz m n) = dsm m := by
  unfold dsm resz
  simp only [List.getD_eq_getElem?_getD]
  rw [List.getElem?_set_ne (by omega), List.getElem?_set_ne (by omega), List.getElem?_set_ne (by omega), List.getElem?_set_ne (by omega)]
theorem dsm_plain (d : Dg) (s t : Int) (hp : d.pl = true) : dsm (db d s t) = 0 := by
  have e : db d s t = d.hd 0 := if_pos hp
  have h := dsm_hd d 0 [] (by omega) (by omega)
  rw [List.append_nil] at h
  rw [e]
  omega
theorem sz_hi (n : Nat) (h : n ≤ 65515) : wrap64 ((n : Int) / 256) % 256 = ((by8 ((n : Int) / 256)).toNat : Int) := by
  have e : wrap64 ((n : Int) / 256) = (n : Int) / 256 := by unfold wrap64; omega
  rw [e, by8_toNat]
theorem sz_sub (n : Nat) (h : n ≤ 65515) : wrap64 ((n : Int) - 8) = (n : Int) - 8 := by unfold wrap64; omega
theorem pd_len (l : List UInt8) (h : dsz l ≤ l.length) : (pd l).b.length = dsz l - 8 := by
  show ((l.take (dsz l)).drop 8).length = _
  rw [List.length_drop, List.length_take]
  omega
set_option maxRecDepth 100000 in
set_option maxHeartbeats 16000000 in
theorem sizes06_any (xs xd : Int) (pl : Bool) (o : Int) (w : World) (hxs : 0 ≤ xs ∧ xs ≤ 65535) (hxd : 0 ≤ xd ∧ xd ≤ 65535) (ho : 0 ≤ o ∧ o ≤ 65535) (hg : ET w) :
    Calls Tryd.prog 7 #[.int .u16 xs, .int .u16 xd, .bool pl, .int .u16 o] w fun e w' => e = .returned (.bool true) ∧ Ex (fun _ => False) w w' := by
  obtain ⟨i0, hi, hz0, hz1, hz2⟩ := info_parts Tryd.info5
  have hok : ∀ b, (⟨xs, xd, pl, b⟩ : Dg).ok := fun b => ⟨hxs, hxd⟩
  have HOK := Lib.hid hok
  have HG := Lib.hid hg
  obtain ⟨n, hn⟩ : ∃ n : Nat, n = (o % 65516).toNat := ⟨_, rfl⟩
  have hnl : n ≤ 65515 := by omega
  have hni : o % 65516 = (n : Int) := by omega
  have hnt : o.tmod 65516 = (n : Int) := by rw [Int.tmod_eq_emod_of_nonneg (by omega)]; exact hni
  have hwo : wrap64 o = o := by unfold wrap64; omega
  have HNL := Lib.hid hnl
  have HNT := Lib.hid hnt
  have HWO := Lib.hid hwo
  clear hok hg hn hni hnt hnl hwo hxs hxd ho
  go_enter Tryd.func7, Tryd.ntmps7
  go_wp2_with fail
  refine (shown6_any w HG.out).mono ?_
  rintro e w1 ⟨rfl, hx⟩
  have HX_w1 := Lib.hid hx
  clear hx
  go_upto_region 3 with (at_make; refine wpList_make_full _ rfl (.const (.int .i64 65508)) (.const (.int .i64 65508)) 22 rfl w1.heap.size 5 i0 (.int .u8 0) 1 Tryd.underlying22 hi hz0 hz1 .i64 .i64 (65508 : Int) (65508 : Int) 65508 rfl rfl (by omega) (by omega) (by rw [hz2]; omega) (by simp only [maxLen]; omega) (Nat.le_refl _) ?_; intro w2 hown2 hg2; have hx2 : Ex (fun _ => False) w1 w2 := (Ex.refl _ w1).grown hg2 (fun k h => by cases h))
  clear hi hz0 hz1 hz2
  obtain ⟨zb, hzb⟩ : ∃ zb, zb = w1.heap.size := ⟨_, rfl⟩
  have hob : OB w2 w1.heap.size (.slice (some ⟨w1.heap.size, 0, none⟩) 65508 65508) (List.replicate 65508 0) := by
    refine ⟨by rw [List.length_replicate]; omega, ?_⟩
    rw [List.length_replicate]
    have e : (madeCells (Value.int .u8 0).cells (65508 * 1)).toList = (List.replicate 65508 (0 : UInt8)).map u8v := by
      rw [show (Value.int .u8 0).cells = #[Value.int .u8 0] from rfl, Nat.mul_one, toList_madeCells_one, List.map_replicate]
      rfl
    rw [← e]
    exact hown2
  obtain ⟨Z0, hZ0⟩ : ∃ Z, Z = List.replicate 65508 (0 : UInt8) := ⟨_, rfl⟩
  have hZl : Z0.length = 65508 := by rw [hZ0, List.length_replicate]
  rw [← hZ0] at hob
  rw [← hzb] at hob ⊢
  have HZL := Lib.hid hZl
  have hb_zb : w1.heap.size ≤ zb := by omega
  have hx := hx2
  clear hown2 hg2 hZ0 hZl hx2 hzb
  have HX_w2 := Lib.hid hx
  clear hx
  have hob2 : RB w2 (fun j => j = zb) (.slice (some ⟨zb, 0, none⟩) 65508 65508) Z0 := hob.rb.mono (fun k _ h => by have := h.1; injection this with this; exact this.symm)
  have hzbl : zb < w2.heap.size := (hob.lt zb rfl).2
  have hrb1 := hob2.take 65507
  obtain ⟨Z1, hZ1⟩ : ∃ Z, Z = Z0.take 65507 := ⟨_, rfl⟩
  have hZ1l : Z1.length = 65507 := by rw [hZ1, List.length_take, HZL.out]; rfl
  rw [← hZ1, hZ1l] at hrb1
  have HZ1 := Lib.hid hZ1l
  have HR0 := Lib.hid hob2
  have HR1 := Lib.hid hrb1
  clear hob hob2 hrb1 hZ1 hZ1l
  have hx : Ex (fun _ => False) w2 (w2.alloc (.cells #[.int .u16 xs, .int .u16 xd, .bool pl, .slice (some ⟨zb, 0, none⟩) 65508 65508] 25)) := (Ex.refl _ w2).alloc _
  have hb : (w2.alloc (.cells #[.int .u16 xs, .int .u16 xd, .bool pl, .slice (some ⟨zb, 0, none⟩) 65508 65508] 25)).heap[w2.heap.size]? = some (.cells #[.int .u16 xs, .int .u16 xd, .bool pl, .slice (some ⟨zb, 0, none⟩) 65508 65508] 25) := heap_alloc_new w2 _
  obtain ⟨bp, hbp⟩ : ∃ bp, bp = w2.heap.size := ⟨_, rfl⟩
  have hb_bp : w2.heap.size ≤ bp := by omega
  rw [← hbp] at hb
  try simp only [← hbp]
  generalize w2.alloc (.cells #[.int .u16 xs, .int .u16 xd, .bool pl, .slice (some ⟨zb, 0, none⟩) 65508 65508] 25) = w3 at hx hb ⊢
  clear hbp
  have HX_w3 := Lib.hid hx
  clear hx
  have B_bp := Lib.hid hb
  clear hb
  have ne_bp_zb : bp ≠ zb := by omega
  have cbp0 := row_cell (k := 0) (v := .int .u16 xs) B_bp.out rfl
  have cbp1 := row_cell (k := 1) (v := .int .u16 xd) B_bp.out rfl
  have cbp2 := row_cell (k := 2) (v := .bool pl) B_bp.out rfl
  have cbp3 := row_cell (k := 3) (v := .slice (some ⟨zb, 0, none⟩) 65508 65508) B_bp.out rfl
  replace HR0 := Lib.hid (RB.keep HR0.out HX_w3.out (fun _ _ _ => id))
  replace HR1 := Lib.hid (RB.keep HR1.out HX_w3.out (fun _ _ _ => id))
  have hbig := dBytes_big (⟨xs, xd, pl, Z0⟩ : Dg) 1 2 (some ⟨zb, 0, none⟩) 65508 w3 (by show 65507 < Z0.length; rw [HZL.out]; omega) (by show Z0.length ≤ 1000000; rw [HZL.out]; omega)
  have e : dgv (⟨xs, xd, pl, Z0⟩ : Dg) (.slice (some ⟨zb, 0, none⟩) (⟨xs, xd, pl, Z0⟩ : Dg).b.length 65508) = .agg #[.int .u16 xs, .int .u16 xd, .bool pl, .slice (some ⟨zb, 0, none⟩) 65508 65508] := by
    show Value.agg #[.int .u16 xs, .int .u16 xd, .bool pl, .slice (some ⟨zb, 0, none⟩) Z0.length 65508] = _
    rw [HZL.out]
  rw [e] at hbig
  clear e
  have HBIG := Lib.hid hbig
  clear hbig
  go_wp2_with fail
  refine HBIG.out.mono ?_
  rintro e w4 ⟨v4, rfl, he, hx⟩
  obtain ⟨t4, y4, rfl⟩ := he.shape
  clear HBIG cbp0 cbp1 cbp2 cbp3
  have HX_w4 := Lib.hid hx
  clear hx
  have HE4 := Lib.hid he
  clear he
  have hlbp := row_lt B_bp.out
  have cbp3 := row_cell (k := 3) (v := .slice (some ⟨zb, 0, none⟩) 65508 65508) ((HX_w4.out.block bp (row_lt B_bp.out) id).trans B_bp.out) rfl
  have fbp3 := row_frozen ((HX_w4.out.block bp (row_lt B_bp.out) id).trans B_bp.out) 3
  go_upto_region 5 with fail
  replace B_bp := Lib.hid ((HX_w4.out.block bp (row_lt B_bp.out) id).trans B_bp.out)
  have hb : (w4.setCell ⟨bp, 3, none⟩ (.slice (some ⟨zb, 0, none⟩) 65507 65508)).heap[bp]? = some (.cells #[.int .u16 xs, .int .u16 xd, .bool pl, .slice (some ⟨zb, 0, none⟩) 65507 65508] 25) := (row_set B_bp.out 3 (.slice (some ⟨zb, 0, none⟩) 65507 65508))
  have hx : Ex (fun j => j = bp) w4 (w4.setCell ⟨bp, 3, none⟩ (.slice (some ⟨zb, 0, none⟩) 65507 65508)) := ((Ex.refl (fun j => j = bp) w4).setCell (p := ⟨bp, 3, none⟩) (.inl rfl) (.slice (some ⟨zb, 0, none⟩) 65507 65508))
  clear cbp3 fbp3
  generalize (w4.setCell ⟨bp, 3, none⟩ (.slice (some ⟨zb, 0, none⟩) 65507 65508)) = w5 at hx hb ⊢
  clear B_bp
  have HX_w5 := Lib.hid hx
  clear hx
  have B_bp := Lib.hid hb
  clear hb
  have cbp0 := row_cell (k := 0) (v := .int .u16 xs) B_bp.out rfl
  have cbp1 := row_cell (k := 1) (v := .int .u16 xd) B_bp.out rfl
  have cbp2 := row_cell (k := 2) (v := .bool pl) B_bp.out rfl
  have cbp3 := row_cell (k := 3) (v := .slice (some ⟨zb, 0, none⟩) 65507 65508) B_bp.out rfl
  replace HE4 := Lib.hid (EC.keepB HX_w5.out (by omega) HE4.out)
  replace HR1 := Lib.hid (RB.keep (RB.keep HR1.out HX_w4.out (fun _ _ _ => id)) HX_w5.out (fun k _ hk e => ne_bp_zb.symm (hk.symm.trans e)))
  have hpa := db_back (HOK.out Z1) 1 2 (by show Z1.length ≤ _; rw [HZ1.out]; omega) []
  rw [List.append_nil] at hpa
  have hml := db_len (⟨xs, xd, pl, Z1⟩ : Dg) 1 2
  have hml : (db (⟨xs, xd, pl, Z1⟩ : Dg) 1 2).length = 65515 := by rw [hml]; show 8 + Z1.length = _; rw [HZ1.out]
  have hdm := fun h => dsm_plain (⟨xs, xd, pl, Z1⟩ : Dg) 1 2 h
  have hb := dBytes_ok _ (⟨xs, xd, pl, Z1⟩ : Dg) 1 2 (some ⟨zb, 0, none⟩) 65508 w5 (HOK.out Z1) (by omega) (by omega) (show RB w5 (fun j => j = zb) (.slice (some ⟨zb, 0, none⟩) Z1.length 65508) Z1 by rw [HZ1.out]; exact HR1.out) (by show Z1.length ≤ _; rw [HZ1.out]; omega)
  obtain ⟨M, hM⟩ : ∃ M, M = db (⟨xs, xd, pl, Z1⟩ : Dg) 1 2 := ⟨_, rfl⟩
  rw [← hM] at hpa hml hdm hb
  have hb : Calls Tryd.prog 20 #[.agg #[.int .u16 xs, .int .u16 xd, .bool pl, .slice (some ⟨zb, 0, none⟩) 65507 65508], .int .u32 1, .int .u32 2] w5 (fun e w' => ∃ A' c', e = .returned (.tuple #[.slice (some A') 65515 c', .nilIface]) ∧ OB w' w5.heap.size (.slice (some A') 65515 c') M ∧ Ex (fun _ => False) w5 w') := by
    have e : dgv (⟨xs, xd, pl, Z1⟩ : Dg) (.slice (some ⟨zb, 0, none⟩) (⟨xs, xd, pl, Z1⟩ : Dg).b.length 65508) = .agg #[.int .u16 xs, .int .u16 xd, .bool pl, .slice (some ⟨zb, 0, none⟩) 65507 65508] := by
      show Value.agg #[.int .u16 xs, .int .u16 xd, .bool pl, .slice (some ⟨zb, 0, none⟩) Z1.length 65508] = _
      rw [HZ1.out]
    have e2 : 8 + (⟨xs, xd, pl, Z1⟩ : Dg).b.length = 65515 := by show 8 + Z1.length = _; rw [HZ1.out]
    rw [e, e2] at hb
    exact hb
  have HBY := Lib.hid hb
  have HPA := Lib.hid hpa
  have HML := Lib.hid hml
  have HDM := Lib.hid hdm
  clear hb hpa hml hdm hM
  go_wp2_with fail
  refine HBY.out.mono ?_
  rintro e w6 ⟨A6, c6, rfl, ho, hx⟩
  obtain ⟨g6, rfl, hb_g6, hg6⟩ := ho.plain
  have hc6 : 65515 ≤ c6 := by obtain ⟨_, _, _, e, h, _⟩ := ho.rb; injection e with _ _ e3; rw [e3]; rw [HML.out] at h; exact h
  clear HBY cbp0 cbp1 cbp2 cbp3
  have HX_w6 := Lib.hid hx
  clear hx
  have HO6 := Lib.hid ho
  clear ho
  have hp1 : Calls Tryd.prog 16 #[.slice (some ⟨g6, 0, none⟩) 65515 c6, .int .u32 1, .int .u32 2] w6 (fun e w' => ∃ A', e = .returned (.tuple #[.agg #[.int .u16 xs, .int .u16 xd, .bool pl, .slice A' 65507 65507], .nilIface]) ∧ Ex (fun _ => False) w6 w') := by
    refine (uparse_yes _ (some ⟨g6, 0, none⟩) 65515 c6 M 1 2 w6 HO6.out.rb (fun h => by cases h) (by rw [HML.out]; omega) (by omega) (by omega) HPA.out.1).mono ?_
    rintro e w' ⟨A', rfl, _, hx⟩
    rw [HPA.out.2.2]
    refine ⟨A', ?_, hx⟩
    show Ending.returned (.tuple #[.agg #[.int .u16 xs, .int .u16 xd, .bool pl, .slice A' Z1.length Z1.length], .nilIface]) = _
    rw [HZ1.out]
  have HP1 := Lib.hid hp1
  clear hp1
  go_wp2_with fail
  refine HP1.out.mono ?_
  rintro e w7 ⟨A7, rfl, hx⟩
  clear HP1
  go_upto_region 7 with fail
  have HX_w7 := Lib.hid hx
  clear hx
  have hx : Ex (fun _ => False) w7 (w7.alloc (.cells #[.int .u16 xs, .int .u16 xd, .bool pl, .slice A7 65507 65507] 25)) := (Ex.refl _ w7).alloc _
  have hb : (w7.alloc (.cells #[.int .u16 xs, .int .u16 xd, .bool pl, .slice A7 65507 65507] 25)).heap[w7.heap.size]? = some (.cells #[.int .u16 xs, .int .u16 xd, .bool pl, .slice A7 65507 65507] 25) := heap_alloc_new w7 _
  obtain ⟨xb, hxb⟩ : ∃ xb, xb = w7.heap.size := ⟨_, rfl⟩
  have hb_xb : w7.heap.size ≤ xb := by omega
  rw [← hxb] at hb
  try simp only [← hxb]
  generalize w7.alloc (.cells #[.int .u16 xs, .int .u16 xd, .bool pl, .slice A7 65507 65507] 25) = w8 at hx hb ⊢
  clear hxb
  have HX_w8 := Lib.hid hx
  clear hx
  have B_xb := Lib.hid hb
  clear hb
  have cxb3 := row_cell (k := 3) (v := .slice A7 65507 65507) B_xb.out rfl
  go_wp2_with fail
  refine (code_any _ [lay6] 7 _ w8 (EC.keep ((HX_w6.out.trans HX_w7.out).trans HX_w8.out) (fun _ _ => id) HE4.out) (HG.out.keep (((((((HX_w1.out.trans HX_w2.out).trans HX_w3.out).trans HX_w4.out).andThen HX_w5.out (fun i hi e => by have := (HX_w1.out.trans HX_w2.out).size; have := hb_bp; omega)).trans HX_w6.out).trans HX_w7.out).trans HX_w8.out) id)).mono ?_
  rintro e w9 ⟨rfl, hx⟩
  clear cxb3
  have HX_w9 := Lib.hid hx
  clear hx
  have cxb3 := row_cell (k := 3) (v := .slice A7 65507 65507) ((HX_w9.out.block xb (row_lt B_xb.out) id).trans B_xb.out) rfl
  replace HO6 := Lib.hid (OB.keep HO6.out ((HX_w7.out.trans HX_w8.out).trans HX_w9.out) (fun _ _ _ _ => id))
  have hnt := HNT.out
  have hwo := HWO.out
  have h4 : (4 : Int) < 65515 := by omega
  have h5 : (5 : Int) < 65515 := by omega
  have hl4 : 4 < M.length := by rw [HML.out]; omega
  have c4 := HO6.out.cell 4 hl4
  have f4 := HO6.out.frozen 4
  have hq1 : (n : Int).tdiv 256 = (n : Int) / 256 := Int.tdiv_eq_ediv_of_nonneg (by omega)
  have hq2 : (n : Int).tmod 256 = (n : Int) % 256 := Int.tmod_eq_emod_of_nonneg (by omega)
  have hv4 := sz_hi n HNL.out
  have ho4 := HO6.out.set 4 (by8 ((n : Int) / 256)) (.int .u8 ((by8 ((n : Int) / 256)).toNat : Int)) rfl
  have HO4 := Lib.hid ho4
  clear ho4
  go_upto_region 11 with fail
  clear h4 hl4 c4 f4 hq1 hv4
  have hx : Ex (fun j => j = g6) w9 (w9.setCell ⟨g6, 4, none⟩ (.int .u8 ((by8 ((n : Int) / 256)).toNat : Int))) := (Ex.refl (fun j => j = g6) w9).setCell (p := ⟨g6, 4, none⟩) (.inl rfl) _
  generalize w9.setCell ⟨g6, 4, none⟩ (.int .u8 ((by8 ((n : Int) / 256)).toNat : Int)) = wa at hx HO4 ⊢
  have HX_wa := Lib.hid hx
  clear hx
  have hl5 : 5 < (M.set 4 (by8 ((n : Int) / 256))).length := by rw [List.length_set, HML.out]; omega
  have c5 := HO4.out.cell 5 hl5
  have f5 := HO4.out.frozen 5
  have hv5 : (n : Int) % 256 = ((by8 (n : Int)).toNat : Int) := (by8_toNat _).symm
  have ho5 := HO4.out.set 5 (by8 (n : Int)) (.int .u8 ((by8 (n : Int)).toNat : Int)) rfl
  have HO5 := Lib.hid ho5
  clear ho5
  go_upto_region 12 with fail
  clear h5 hl5 c5 f5 hq2 hv5 hnt hwo
  have hx : Ex (fun j => j = g6) wa (wa.setCell ⟨g6, 5, none⟩ (.int .u8 ((by8 (n : Int)).toNat : Int))) := (Ex.refl (fun j => j = g6) wa).setCell (p := ⟨g6, 5, none⟩) (.inl rfl) _
  generalize wa.setCell ⟨g6, 5, none⟩ (.int .u8 ((by8 (n : Int)).toNat : Int)) = wb at hx HO5 ⊢
  have hrl := resz_len M (n : Int)
  have hrz := resz_dsz M n (by rw [HML.out]; omega) (by have := HNL.out; omega)
  have hrm := resz_dsm M (n : Int)
  obtain ⟨M', hM'⟩ : ∃ M', M' = resz M (n : Int) := ⟨_, rfl⟩
  have ho5 : OB wb w5.heap.size (.slice (some ⟨g6, 0, none⟩) 65515 c6) M' := by rw [hM']; exact HO5.out
  rw [← hM'] at hrl hrz hrm
  rw [HML.out] at hrl
  have HRL := Lib.hid hrl
  have HRZ := Lib.hid hrz
  have HRM2 := Lib.hid hrm
  have HRB := Lib.hid ho5.rb
  have hws := sz_sub n HNL.out
  clear hM' ho5 hrl hrz hrm
  have HX_wb := Lib.hid hx
  clear hx
  by_cases h8 : n < 8
  ·
    have her : uerr M' 1 2 = some ([lay6], 3) := by
      unfold uerr
      rw [HRZ.out, if_neg (by rw [HRL.out]; omega), if_pos h8]
    have HER := Lib.hid her
    have hd8 : decide ((n : Int) < 8) = true := by rw [decide_eq_true_eq]; omega
    clear her h8
    go_wp2_with fail
    refine (uparse_no _ (some ⟨g6, 0, none⟩) 65515 c6 M' 1 2 wb HRB.out (fun h => by cases h) (by rw [HRL.out]; omega) (by omega) (by omega) [lay6] 3 HER.out).mono ?_
    rintro e wc ⟨vc, rfl, he, hx⟩
    obtain ⟨tc, yc, rfl⟩ := he.shape
    have hv : dgv zdg (.slice none 0 0) = .agg #[.int .u16 0, .int .u16 0, .bool false, .slice none 0 0] := rfl
    rw [hv]
    clear hv
    have HX_wc := Lib.hid hx
    clear hx
    have HEC := Lib.hid he
    clear he
    go_upto_region 13 with fail
    have hx : Ex (fun _ => False) wc (wc.alloc (.cells #[.int .u16 0, .int .u16 0, .bool false, .slice none 0 0] 25)) := (Ex.refl _ wc).alloc _
    have hb : (wc.alloc (.cells #[.int .u16 0, .int .u16 0, .bool false, .slice none 0 0] 25)).heap[wc.heap.size]? = some (.cells #[.int .u16 0, .int .u16 0, .bool false, .slice none 0 0] 25) := heap_alloc_new wc _
    obtain ⟨yb, hyb⟩ : ∃ yb, yb = wc.heap.size := ⟨_, rfl⟩
    have hb_yb : wc.heap.size ≤ yb := by omega
    rw [← hyb] at hb
    try simp only [← hyb]
    generalize wc.alloc (.cells #[.int .u16 0, .int .u16 0, .bool false, .slice none 0 0] 25) = wd at hx hb ⊢
    clear hyb
    have HX_wd := Lib.hid hx
    clear hx
    have B_yb := Lib.hid hb
    clear hb
    go_wp2_with fail
    refine (code_any _ [lay6] 3 _ wd (EC.keep HX_wd.out (fun _ _ => id) HEC.out) (HG.out.keep ((((((((((((HX_w1.out.trans HX_w2.out).trans HX_w3.out).trans HX_w4.out).andThen HX_w5.out (fun i hi e => by have := (HX_w1.out.trans HX_w2.out).size; have := hb_bp; omega)).trans HX_w6.out).trans HX_w7.out).trans HX_w8.out).trans HX_w9.out).andThen HX_wa.out (fun i hi e => by have := ((((HX_w1.out.trans HX_w2.out).trans HX_w3.out).trans HX_w4.out).andThen HX_w5.out (fun i hi e => by have := (HX_w1.out.trans HX_w2.out).size; have := hb_bp; omega)).size; have := hb_g6; omega)).andThen HX_wb.out (fun i hi e => by have := ((((HX_w1.out.trans HX_w2.out).trans HX_w3.out).trans HX_w4.out).andThen HX_w5.out (fun i hi e => by have := (HX_w1.out.trans HX_w2.out).size; have := hb_bp; omega)).size; have := hb_g6; omega)).trans HX_wc.out).trans HX_wd.out) id)).mono ?_
    rintro e we ⟨rfl, hx⟩
    have HX_we := Lib.hid hx
    clear hx
    go_wp2_with fail
    go_ret
    exact ⟨rfl, (((((((((((((HX_w1.out.trans HX_w2.out).trans HX_w3.out).trans HX_w4.out).andThen HX_w5.out (fun i hi e => by have := (HX_w1.out.trans HX_w2.out).size; have := hb_bp; omega)).trans HX_w6.out).trans HX_w7.out).trans HX_w8.out).trans HX_w9.out).andThen HX_wa.out (fun i hi e => by have := ((((HX_w1.out.trans HX_w2.out).trans HX_w3.out).trans HX_w4.out).andThen HX_w5.out (fun i hi e => by have := (HX_w1.out.trans HX_w2.out).size; have := hb_bp; omega)).size; have := hb_g6; omega)).andThen HX_wb.out (fun i hi e => by have := ((((HX_w1.out.trans HX_w2.out).trans HX_w3.out).trans HX_w4.out).andThen HX_w5.out (fun i hi e => by have := (HX_w1.out.trans HX_w2.out).size; have := hb_bp; omega)).size; have := hb_g6; omega)).trans HX_wc.out).trans HX_wd.out).trans HX_we.out)⟩
  ·
    have hd8 : decide ((n : Int) < 8) = false := by rw [decide_eq_false_iff_not]; omega
    by_cases hq : dsm M' ≠ 0 ∧ su (psd 1 2 17 (n : Int) ++ M'.take n) ≠ 0
    ·
      have her : uerr M' 1 2 = some ([lay6], 4) := by
        unfold uerr
        rw [HRZ.out, if_neg (by rw [HRL.out]; omega), if_neg h8, if_neg (by rw [HRL.out]; have := HNL.out; omega), if_pos hq]
      have HER := Lib.hid her
      obtain rfl : pl = false := by
        cases pl with
        | false => rfl
        | true => exact absurd (HRM2.out.trans (HDM.out rfl)) hq.1
      clear her h8 hq
      go_wp2_with fail
      refine (uparse_no _ (some ⟨g6, 0, none⟩) 65515 c6 M' 1 2 wb HRB.out (fun h => by cases h) (by rw [HRL.out]; omega) (by omega) (by omega) [lay6] 4 HER.out).mono ?_
      rintro e wc ⟨vc, rfl, he, hx⟩
      obtain ⟨tc, yc, rfl⟩ := he.shape
      have hv : dgv zdg (.slice none 0 0) = .agg #[.int .u16 0, .int .u16 0, .bool false, .slice none 0 0] := rfl
      rw [hv]
      clear hv
      have HX_wc := Lib.hid hx
      clear hx
      have HEC := Lib.hid he
      clear he
      go_upto_region 13 with fail
      have hx : Ex (fun _ => False) wc (wc.alloc (.cells #[.int .u16 0, .int .u16 0, .bool false, .slice none 0 0] 25)) := (Ex.refl _ wc).alloc _
      have hb : (wc.alloc (.cells #[.int .u16 0, .int .u16 0, .bool false, .slice none 0 0] 25)).heap[wc.heap.size]? = some (.cells #[.int .u16 0, .int .u16 0, .bool false, .slice none 0 0] 25) := heap_alloc_new wc _
      obtain ⟨yb, hyb⟩ : ∃ yb, yb = wc.heap.size := ⟨_, rfl⟩
      have hb_yb : wc.heap.size ≤ yb := by omega
      rw [← hyb] at hb
      try simp only [← hyb]
      generalize wc.alloc (.cells #[.int .u16 0, .int .u16 0, .bool false, .slice none 0 0] 25) = wd at hx hb ⊢
      clear hyb
      have HX_wd := Lib.hid hx
      clear hx
      have B_yb := Lib.hid hb
      clear hb
      have cyb3 := row_cell (k := 3) (v := .slice none 0 0) B_yb.out rfl
      go_wp2_with fail
      refine (code_any _ [lay6] 4 _ wd (EC.keep HX_wd.out (fun _ _ => id) HEC.out) (HG.out.keep ((((((((((((HX_w1.out.trans HX_w2.out).trans HX_w3.out).trans HX_w4.out).andThen HX_w5.out (fun i hi e => by have := (HX_w1.out.trans HX_w2.out).size; have := hb_bp; omega)).trans HX_w6.out).trans HX_w7.out).trans HX_w8.out).trans HX_w9.out).andThen HX_wa.out (fun i hi e => by have := ((((HX_w1.out.trans HX_w2.out).trans HX_w3.out).trans HX_w4.out).andThen HX_w5.out (fun i hi e => by have := (HX_w1.out.trans HX_w2.out).size; have := hb_bp; omega)).size; have := hb_g6; omega)).andThen HX_wb.out (fun i hi e => by have := ((((HX_w1.out.trans HX_w2.out).trans HX_w3.out).trans HX_w4.out).andThen HX_w5.out (fun i hi e => by have := (HX_w1.out.trans HX_w2.out).size; have := hb_bp; omega)).size; have := hb_g6; omega)).trans HX_wc.out).trans HX_wd.out) id)).mono ?_
      rintro e we ⟨rfl, hx⟩
      clear cyb3
      have HX_we := Lib.hid hx
      clear hx
      have cyb3 := row_cell (k := 3) (v := .slice none 0 0) ((HX_we.out.block yb (row_lt B_yb.out) id).trans B_yb.out) rfl
      go_wp2_with fail
      go_ret
      exact ⟨rfl, (((((((((((((HX_w1.out.trans HX_w2.out).trans HX_w3.out).trans HX_w4.out).andThen HX_w5.out (fun i hi e => by have := (HX_w1.out.trans HX_w2.out).size; have := hb_bp; omega)).trans HX_w6.out).trans HX_w7.out).trans HX_w8.out).trans HX_w9.out).andThen HX_wa.out (fun i hi e => by have := ((((HX_w1.out.trans HX_w2.out).trans HX_w3.out).trans HX_w4.out).andThen HX_w5.out (fun i hi e => by have := (HX_w1.out.trans HX_w2.out).size; have := hb_bp; omega)).size; have := hb_g6; omega)).andThen HX_wb.out (fun i hi e => by have := ((((HX_w1.out.trans HX_w2.out).trans HX_w3.out).trans HX_w4.out).andThen HX_w5.out (fun i hi e => by have := (HX_w1.out.trans HX_w2.out).size; have := hb_bp; omega)).size; have := hb_g6; omega)).trans HX_wc.out).trans HX_wd.out).trans HX_we.out)⟩
    ·
      have her : uerr M' 1 2 = none := by
        unfold uerr
        rw [HRZ.out, if_neg (by rw [HRL.out]; omega), if_neg h8, if_neg (by rw [HRL.out]; have := HNL.out; omega), if_neg hq]
      have hpl := pd_len M' (by rw [HRZ.out, HRL.out]; exact HNL.out)
      rw [HRZ.out] at hpl
      have hp2 : Calls Tryd.prog 16 #[.slice (some ⟨g6, 0, none⟩) 65515 c6, .int .u32 1, .int .u32 2] wb (fun e w' => ∃ A', e = .returned (.tuple #[.agg #[.int .u16 (pd M').src, .int .u16 (pd M').dst, .bool (pd M').pl, .slice A' (n - 8) (n - 8)], .nilIface]) ∧ Ex (fun _ => False) wb w') := by
        refine (uparse_yes _ (some ⟨g6, 0, none⟩) 65515 c6 M' 1 2 wb HRB.out (fun h => by cases h) (by rw [HRL.out]; omega) (by omega) (by omega) her).mono ?_
        rintro e w' ⟨A', rfl, _, hx⟩
        rw [hpl]
        exact ⟨A', rfl, hx⟩
      have HP2 := Lib.hid hp2
      have hlq : (((n - 8 : Nat) : Int) == (n : Int) - 8) = true := by rw [beq_iff_eq]; omega
      clear her hpl hp2 h8 hq
      go_wp2_with fail
      refine HP2.out.mono ?_
      rintro e wc ⟨Ac, rfl, hx⟩
      clear HP2
      go_upto_region 13 with fail
      have HX_wc := Lib.hid hx
      clear hx
      have hx : Ex (fun _ => False) wc (wc.alloc (.cells #[.int .u16 (pd M').src, .int .u16 (pd M').dst, .bool (pd M').pl, .slice Ac (n - 8) (n - 8)] 25)) := (Ex.refl _ wc).alloc _
      have hb : (wc.alloc (.cells #[.int .u16 (pd M').src, .int .u16 (pd M').dst, .bool (pd M').pl, .slice Ac (n - 8) (n - 8)] 25)).heap[wc.heap.size]? = some (.cells #[.int .u16 (pd M').src, .int .u16 (pd M').dst, .bool (pd M').pl, .slice Ac (n - 8) (n - 8)] 25) := heap_alloc_new wc _
      obtain ⟨yb, hyb⟩ : ∃ yb, yb = wc.heap.size := ⟨_, rfl⟩
      have hb_yb : wc.heap.size ≤ yb := by omega
      rw [← hyb] at hb
      try simp only [← hyb]
      generalize wc.alloc (.cells #[.int .u16 (pd M').src, .int .u16 (pd M').dst, .bool (pd M').pl, .slice Ac (n - 8) (n - 8)] 25) = wd at hx hb ⊢
      clear hyb
      have HX_wd := Lib.hid hx
      clear hx
      have B_yb := Lib.hid hb
      clear hb
      have cyb3 := row_cell (k := 3) (v := .slice Ac (n - 8) (n - 8)) B_yb.out rfl
      go_wp2_with fail
      go_ret
      exact ⟨rfl, ((((((((((((HX_w1.out.trans HX_w2.out).trans HX_w3.out).trans HX_w4.out).andThen HX_w5.out (fun i hi e => by have := (HX_w1.out.trans HX_w2.out).size; have := hb_bp; omega)).trans HX_w6.out).trans HX_w7.out).trans HX_w8.out).trans HX_w9.out).andThen HX_wa.out (fun i hi e => by have := ((((HX_w1.out.trans HX_w2.out).trans HX_w3.out).trans HX_w4.out).andThen HX_w5.out (fun i hi e => by have := (HX_w1.out.trans HX_w2.out).size; have := hb_bp; omega)).size; have := hb_g6; omega)).andThen HX_wb.out (fun i hi e => by have := ((((HX_w1.out.trans HX_w2.out).trans HX_w3.out).trans HX_w4.out).andThen HX_w5.out (fun i hi e => by have := (HX_w1.out.trans HX_w2.out).size; have := hb_bp; omega)).size; have := hb_g6; omega)).trans HX_wc.out).trans HX_wd.out)⟩
end Go.Proofs.YtfcfpkhcpijkfaaDoor
