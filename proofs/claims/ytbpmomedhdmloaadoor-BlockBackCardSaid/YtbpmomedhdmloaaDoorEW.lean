/- BlockBack: the walk. -/
import Derived.Test.YtbpmomedhdmloaaDoorEQ
import Derived.Test.YtbpmomedhdmloaaDoorBO
import Derived.Test.YtbpmomedhdmloaaDoorBI
import Derived.Test.YtbpmomedhdmloaaDoorBC
namespace Go.Proofs.YtbpmomedhdmloaaDoor
set_option linter.unusedSimpArgs false
set_option linter.unusedVariables false
open Go.RowKit Go.Maps

theorem run_bfront (A : Option Addr) (n c k : Nat) (hk : k ≤ n) (hc : n ≤ c) (W : World) :
    (Instr.slice 40 (.slice A n c) none (some (.int .i64 (k : Int))) none).run Tryd.prog W = .ok (.slice A k c) W := by
  obtain ⟨i0, hi, hi0, hi1, hi2⟩ := info_parts Tryd.infoU8
  have he : Tryd.prog.elem 40 = 5 := by simp [Program.elem, Tryd.underlying40]
  rw [run_slice_h (P := Tryd.prog) (w := W) 40 A n c (by rw [he]; exact Tryd.underlying40) .i64 k (by omega) (by omega)]
  simp [he, sizeOf, typeInfo, hi, hi1, sliced]
  intro _
  cases A with
  | none => rfl
  | some a => simp [Addr.add]
theorem rz_blkb (w : World) : (Instr.build 25 #[]).run Tryd.prog w = .ok (.agg (bkC zeroD 0 zeroD (.slice none 0 0)).toArray) w := by kernel_rfl
theorem sameB_reflW (p : List Int) (h : Int) (m : List Int) (L : List TxT) : sameB p h m L p h m L = true := by unfold sameB; simp [eqL_self, sameL_refl]
set_option maxRecDepth 20000 in
set_option maxHeartbeats 16000000 in
theorem bback_law (w : World) (p : List Int) (h : Int) (m : List Int) (hp : DgOk p) (hm : DgOk m) (A : Option Addr) (N C : Nat) (xs : List (List Value × TxT)) (hx : Txs w A N xs)
    (hl : ∀ x ∈ xs, x.2.b.length ≤ 140737488355328 ∧ x.2.s.length ≤ 140737488355328)
    (A5 : Option Addr) (n5 c5 : Nat) (bs : List Int) (hbs : ByOk bs) (hsb : Sl w w.heap.size 1 A5 n5 (bs.map (.int .u8))) (hnc : n5 ≤ c5) (ct : Int) (hct : 0 ≤ ct ∧ ct < 65536) :
    Calls Tryd.prog 7 #[.agg (bkC p h m (.slice A N C)).toArray, .slice A5 n5 c5, .int .u16 ct] w fun e w' => e = .returned (.bool true) ∧ Below w.heap.size w w' := by
  have hF0 : Hid (BkFit (bkC p h m (.slice A N C))) := bk_fit hp hm
  have HFW := Lib.hid (fun w' (hx' : Txs w' A N xs) => few_any w' p h m hp hm A N C xs hx' hl)
  have HOF := Lib.hid (fun w' (hx' : Txs w' A N xs) (hN : N ≤ 1000) => of_any w' p h m hp hm A N C xs hx' hN)
  have HPE := Lib.hid (fun (A' : Option Addr) (C' : Nat) w' (hx' : Txs w' A' N xs) => bEncode_any w' p h m hp hm A' N C' xs hx')
  have HOKX : Hid (∀ t ∈ xs.map (·.2), TxOk t) := fun t ht => by obtain ⟨x, hx', rfl⟩ := List.mem_map.1 ht; exact (hx.th x hx').ok
  obtain ⟨L, hL⟩ : ∃ L, xs.map (·.2) = L := ⟨_, rfl⟩
  have HLN : Hid (L.length = N) := by show _ = _; rw [← hL, List.length_map, hx.length]
  have HL := Lib.hid hL
  rw [hL] at HFW HPE HOKX
  obtain ⟨T, hT⟩ : ∃ T, encR p h m L = T := ⟨_, rfl⟩
  obtain ⟨E, hE⟩ : ∃ E, blkE h L = E := ⟨_, rfl⟩
  have HTE : Hid (T = if E = 0 then encB p h m L else []) := by show _ = _; rw [← hT, ← hE, encR]
  have HEE := Lib.hid hE
  rw [hT, hE] at HPE
  obtain ⟨l, hl0⟩ : ∃ x, bkC p h m (.slice A N C) = x := ⟨_, rfl⟩
  obtain ⟨X, hX⟩ : ∃ X, l.toArray = X := ⟨_, rfl⟩
  obtain ⟨z, hz⟩ : ∃ z, w.heap.size = z := ⟨_, rfl⟩
  obtain ⟨w1, hw1⟩ : ∃ w1, w.alloc (.cells X 25) = w1 := ⟨_, rfl⟩
  have hb1 : Below w.heap.size w w1 := hw1 ▸ below_new w _
  have kx : Bk w1 z 25 l := hw1 ▸ Bk.at_ w _ X hz (by rw [← hX])
  have HW := Lib.hid hw1; have HBB1 := Lib.hid hb1; have HZ := Lib.hid hz; have HK1 := Lib.hid kx; have HPO := Lib.hid hp; have HMO := Lib.hid hm; have HXE := Lib.hid hX; have HLE := Lib.hid hl0
  have HX1 := Lib.hid (hx.later hb1); have HS1 := Lib.hid (hsb.later hb1); have HBO := Lib.hid hbs; have HCT := Lib.hid hct
  have HFL : Hid (BkFit l) := hl0 ▸ hF0.out
  have hn5 := hsb.le
  rw [hl0] at HFW HOF ⊢
  rw [hX] at HFW HOF ⊢
  clear hL hT hE hl0 hX hz hw1 hb1 kx hF0 hp hm hx hl hbs hsb hnc hct
  go_enter Tryd.func7, Tryd.ntmps7
  go_upto_region 1 with fail
  rw [HW.out, HZ.out]
  go_wp2_with fail
  refine (known_any w1).mono ?_
  rintro e w2 ⟨rfl, hbn⟩
  have HBB2 := Lib.hid (below_then HBB1.out hbn)
  have HK2 := Lib.hid (HK1.out.later hbn)
  have HX2 := Lib.hid (HX1.out.later hbn)
  have HS2 := Lib.hid (HS1.out.later hbn)
  clear hbn
  go_wp2_with ((with_reducible refine wpList_load_bkG2 ?_ 25 _ rfl z rfl l 25 HK2.out _ Tryd.underlying25 rfl HFL.out.rsize ?_); rfl)
  rw [HXE.out]
  refine (HFW.out w2 HX2.out).mono ?_
  rintro e w3 ⟨rfl, hbn⟩
  have HBB3 := Lib.hid (below_then HBB2.out hbn)
  have HK3 := Lib.hid (HK2.out.later hbn)
  have HX3 := Lib.hid (HX2.out.later hbn)
  have HS3 := Lib.hid (HS2.out.later hbn)
  clear hbn
  obtain ⟨fw, hfw⟩ : ∃ b, fewT L = b := ⟨_, rfl⟩
  rw [hfw]
  have HFE := Lib.hid hfw
  clear hfw HK1 HK2 HX1 HX2 HS1 HS2
  cases fw
  · go_wp2_with fail
    refine (known_any w3).mono ?_
    rintro e w4 ⟨rfl, hbn⟩
    go_wp2_with fail
    go_ret
    exact ⟨rfl, below_then HBB3.out hbn⟩
  by_cases hbig : (3000 : Int) < n5
  · go_wp2_with fail
    refine (known_any w3).mono ?_
    rintro e w4 ⟨rfl, hbn⟩
    go_wp2_with fail
    go_ret
    exact ⟨rfl, below_then HBB3.out hbn⟩
  have HN5 : Hid (n5 ≤ 1073741824) := by show _ ≤ _; omega
  have HN : Hid (N ≤ 1000) := by have := few_len HFE.out; rw [HLN.out] at this; show N ≤ 1000; omega
  have HEX : Hid (∀ x ∈ xs, x.2.b.length ≤ 1073741000 ∧ x.2.s.length ≤ 1073741000) := fun x hx => by
    have := few_each HFE.out x.2 (by rw [← HL.out]; exact List.mem_map_of_mem hx)
    omega
  have HOF := Lib.hid (fun w' hx' => HOF.out w' hx' HN.out)
  go_wp2_with (with_reducible refine wpList_load_bk rfl 25 _ rfl z rfl l 25 HK3.out _ Tryd.underlying25 rfl HFL.out.rsize ?_)
  clear hbig hn5
  rw [HXE.out]
  refine (HOF.out w3 HX3.out).mono ?_
  rintro e w4 ⟨⟨v, rfl, hown⟩, hbn⟩
  obtain ⟨A2, c2, rfl⟩ := own_form hown
  have HY4 : Hid (Txs w4 A2 N xs) := ⟨Sl.of_own hown, fun x hx => (HX3.out.th x hx).later hbn⟩
  have HBB4 := Lib.hid (below_then HBB3.out hbn)
  have HK4 := Lib.hid (HK3.out.later hbn)
  have HX4 := Lib.hid (HX3.out.later hbn)
  have HS4 := Lib.hid (HS3.out.later hbn)
  clear hbn
  clear hown HX3 HK3 HS3 HFW
  have HPP := Lib.hid (HPE.out A2 c2 w4 HY4.out)
  go_wp2_with fail
  refine HPP.out.mono ?_
  rintro e w5 ⟨v5, rfl, hown⟩
  have hbn := hown.2
  obtain ⟨AT, cT, rfl⟩ := hown.form
  have HU5 := Lib.hid hown.1
  obtain ⟨tl, htl⟩ : ∃ n, T.length = n := ⟨_, rfl⟩
  have HTL := Lib.hid htl
  rw [htl] at HU5 ⊢
  clear htl
  have HBB5 := Lib.hid (below_then HBB4.out hbn)
  have HK5 := Lib.hid (HK4.out.later hbn)
  have HX5 := Lib.hid (HX4.out.later hbn)
  have HS5 := Lib.hid (HS4.out.later hbn)
  clear hbn
  clear hown HK4 HX4 HS4 HY4 HPP HPE
  by_cases hE0 : E = 0
  · subst hE0
    have HTB : Hid (T = encB p h m L) := HTE.out.trans (if_pos rfl)
    have hoB := encB_ok HPO.out HMO.out HEE.out HOKX.out
    have hpB := encB_pos p h m L
    have hlB := encB_len (p := p) (m := m) HEE.out
    have hrd := bk_round HPO.out HMO.out HEE.out HOKX.out
    have hcu := fun (k : Nat) (hk : k < (encB p h m L).length) => bk_cut HPO.out HMO.out HEE.out HOKX.out hoB hk
    rw [← HTB.out] at hoB hpB hlB hrd hcu
    rw [HTL.out] at hpB hlB hcu
    have HOB := Lib.hid hoB; have HPB := Lib.hid hpB; have HLB := Lib.hid hlB; have HCU := Lib.hid hcu
    have hd1 : Calls Tryd.prog 29 #[.slice AT tl cT] w5 (fun e w' => ∃ v ys, e = .returned (.tuple #[.agg (bkC p h m v).toArray, .int .i64 0]) ∧ OwnY 47 w5.heap.size w' v L.length L ys ∧ DgOk p ∧ DgOk m ∧ L.length ≤ 64 ∧ Below w5.heap.size w5 w') := by
      have := bDecode_any w5 AT tl cT T hoB (Sl.of_own HU5.out) (by omega)
      rw [hrd] at this; exact this
    have HD1 := Lib.hid hd1
    clear hoB hpB hlB hrd hcu hd1 HTE
    go_wp2_with fail
    refine HD1.out.mono ?_
    rintro e w6 ⟨v6, ys6, rfl, hown, _, _, h64, hbn⟩
    have H64 := Lib.hid h64
    obtain ⟨A6, c6, rfl⟩ := own_form hown.own
    have HO6 := Lib.hid hown; have HU6 := Lib.hid (own_keep HU5.out hbn)
    have HBB6 := Lib.hid (below_then HBB5.out hbn)
    have HK6 := Lib.hid (HK5.out.later hbn)
    have HX6 := Lib.hid (HX5.out.later hbn)
    have HS6 := Lib.hid (HS5.out.later hbn)
    clear hbn
    clear hown h64 HK5 HX5 HS5 HU5 HD1
    have HNA := Lib.hid (fun w' (hx' : Txs w' A6 L.length ys6) => bnameT_any w' p h m HPO.out HMO.out A6 L.length c6 ys6 hx' (by have := H64.out; omega) (fun y hy => by have := blk_tx HEE.out (t := y.2) (by rw [← HO6.out.map]; exact List.mem_map_of_mem hy); omega))
    have HNB := Lib.hid (fun w' (A' : Option Addr) (C' : Nat) (hx' : Txs w' A' N xs) => bnameT_any w' p h m HPO.out HMO.out A' N C' xs hx' HN.out HEX.out)
    have HTO := Lib.hid (fun w' (hx' : Txs w' A6 L.length ys6) => to_any w' p h m HPO.out HMO.out A6 L.length c6 ys6 hx' (by have := H64.out; omega))
    have HSM : Hid (∀ w' (A' : Option Addr) (C' : Nat), Txs w' A' L.length ys6 → Txs w' A N xs → Calls Tryd.prog 20 #[.agg (bkC p h m (.slice A' L.length C')).toArray, .agg X] w' fun e w'' => e = .returned (.bool true) ∧ Below w'.heap.size w' w'') := fun w' A' C' hx' hy' => by
      have := rbSame_any w' p h m HPO.out HMO.out A' L.length C' ys6 hx' p h m HPO.out HMO.out A N C xs hy'
      rw [HO6.out.map, HL.out, sameB_reflW, HLE.out, HXE.out] at this
      exact this
    have hdo : DgOk (nameT p h m L.length L) := nameT_ok _ _ _ _ _
    obtain ⟨DN, hDN⟩ : ∃ D, nameT p h m L.length L = D := ⟨_, rfl⟩
    have hDN2 : nameT p h m N L = DN := by rw [← HLN.out]; exact hDN
    rw [HO6.out.map, HEE.out, hDN] at HNA
    rw [HL.out, HEE.out, hDN2] at HNB
    rw [hDN] at hdo
    have HDO := Lib.hid hdo
    obtain ⟨B6, hB6⟩ : ∃ x, bkC p h m (.slice A6 L.length c6) = x := ⟨_, rfl⟩
    have HF6 : Hid (BkFit B6) := hB6 ▸ bk_fit HPO.out HMO.out
    rw [hB6] at HNA HTO ⊢
    clear hDN hDN2 hdo hB6
    go_wp2_with (with_reducible refine stop_store 31 _ _ rfl ?_)
    refine StopD.go ?_
    obtain ⟨g7, hg7⟩ : ∃ g, w6.heap.size = g := ⟨_, rfl⟩
    have hbn : Below w6.heap.size w6 (w6.alloc (.cells #[.int .u8 0, .int .u8 0, .int .u8 0, .int .u8 0, .int .u8 0, .int .u8 0, .int .u8 0, .int .u8 0, .int .i64 0, .int .u8 0, .int .u8 0, .int .u8 0, .int .u8 0, .int .u8 0, .int .u8 0, .int .u8 0, .int .u8 0, .slice none 0 0] 31)) := below_new w6 _
    have kt : Bk (w6.alloc (.cells #[.int .u8 0, .int .u8 0, .int .u8 0, .int .u8 0, .int .u8 0, .int .u8 0, .int .u8 0, .int .u8 0, .int .i64 0, .int .u8 0, .int .u8 0, .int .u8 0, .int .u8 0, .int .u8 0, .int .u8 0, .int .u8 0, .int .u8 0, .slice none 0 0] 31)) g7 31 ([] ++ (zBk ++ [])) := by rw [← hg7]; exact Bk.new' w6 _ #[.int .u8 0, .int .u8 0, .int .u8 0, .int .u8 0, .int .u8 0, .int .u8 0, .int .u8 0, .int .u8 0, .int .i64 0, .int .u8 0, .int .u8 0, .int .u8 0, .int .u8 0, .int .u8 0, .int .u8 0, .int .u8 0, .int .u8 0, .slice none 0 0] rfl
    rw [hg7]
    refine wpList_store_part rfl 31 _ _ rfl g7 0 (.agg (B6).toArray) (B6) rfl rfl rfl 31 [] zBk [] kt rfl (by rw [HF6.out.len]; rfl) HF6.out.size HF6.out.one ?_
    intro w7 hp
    have hbn : Below w6.heap.size w6 w7 := hbn.grown hp.only hbn.size (fun q hq => by injection hq with hq; omega)
    have HA7 : Hid (Bk w7 g7 31 (B6)) := by show Bk _ _ _ _; have := hp.bk; simpa using this
    clear hp kt
    clear hg7
    have HO7 := Lib.hid (HO6.out.later hbn); have HU7 := Lib.hid (own_keep HU6.out hbn)
    have HBB7 := Lib.hid (below_then HBB6.out hbn)
    have HK7 := Lib.hid (HK6.out.later hbn)
    have HX7 := Lib.hid (HX6.out.later hbn)
    have HS7 := Lib.hid (HS6.out.later hbn)
    clear hbn
    clear HO6 HU6 HK6 HX6 HS6
    go_wp2_with (with_reducible refine wpList_load_bk rfl 31 _ rfl g7 rfl B6 31 HA7.out _ Tryd.underlying31 rfl HF6.out.size ?_)
    refine (HNA.out w7 HO7.out.txs).mono ?_
    rintro e w8 ⟨rfl, hbn⟩
    have HO8 := Lib.hid (HO7.out.later hbn); have HU8 := Lib.hid (own_keep HU7.out hbn)
    have HBB8 := Lib.hid (below_then HBB7.out hbn)
    have HK8 := Lib.hid (HK7.out.later hbn)
    have HX8 := Lib.hid (HX7.out.later hbn)
    have HS8 := Lib.hid (HS7.out.later hbn)
    have HA8 := Lib.hid (HA7.out.later hbn)
    clear hbn
    clear HO7 HU7 HK7 HX7 HS7 HA7 HNA
    go_wp2_with (with_reducible refine stop_store 28 _ _ rfl ?_)
    refine StopD.go ?_
    obtain ⟨g9, hg9⟩ : ∃ g, w8.heap.size = g := ⟨_, rfl⟩
    have hbn : Below w8.heap.size w8 (w8.alloc (.cells #[.int .u8 0, .int .u8 0, .int .u8 0, .int .u8 0, .int .u8 0, .int .u8 0, .int .u8 0, .int .u8 0] 28)) := below_new w8 _
    have kt : Bk (w8.alloc (.cells #[.int .u8 0, .int .u8 0, .int .u8 0, .int .u8 0, .int .u8 0, .int .u8 0, .int .u8 0, .int .u8 0] 28)) g9 28 ([] ++ (dl zeroD ++ [])) := by rw [← hg9]; exact Bk.new' w8 _ #[.int .u8 0, .int .u8 0, .int .u8 0, .int .u8 0, .int .u8 0, .int .u8 0, .int .u8 0, .int .u8 0] rfl
    rw [hg9]
    refine wpList_store_part rfl 28 _ _ rfl g9 0 (.agg (dl DN).toArray) (dl DN) rfl rfl rfl 28 [] (dl zeroD) [] kt rfl (by rw [dl_len, dl_len, HDO.out.len]; rfl) (hdg_size _ HDO.out) (dl_one' _) ?_
    intro w9 hp
    have hbn : Below w8.heap.size w8 w9 := hbn.grown hp.only hbn.size (fun q hq => by injection hq with hq; omega)
    have HP9 : Hid (Bk w9 g9 28 (dl DN)) := by show Bk _ _ _ _; have := hp.bk; simpa using this
    clear hp kt
    clear hg9
    have HO9 := Lib.hid (HO8.out.later hbn); have HU9 := Lib.hid (own_keep HU8.out hbn)
    have HBB9 := Lib.hid (below_then HBB8.out hbn)
    have HK9 := Lib.hid (HK8.out.later hbn)
    have HX9 := Lib.hid (HX8.out.later hbn)
    have HS9 := Lib.hid (HS8.out.later hbn)
    have HA9 := Lib.hid (HA8.out.later hbn)
    clear hbn
    clear HO8 HU8 HK8 HX8 HS8 HA8
    go_wp2_with (with_reducible refine wpList_load_bk rfl 25 _ rfl z rfl l 25 HK9.out _ Tryd.underlying25 rfl HFL.out.rsize ?_)
    rw [HXE.out]
    refine (HOF.out w9 HX9.out).mono ?_
    rintro e w10 ⟨⟨v, rfl, hown⟩, hbn⟩
    obtain ⟨A10, c10, rfl⟩ := own_form hown
    have HY10 : Hid (Txs w10 A10 N xs) := ⟨Sl.of_own hown, fun x hx => (HX9.out.th x hx).later hbn⟩
    have HO10 := Lib.hid (HO9.out.later hbn); have HU10 := Lib.hid (own_keep HU9.out hbn)
    have HBB10 := Lib.hid (below_then HBB9.out hbn)
    have HK10 := Lib.hid (HK9.out.later hbn)
    have HX10 := Lib.hid (HX9.out.later hbn)
    have HS10 := Lib.hid (HS9.out.later hbn)
    have HA10 := Lib.hid (HA9.out.later hbn)
    have HP10 := Lib.hid (HP9.out.later hbn)
    clear hbn
    clear hown HO9 HU9 HK9 HX9 HS9 HA9 HP9 HOF
    go_wp2_with fail
    refine (HNB.out w10 A10 c10 HY10.out).mono ?_
    rintro e w11 ⟨rfl, hbn⟩
    have HO11 := Lib.hid (HO10.out.later hbn); have HU11 := Lib.hid (own_keep HU10.out hbn)
    have HBB11 := Lib.hid (below_then HBB10.out hbn)
    have HK11 := Lib.hid (HK10.out.later hbn)
    have HX11 := Lib.hid (HX10.out.later hbn)
    have HS11 := Lib.hid (HS10.out.later hbn)
    have HA11 := Lib.hid (HA10.out.later hbn)
    have HP11 := Lib.hid (HP10.out.later hbn)
    clear hbn
    clear HO10 HU10 HK10 HX10 HS10 HA10 HP10 HY10 HNB
    go_wp2_with (with_reducible refine stop_store 28 _ _ rfl ?_)
    refine StopD.go ?_
    obtain ⟨g12, hg12⟩ : ∃ g, w11.heap.size = g := ⟨_, rfl⟩
    have hbn : Below w11.heap.size w11 (w11.alloc (.cells #[.int .u8 0, .int .u8 0, .int .u8 0, .int .u8 0, .int .u8 0, .int .u8 0, .int .u8 0, .int .u8 0] 28)) := below_new w11 _
    have kt : Bk (w11.alloc (.cells #[.int .u8 0, .int .u8 0, .int .u8 0, .int .u8 0, .int .u8 0, .int .u8 0, .int .u8 0, .int .u8 0] 28)) g12 28 ([] ++ (dl zeroD ++ [])) := by rw [← hg12]; exact Bk.new' w11 _ #[.int .u8 0, .int .u8 0, .int .u8 0, .int .u8 0, .int .u8 0, .int .u8 0, .int .u8 0, .int .u8 0] rfl
    rw [hg12]
    refine wpList_store_part rfl 28 _ _ rfl g12 0 (.agg (dl DN).toArray) (dl DN) rfl rfl rfl 28 [] (dl zeroD) [] kt rfl (by rw [dl_len, dl_len, HDO.out.len]; rfl) (hdg_size _ HDO.out) (dl_one' _) ?_
    intro w12 hp
    have hbn : Below w11.heap.size w11 w12 := hbn.grown hp.only hbn.size (fun q hq => by injection hq with hq; omega)
    have HQ12 : Hid (Bk w12 g12 28 (dl DN)) := by show Bk _ _ _ _; have := hp.bk; simpa using this
    clear hp kt
    clear hg12
    have HO12 := Lib.hid (HO11.out.later hbn); have HU12 := Lib.hid (own_keep HU11.out hbn)
    have HBB12 := Lib.hid (below_then HBB11.out hbn)
    have HK12 := Lib.hid (HK11.out.later hbn)
    have HX12 := Lib.hid (HX11.out.later hbn)
    have HS12 := Lib.hid (HS11.out.later hbn)
    have HA12 := Lib.hid (HA11.out.later hbn)
    have HP12 := Lib.hid (HP11.out.later hbn)
    clear hbn
    clear HO11 HU11 HK11 HX11 HS11 HA11 HP11
    go_wp2_with fail
    have heq := dg_eqb DN DN HDO.out HDO.out
    rw [eqL_self] at heq
    have hT0 : ¬ ((tl : Int) = 0) := by have := HPB.out; omega
    have hTd : decide ((tl : Int) = 0) = false := by simp only [decide_eq_false_iff_not]; exact hT0
    have hTn : ¬ (tl = 0) := by omega
    have hTb : (tl == 0) = false := by simp [hTn]
    have hTc : ((tl : Int) == 0) = false := by simp [hTn]
    have hTg : decide (tl = 0) = false := by simp [hTn]
    refine wp_region_held_drew (S := fun w' => Bk w' g9 28 (dl DN) ∧ Bk w' g12 28 (dl DN) ∧ Bk w' g7 31 B6 ∧ Bk w' z 25 l) (by kernel_rfl) ⟨Bk.drew HP12.out, Bk.drew HQ12.out, Bk.drew HA12.out, Bk.drew HK12.out⟩ (fun hHeld => ?_)
    have hbn : Below w12.heap.size w12 w12.drew := below_draws w12 w12.heap.size 1
    obtain ⟨w13, hw13⟩ : ∃ x, w12.drew = x := ⟨_, rfl⟩
    rw [hw13] at hbn hHeld ⊢
    have HO13 := Lib.hid (HO12.out.later hbn); have HU13 := Lib.hid (own_keep HU12.out hbn)
    have HBB13 := Lib.hid (below_then HBB12.out hbn)
    have HK13 := Lib.hid (HK12.out.later hbn)
    have HX13 := Lib.hid (HX12.out.later hbn)
    have HS13 := Lib.hid (HS12.out.later hbn)
    have HA13 := Lib.hid (HA12.out.later hbn)
    have HP13 := Lib.hid (HP12.out.later hbn)
    have HQ13 := Lib.hid (HQ12.out.later hbn)
    clear hbn
    clear hw13 HO12 HU12 HK12 HX12 HS12 HA12 HP12 HQ12
    refine wpAnyH_take (i := 0) (v := ?_) rfl (by kernel_rfl) (by kernel_rfl) (by kernel_rfl) (fun _ _ _ h => h) (Or.inl ⟨by rfl, ?_⟩) (by assumption) ?_
    rotate_left
    · intro w hSw
      (try dsimp only at hSw)
      go_simp
      try with_reducible rfl
    try simp only [Act.put, List.setIfInBounds_toArray, List.set_cons_zero, List.set_cons_succ, List.getElem_toArray, List.getElem_cons_zero, List.getElem_cons_succ]
    refine wpAnyH_take (i := 1) (v := ?_) rfl (by kernel_rfl) (by kernel_rfl) (by kernel_rfl) (fun _ _ _ h => h) (Or.inl ⟨by rfl, ?_⟩) (by assumption) ?_
    rotate_left
    · intro w hSw
      (try dsimp only at hSw)
      go_simp
      try with_reducible rfl
    try simp only [Act.put, List.setIfInBounds_toArray, List.set_cons_zero, List.set_cons_succ, List.getElem_toArray, List.getElem_cons_zero, List.getElem_cons_succ]
    refine wpAnyH_take (i := 2) (v := ?_) rfl (by kernel_rfl) (by kernel_rfl) (by kernel_rfl) (fun _ _ _ h => h) (Or.inl ⟨by rfl, ?_⟩) (by assumption) ?_
    rotate_left
    · intro w hSw
      (try dsimp only at hSw)
      go_simp
      try with_reducible rfl
    try simp only [Act.put, List.setIfInBounds_toArray, List.set_cons_zero, List.set_cons_succ, List.getElem_toArray, List.getElem_cons_zero, List.getElem_cons_succ]
    refine wpAnyH_take (i := 3) (v := ?_) rfl (by kernel_rfl) (by kernel_rfl) (by kernel_rfl) (fun _ _ _ h => h) (Or.inl ⟨by rfl, ?_⟩) (by assumption) ?_
    rotate_left
    · intro w hSw
      (try dsimp only at hSw)
      go_simp
      try with_reducible rfl
    try simp only [Act.put, List.setIfInBounds_toArray, List.set_cons_zero, List.set_cons_succ, List.getElem_toArray, List.getElem_cons_zero, List.getElem_cons_succ]
    refine wpAnyH_take (i := 4) (v := ?_) rfl (by kernel_rfl) (by kernel_rfl) (by kernel_rfl) (fun _ _ _ h => h) (Or.inl ⟨by rfl, ?_⟩) (by assumption) ?_
    rotate_left
    · intro w hSw
      (try dsimp only at hSw)
      go_simp
      try with_reducible rfl
    try simp only [Act.put, List.setIfInBounds_toArray, List.set_cons_zero, List.set_cons_succ, List.getElem_toArray, List.getElem_cons_zero, List.getElem_cons_succ]
    refine wpAnyH_take (i := 5) (v := ?_) rfl (by kernel_rfl) (by kernel_rfl) (by kernel_rfl) (fun _ _ _ h => h) (Or.inl ⟨by rfl, ?_⟩) (by assumption) ?_
    rotate_left
    · intro w hSw
      (try dsimp only at hSw)
      go_simp
      try with_reducible rfl
    try simp only [Act.put, List.setIfInBounds_toArray, List.set_cons_zero, List.set_cons_succ, List.getElem_toArray, List.getElem_cons_zero, List.getElem_cons_succ]
    refine wpAnyH_take (i := 6) (v := ?_) rfl (by kernel_rfl) (by kernel_rfl) (by kernel_rfl) (fun _ _ _ h => h) (Or.inl ⟨by rfl, ?_⟩) (by assumption) ?_
    rotate_left
    · intro w hSw
      (try dsimp only at hSw)
      go_simp
      try with_reducible rfl
    try simp only [Act.put, List.setIfInBounds_toArray, List.set_cons_zero, List.set_cons_succ, List.getElem_toArray, List.getElem_cons_zero, List.getElem_cons_succ]
    refine wpAnyH_take (i := 7) (v := ?_) rfl (by kernel_rfl) (by kernel_rfl) (by kernel_rfl) (fun _ _ _ h => h) (Or.inl ⟨by rfl, ?_⟩) (by assumption) ?_
    rotate_left
    · intro w hSw
      (try dsimp only at hSw)
      go_simp
      try with_reducible rfl
    try simp only [Act.put, List.setIfInBounds_toArray, List.set_cons_zero, List.set_cons_succ, List.getElem_toArray, List.getElem_cons_zero, List.getElem_cons_succ]
    refine wpAnyH_take (i := 8) (v := ?_) rfl (by kernel_rfl) (by kernel_rfl) (by kernel_rfl) (fun _ _ _ h => h) (Or.inl ⟨by rfl, ?_⟩) (by assumption) ?_
    rotate_left
    · intro w hSw
      (try dsimp only at hSw)
      go_simp
      try with_reducible rfl
    try simp only [Act.put, List.setIfInBounds_toArray, List.set_cons_zero, List.set_cons_succ, List.getElem_toArray, List.getElem_cons_zero, List.getElem_cons_succ]
    refine wpAnyH_take (i := 9) (v := ?_) rfl (by kernel_rfl) (by kernel_rfl) (by kernel_rfl) (fun _ _ _ h => h) (Or.inl ⟨by rfl, ?_⟩) (by assumption) ?_
    rotate_left
    · intro w hSw
      (try dsimp only at hSw)
      go_simp
      try with_reducible rfl
    try simp only [Act.put, List.setIfInBounds_toArray, List.set_cons_zero, List.set_cons_succ, List.getElem_toArray, List.getElem_cons_zero, List.getElem_cons_succ]
    refine wpAnyH_take (i := 10) (v := ?_) rfl (by kernel_rfl) (by kernel_rfl) (by kernel_rfl) (fun _ _ _ h => h) (Or.inl ⟨by rfl, ?_⟩) (by assumption) ?_
    rotate_left
    · intro w hSw
      (try dsimp only at hSw)
      go_simp
      try with_reducible rfl
    try simp only [Act.put, List.setIfInBounds_toArray, List.set_cons_zero, List.set_cons_succ, List.getElem_toArray, List.getElem_cons_zero, List.getElem_cons_succ]
    refine wpAnyH_take (i := 11) (v := ?_) rfl (by kernel_rfl) (by kernel_rfl) (by kernel_rfl) (fun _ _ _ h => h) (Or.inl ⟨by rfl, ?_⟩) (by assumption) ?_
    rotate_left
    · intro w hSw
      (try dsimp only at hSw)
      go_simp
      try with_reducible rfl
    try simp only [Act.put, List.setIfInBounds_toArray, List.set_cons_zero, List.set_cons_succ, List.getElem_toArray, List.getElem_cons_zero, List.getElem_cons_succ]
    refine wpAnyH_take (i := 12) (v := ?_) rfl (by kernel_rfl) (by kernel_rfl) (by kernel_rfl) (fun _ _ _ h => h) (Or.inl ⟨by rfl, ?_⟩) (by assumption) ?_
    rotate_left
    · intro w hSw
      (try dsimp only at hSw)
      go_simp
      try with_reducible rfl
    try simp only [Act.put, List.setIfInBounds_toArray, List.set_cons_zero, List.set_cons_succ, List.getElem_toArray, List.getElem_cons_zero, List.getElem_cons_succ]
    refine wpAnyH_take (i := 13) (v := ?_) rfl (by kernel_rfl) (by kernel_rfl) (by kernel_rfl) (fun _ _ _ h => h) (Or.inl ⟨by rfl, ?_⟩) (by assumption) ?_
    rotate_left
    · intro w hSw
      (try dsimp only at hSw)
      go_simp
      try with_reducible rfl
    try simp only [Act.put, List.setIfInBounds_toArray, List.set_cons_zero, List.set_cons_succ, List.getElem_toArray, List.getElem_cons_zero, List.getElem_cons_succ]
    refine wpAnyH_take (i := 14) (v := ?_) rfl (by kernel_rfl) (by kernel_rfl) (by kernel_rfl) (fun _ _ _ h => h) (Or.inl ⟨by rfl, ?_⟩) (by assumption) ?_
    rotate_left
    · intro w hSw
      (try dsimp only at hSw)
      go_simp
      try with_reducible rfl
    try simp only [Act.put, List.setIfInBounds_toArray, List.set_cons_zero, List.set_cons_succ, List.getElem_toArray, List.getElem_cons_zero, List.getElem_cons_succ]
    refine wpAnyH_take (i := 15) (v := ?_) rfl (by kernel_rfl) (by kernel_rfl) (by kernel_rfl) (fun _ _ _ h => h) (Or.inl ⟨by rfl, ?_⟩) (by assumption) ?_
    rotate_left
    · intro w hSw
      (try dsimp only at hSw)
      go_simp
      try with_reducible rfl
    try simp only [Act.put, List.setIfInBounds_toArray, List.set_cons_zero, List.set_cons_succ, List.getElem_toArray, List.getElem_cons_zero, List.getElem_cons_succ]
    refine wpAnyH_take (i := 16) (v := .agg (List.toArray (dl DN))) rfl (by kernel_rfl) (by kernel_rfl) (by kernel_rfl) (fun _ _ _ h => h) (yieldsIf_load_mid (by rfl) _ _ rfl _ _ rfl (dl DN) _ (fun w hSw => (Bk.range (pre := []) (post := []) (by simpa using hSw.1) rfl)) Tryd.underlying28 rfl (hdg_size _ HDO.out)) (by assumption) ?_
    try simp only [Act.put, List.setIfInBounds_toArray, List.set_cons_zero, List.set_cons_succ, List.getElem_toArray, List.getElem_cons_zero, List.getElem_cons_succ]
    refine wpAnyH_take (i := 17) (v := .agg (List.toArray (dl DN))) rfl (by kernel_rfl) (by kernel_rfl) (by kernel_rfl) (fun _ _ _ h => h) (yieldsIf_load_mid (by rfl) _ _ rfl _ _ rfl (dl DN) _ (fun w hSw => (Bk.range (pre := []) (post := []) (by simpa using hSw.2.1) rfl)) Tryd.underlying28 rfl (hdg_size _ HDO.out)) (by assumption) ?_
    try simp only [Act.put, List.setIfInBounds_toArray, List.set_cons_zero, List.set_cons_succ, List.getElem_toArray, List.getElem_cons_zero, List.getElem_cons_succ]
    refine wpAnyH_take (i := 18) (v := ?_) rfl (by kernel_rfl) (by kernel_rfl) (by kernel_rfl) (fun _ _ _ h => h) (Or.inl ⟨by rfl, ?_⟩) (by assumption) ?_
    rotate_left
    · intro w hSw
      (try dsimp only at hSw)
      go_simp
      try with_reducible rfl
    try simp only [Act.put, List.setIfInBounds_toArray, List.set_cons_zero, List.set_cons_succ, List.getElem_toArray, List.getElem_cons_zero, List.getElem_cons_succ]
    refine wpAnyH_take (i := 19) (v := ?_) rfl (by kernel_rfl) (by kernel_rfl) (by kernel_rfl) (fun _ _ _ h => h) (Or.inl ⟨by rfl, ?_⟩) (by assumption) ?_
    rotate_left
    · intro w hSw
      (try dsimp only at hSw)
      go_simp
      try with_reducible rfl
    try simp only [Act.put, List.setIfInBounds_toArray, List.set_cons_zero, List.set_cons_succ, List.getElem_toArray, List.getElem_cons_zero, List.getElem_cons_succ]
    refine wpAnyH_take (i := 20) (v := ?_) rfl (by kernel_rfl) (by kernel_rfl) (by kernel_rfl) (fun _ _ _ h => h) (Or.inl ⟨by rfl, ?_⟩) (by assumption) ?_
    rotate_left
    · intro w hSw
      (try dsimp only at hSw)
      go_simp
      try with_reducible rfl
    try simp only [Act.put, List.setIfInBounds_toArray, List.set_cons_zero, List.set_cons_succ, List.getElem_toArray, List.getElem_cons_zero, List.getElem_cons_succ]
    refine wpAnyH_take (i := 21) (v := .agg (List.toArray (B6))) rfl (by kernel_rfl) (by kernel_rfl) (by kernel_rfl) (fun _ _ _ h => h) (yieldsIf_load_mid (by rfl) _ _ rfl _ _ rfl (B6) _ (fun w hSw => (Bk.range (pre := []) (post := []) (by simpa using hSw.2.2.1) rfl)) Tryd.underlying31 rfl (HF6.out.size)) (by assumption) ?_
    try simp only [Act.put, List.setIfInBounds_toArray, List.set_cons_zero, List.set_cons_succ, List.getElem_toArray, List.getElem_cons_zero, List.getElem_cons_succ]
    refine wpAnyH_take (i := 23) (v := .agg (List.toArray (l))) rfl (by kernel_rfl) (by kernel_rfl) (by kernel_rfl) (fun _ _ _ h => h) (yieldsIf_load_mid (by rfl) _ _ rfl _ _ rfl (l) _ (fun w hSw => (Bk.range (pre := []) (post := []) (by simpa using hSw.2.2.2) rfl)) Tryd.underlying25 rfl (HFL.out.rsize)) (by assumption) ?_
    try simp only [Act.put, List.setIfInBounds_toArray, List.set_cons_zero, List.set_cons_succ, List.getElem_toArray, List.getElem_cons_zero, List.getElem_cons_succ]
    refine wpAnyH_ready (rs := [22]) (by kernel_rfl) (by simp) ?_
    refine AllReadyH.cons rfl (fun K hK => ?_) AllReadyH.nil
    go_simp
    (refine (HTO.out w13 HO13.out.txs).mono ?_; rintro e w14 ⟨⟨v14, rfl, hown⟩, hbn⟩; obtain ⟨A14, c14, rfl⟩ := own_form hown; have HY14 : Hid (Txs w14 A14 L.length ys6) := ⟨Sl.of_own hown, fun x hx => (HO13.out.txs.th x hx).later hbn⟩; have HU14 := Lib.hid (own_keep HU13.out hbn); clear hown; have HBB14 := Lib.hid (below_then HBB13.out hbn); have HK14 := Lib.hid (HK13.out.later hbn); have HX14 := Lib.hid (HX13.out.later hbn); have HS14 := Lib.hid (HS13.out.later hbn); have HA14 := Lib.hid (HA13.out.later hbn); have HP14 := Lib.hid (HP13.out.later hbn); have HQ14 := Lib.hid (HQ13.out.later hbn); clear hbn; clear HO13 HU13 HK13 HX13 HS13 HA13 HP13 HQ13)
    refine hK.out _ _ (⟨HP14.out, HQ14.out, HA14.out, HK14.out⟩) (fun hHeld => ?_)
    clear hK K
    try simp only [Act.put, List.setIfInBounds_toArray, List.set_cons_zero, List.set_cons_succ, List.getElem_toArray, List.getElem_cons_zero, List.getElem_cons_succ]
    refine wpAnyH_ready (rs := [24]) (by kernel_rfl) (by simp) ?_
    refine AllReadyH.cons rfl (fun K hK => ?_) AllReadyH.nil
    go_simp
    (rw [HXE.out]; refine (HSM.out w14 A14 c14 HY14.out HX14.out).mono ?_; rintro e w15 ⟨rfl, hbn⟩; have HU15 := Lib.hid (own_keep HU14.out hbn); have HBB15 := Lib.hid (below_then HBB14.out hbn); have HK15 := Lib.hid (HK14.out.later hbn); have HX15 := Lib.hid (HX14.out.later hbn); have HS15 := Lib.hid (HS14.out.later hbn); have HA15 := Lib.hid (HA14.out.later hbn); have HP15 := Lib.hid (HP14.out.later hbn); have HQ15 := Lib.hid (HQ14.out.later hbn); clear hbn; clear HU14 HK14 HX14 HS14 HA14 HP14 HQ14 HY14)
    refine hK.out _ _ (⟨HP15.out, HQ15.out, HA15.out, HK15.out⟩) (fun hHeld => ?_)
    clear hK K
    try simp only [Act.put, List.setIfInBounds_toArray, List.set_cons_zero, List.set_cons_succ, List.getElem_toArray, List.getElem_cons_zero, List.getElem_cons_succ]
    refine wpAnyH_take (i := 25) (v := ?_) rfl (by kernel_rfl) (by kernel_rfl) (by kernel_rfl) (fun _ _ _ h => h) (Or.inl ⟨by rfl, ?_⟩) (by assumption) ?_
    rotate_left
    · intro w hSw
      (try dsimp only at hSw)
      go_simp
      try with_reducible rfl
    try simp only [Act.put, List.setIfInBounds_toArray, List.set_cons_zero, List.set_cons_succ, List.getElem_toArray, List.getElem_cons_zero, List.getElem_cons_succ]
    refine wpAnyH_take (i := 26) (v := ?_) rfl (by kernel_rfl) (by kernel_rfl) (by kernel_rfl) (fun _ _ _ h => h) (Or.inl ⟨by rfl, ?_⟩) (by assumption) ?_
    rotate_left
    · intro w hSw
      (try dsimp only at hSw)
      go_simp
      try with_reducible rfl
    try simp only [Act.put, List.setIfInBounds_toArray, List.set_cons_zero, List.set_cons_succ, List.getElem_toArray, List.getElem_cons_zero, List.getElem_cons_succ]
    refine wpAnyH_done rfl ?_ _
    clear heq hHeld HP15 HQ15 HA15 HK15 HX15
    obtain ⟨k, hk⟩ : ∃ k, ct.toNat % tl = k := ⟨_, rfl⟩
    have hct := HCT.out
    have hpb := HPB.out
    have HKN : Hid (k < tl) := by have := Nat.mod_lt ct.toNat hpb; show k < _; omega
    have hrem : ct.tmod (tl : Int) = (k : Int) := by
      rw [Int.tmod_eq_emod_of_nonneg hct.1, ← hk, Int.natCast_emod, Int.toNat_of_nonneg hct.1]
    have hcv : wrap64 ct = ct := IntWalk.wrap64_in _ (by omega)
    have hcv2 : wrap64 (k : Int) = k := IntWalk.wrap64_in _ (by have := HKN.out; have := HLB.out; omega)
    have hbf := fun W => run_bfront AT tl cT k (by have := HKN.out; omega) (own_cap HU15.out) W
    clear hk
    go_wp2_with fail
    clear hrem hcv hcv2 hbf hct hpb hT0 hTd hTn hTb hTc hTg
    as_aux_lemma =>
    obtain ⟨⟨⟨P4, h4, m4, L4⟩, E4⟩, hD⟩ : ∃ D, bkRd (T.take k) = D := ⟨_, rfl⟩
    have hne : E4 ≠ 0 := by have := HCU.out k HKN.out; rw [hD] at this; exact this
    have hd4 : Calls Tryd.prog 29 #[.slice AT k cT] w15 (fun e w' => ∃ v ys, e = .returned (.tuple #[.agg (bkC P4 h4 m4 v).toArray, .int .i64 E4]) ∧ OwnY 47 w15.heap.size w' v L4.length L4 ys ∧ DgOk P4 ∧ DgOk m4 ∧ L4.length ≤ 64 ∧ Below w15.heap.size w15 w') := by
      have := bDecode_any w15 AT k cT (T.take k) (HOB.out.take k) ((Sl.of_own HU15.out).front (by have := HKN.out; omega)) (by have := HKN.out; have := HLB.out; omega)
      rw [hD] at this; exact this
    have HD4 := Lib.hid hd4; have HNE := Lib.hid hne
    clear hd4 hD hne
    refine HD4.out.mono ?_
    rintro e w16 ⟨v16, ys16, rfl, hown, hpo, hmo, _, hbn⟩
    have HPO4 := Lib.hid hpo; have HMO4 := Lib.hid hmo
    obtain ⟨A16, c16, rfl⟩ := own_form hown.own
    have HBB16 := Lib.hid (below_then HBB15.out hbn)
    have HS16 := Lib.hid (HS15.out.later hbn)
    clear hbn
    clear hown hpo hmo HD4 HS15 HU15
    obtain ⟨B16, hB16⟩ : ∃ x, bkC P4 h4 m4 (.slice A16 L4.length c16) = x := ⟨_, rfl⟩
    have HF16 : Hid (BkFit B16) := hB16 ▸ bk_fit HPO4.out HMO4.out
    rw [hB16]
    clear hB16
    go_wp2_with (with_reducible refine stop_store 31 _ _ rfl ?_)
    refine StopD.go ?_
    obtain ⟨g17, hg17⟩ : ∃ g, w16.heap.size = g := ⟨_, rfl⟩
    have hbn : Below w16.heap.size w16 (w16.alloc (.cells #[.int .u8 0, .int .u8 0, .int .u8 0, .int .u8 0, .int .u8 0, .int .u8 0, .int .u8 0, .int .u8 0, .int .i64 0, .int .u8 0, .int .u8 0, .int .u8 0, .int .u8 0, .int .u8 0, .int .u8 0, .int .u8 0, .int .u8 0, .slice none 0 0] 31)) := below_new w16 _
    have kt : Bk (w16.alloc (.cells #[.int .u8 0, .int .u8 0, .int .u8 0, .int .u8 0, .int .u8 0, .int .u8 0, .int .u8 0, .int .u8 0, .int .i64 0, .int .u8 0, .int .u8 0, .int .u8 0, .int .u8 0, .int .u8 0, .int .u8 0, .int .u8 0, .int .u8 0, .slice none 0 0] 31)) g17 31 ([] ++ (zBk ++ [])) := by rw [← hg17]; exact Bk.new' w16 _ #[.int .u8 0, .int .u8 0, .int .u8 0, .int .u8 0, .int .u8 0, .int .u8 0, .int .u8 0, .int .u8 0, .int .i64 0, .int .u8 0, .int .u8 0, .int .u8 0, .int .u8 0, .int .u8 0, .int .u8 0, .int .u8 0, .int .u8 0, .slice none 0 0] rfl
    rw [hg17]
    refine wpList_store_part rfl 31 _ _ rfl g17 0 (.agg (B16).toArray) (B16) rfl rfl rfl 31 [] zBk [] kt rfl (by rw [HF16.out.len]; rfl) HF16.out.size HF16.out.one ?_
    intro w17 hp
    have hbn : Below w16.heap.size w16 w17 := hbn.grown hp.only hbn.size (fun q hq => by injection hq with hq; omega)
    have HA17 : Hid (Bk w17 g17 31 (B16)) := by show Bk _ _ _ _; have := hp.bk; simpa using this
    clear hp kt
    clear hg17
    have HBB17 := Lib.hid (below_then HBB16.out hbn)
    have HS17 := Lib.hid (HS16.out.later hbn)
    clear hbn
    have hne := HNE.out
    have hz1 : decide (E4 = 0) = false := by simp [hne]
    have hz2 : (E4 == 0) = false := by simp [hne]
    clear HS16 hne
    go_wp2_with fail
    obtain ⟨⟨⟨P3, h3, m3, L3⟩, E3⟩, hD⟩ : ∃ D, bkRd bs = D := ⟨_, rfl⟩
    have hd3 : Calls Tryd.prog 29 #[.slice A5 n5 c5] w17 (fun e w' => ∃ v ys, e = .returned (.tuple #[.agg (bkC P3 h3 m3 v).toArray, .int .i64 E3]) ∧ OwnY 47 w17.heap.size w' v L3.length L3 ys ∧ DgOk P3 ∧ DgOk m3 ∧ L3.length ≤ 64 ∧ Below w17.heap.size w17 w') := by
      have := bDecode_any w17 A5 n5 c5 bs HBO.out HS17.out HN5.out
      rw [hD] at this; exact this
    have HD3 := Lib.hid hd3; have HDD := Lib.hid hD
    clear hd3 hD
    refine HD3.out.mono ?_
    rintro e w30 ⟨v30, ys30, rfl, hown, hpo, hmo, h64, hbn⟩
    have HPO3 := Lib.hid hpo; have HMO3 := Lib.hid hmo; have H643 := Lib.hid h64
    obtain ⟨A30, c30, rfl⟩ := own_form hown.own
    have HO30 := Lib.hid hown
    have HBB30 := Lib.hid (below_then HBB17.out hbn)
    have HS30 := Lib.hid (HS17.out.later hbn)
    clear hbn
    clear hown hpo hmo h64 HD3
    have HTO3 := Lib.hid (fun w' (hx' : Txs w' A30 L3.length ys30) => to_any w' P3 h3 m3 HPO3.out HMO3.out A30 L3.length c30 ys30 hx' (by have := H643.out; omega))
    have HEN3 := Lib.hid (fun w' (hx' : Txs w' A30 L3.length ys30) => bEncode_any w' P3 h3 m3 HPO3.out HMO3.out A30 L3.length c30 ys30 hx')
    have HSM3 : Hid (E3 ≠ 0 → ∀ w' (A' : Option Addr) (C' : Nat), Txs w' A' L3.length ys30 → Calls Tryd.prog 20 #[.agg (bkC P3 h3 m3 (.slice A' L3.length C')).toArray, .agg (bkC zeroD 0 zeroD (.slice none 0 0)).toArray] w' fun e w'' => e = .returned (.bool true) ∧ Below w'.heap.size w' w'') := fun hE w' A' C' hx' => by
      have h0 := bk_ok bs HBO.out (by rw [HDD.out]; exact hE)
      rw [HDD.out] at h0
      have h1 := rbSame_any w' P3 h3 m3 HPO3.out HMO3.out A' L3.length C' ys30 hx' zeroD 0 zeroD zero_ok zero_ok none 0 0 [] (Txs.nil w')
      rw [HO30.out.map] at h1
      have h2 : sameB P3 h3 m3 L3 zeroD 0 zeroD (([] : List (List Value × TxT)).map (·.2)) = true := by
        have e1 : P3 = zeroD := congrArg BkT.p h0
        have e2 : h3 = 0 := congrArg BkT.h h0
        have e3 : m3 = zeroD := congrArg BkT.m h0
        have e4 : L3 = [] := congrArg BkT.L h0
        rw [e1, e2, e3, e4]; exact sameB_reflW _ _ _ _
      rw [h2] at h1
      exact h1
    rw [HO30.out.map] at HEN3
    have HEQ3 : Hid (E3 = 0 → encR P3 h3 m3 L3 = bs ∧ blkE h3 L3 = 0) := fun hE => by
      subst hE
      have h1 := bk_eat HBO.out HDD.out
      exact ⟨by rw [encR, if_pos h1.2.1]; exact h1.1.symm, h1.2.1⟩
    obtain ⟨B3, hB3⟩ : ∃ x, bkC P3 h3 m3 (.slice A30 L3.length c30) = x := ⟨_, rfl⟩
    have HF3 : Hid (BkFit B3) := hB3 ▸ bk_fit HPO3.out HMO3.out
    rw [hB3] at HTO3 HEN3 ⊢
    clear hB3
    go_wp2_with (with_reducible refine stop_store 31 _ _ rfl ?_)
    refine StopD.go ?_
    obtain ⟨g31, hg31⟩ : ∃ g, w30.heap.size = g := ⟨_, rfl⟩
    have hbn : Below w30.heap.size w30 (w30.alloc (.cells #[.int .u8 0, .int .u8 0, .int .u8 0, .int .u8 0, .int .u8 0, .int .u8 0, .int .u8 0, .int .u8 0, .int .i64 0, .int .u8 0, .int .u8 0, .int .u8 0, .int .u8 0, .int .u8 0, .int .u8 0, .int .u8 0, .int .u8 0, .slice none 0 0] 31)) := below_new w30 _
    have kt : Bk (w30.alloc (.cells #[.int .u8 0, .int .u8 0, .int .u8 0, .int .u8 0, .int .u8 0, .int .u8 0, .int .u8 0, .int .u8 0, .int .i64 0, .int .u8 0, .int .u8 0, .int .u8 0, .int .u8 0, .int .u8 0, .int .u8 0, .int .u8 0, .int .u8 0, .slice none 0 0] 31)) g31 31 ([] ++ (zBk ++ [])) := by rw [← hg31]; exact Bk.new' w30 _ #[.int .u8 0, .int .u8 0, .int .u8 0, .int .u8 0, .int .u8 0, .int .u8 0, .int .u8 0, .int .u8 0, .int .i64 0, .int .u8 0, .int .u8 0, .int .u8 0, .int .u8 0, .int .u8 0, .int .u8 0, .int .u8 0, .int .u8 0, .slice none 0 0] rfl
    rw [hg31]
    refine wpList_store_part rfl 31 _ _ rfl g31 0 (.agg (B3).toArray) (B3) rfl rfl rfl 31 [] zBk [] kt rfl (by rw [HF3.out.len]; rfl) HF3.out.size HF3.out.one ?_
    intro w31 hp
    have hbn : Below w30.heap.size w30 w31 := hbn.grown hp.only hbn.size (fun q hq => by injection hq with hq; omega)
    have HA31 : Hid (Bk w31 g31 31 (B3)) := by show Bk _ _ _ _; have := hp.bk; simpa using this
    clear hp kt
    clear hg31
    have HO31 := Lib.hid (HO30.out.later hbn)
    have HBB31 := Lib.hid (below_then HBB30.out hbn)
    have HS31 := Lib.hid (HS30.out.later hbn)
    clear hbn
    clear HS30
    by_cases hE3 : E3 = 0
    · have HQ := Lib.hid (HEQ3.out hE3)
      subst hE3
      have hen := HEN3.out w31 HO31.out.txs
      rw [HQ.out.1, HQ.out.2] at hen
      have HEN := Lib.hid hen
      clear hen HEN3 HSM3 HTO3 HEQ3
      go_wp2_with (with_reducible refine wpList_load_bk rfl 31 _ rfl g31 rfl B3 31 HA31.out _ Tryd.underlying31 rfl HF3.out.size ?_)
      refine HEN.out.mono ?_
      rintro e w32 ⟨v32, rfl, hown⟩
      have hbn := hown.2
      obtain ⟨A32, c32, rfl⟩ := hown.form
      have hc1 := conv_any w32 w32.heap.size A32 bs.length c32 bs (Sl.of_own hown.1)
      have HBB32 := Lib.hid (below_then HBB31.out hbn)
      have HS32 := Lib.hid (HS31.out.later hbn)
      clear hbn
      have hc2 := conv_any w32 w32.heap.size A5 n5 c5 bs HS32.out
      obtain ⟨st, hst⟩ : ∃ s, strOf bs = s := ⟨_, rfl⟩
      rw [hst] at hc1 hc2
      have hss : (st.toList == st.toList) = true := by simp
      clear hown hst
      go_wp2_with fail
      go_ret
      exact ⟨rfl, HBB32.out⟩
    · have hd3 : decide (E3 = 0) = false := by simp [hE3]
      have hd4 : (E3 != 0) = true := by simp [hE3]
      have HSS := Lib.hid (HSM3.out hE3)
      clear hE3 HEN3 HSM3 HEQ3
      go_wp2_with (with_reducible refine wpList_load_bk rfl 31 _ rfl g31 rfl B3 31 HA31.out _ Tryd.underlying31 rfl HF3.out.size ?_)
      refine (HTO3.out w31 HO31.out.txs).mono ?_
      rintro e w32 ⟨⟨v32, rfl, hown⟩, hbn⟩
      obtain ⟨A32, c32, rfl⟩ := own_form hown
      have HX32 : Hid (Txs w32 A32 L3.length ys30) := ⟨Sl.of_own hown, fun x hx => (HO31.out.txs.th x hx).later hbn⟩
      have HBB32 := Lib.hid (below_then HBB31.out hbn)
      have HS32 := Lib.hid (HS31.out.later hbn)
      clear hbn
      clear hown
      go_wp2_with ((with_reducible refine wpList_build rfl 25 _ rfl #[] ?_ _ (rz_blkb _) ?_); focus (simp [Act.eval, Act.put]; done))
      refine (HSS.out w32 A32 c32 HX32.out).mono ?_
      rintro e w33 ⟨rfl, hbn⟩
      have HBB33 := Lib.hid (below_then HBB32.out hbn)
      clear hbn
      go_wp2_with fail
      go_ret
      exact ⟨rfl, HBB33.out⟩
  · as_aux_lemma =>
    have hd1 : decide (E = 0) = false := by simp [hE0]
    have hd2 : (E != 0) = true := by simp [hE0]
    have HT0 : Hid (T = []) := HTE.out.trans (if_neg hE0)
    have hTz : tl = 0 := by rw [← HTL.out, HT0.out]; rfl
    subst hTz
    clear hE0 HTE
    go_wp2_with fail
    obtain ⟨⟨⟨P3, h3, m3, L3⟩, E3⟩, hD⟩ : ∃ D, bkRd bs = D := ⟨_, rfl⟩
    have hd3 : Calls Tryd.prog 29 #[.slice A5 n5 c5] w5 (fun e w' => ∃ v ys, e = .returned (.tuple #[.agg (bkC P3 h3 m3 v).toArray, .int .i64 E3]) ∧ OwnY 47 w5.heap.size w' v L3.length L3 ys ∧ DgOk P3 ∧ DgOk m3 ∧ L3.length ≤ 64 ∧ Below w5.heap.size w5 w') := by
      have := bDecode_any w5 A5 n5 c5 bs HBO.out HS5.out HN5.out
      rw [hD] at this; exact this
    have HD3 := Lib.hid hd3; have HDD := Lib.hid hD
    clear hd3 hD
    refine HD3.out.mono ?_
    rintro e w30 ⟨v30, ys30, rfl, hown, hpo, hmo, h64, hbn⟩
    have HPO3 := Lib.hid hpo; have HMO3 := Lib.hid hmo; have H643 := Lib.hid h64
    obtain ⟨A30, c30, rfl⟩ := own_form hown.own
    have HO30 := Lib.hid hown
    have HBB30 := Lib.hid (below_then HBB5.out hbn)
    have HS30 := Lib.hid (HS5.out.later hbn)
    clear hbn
    clear hown hpo hmo h64 HD3
    have HTO3 := Lib.hid (fun w' (hx' : Txs w' A30 L3.length ys30) => to_any w' P3 h3 m3 HPO3.out HMO3.out A30 L3.length c30 ys30 hx' (by have := H643.out; omega))
    have HEN3 := Lib.hid (fun w' (hx' : Txs w' A30 L3.length ys30) => bEncode_any w' P3 h3 m3 HPO3.out HMO3.out A30 L3.length c30 ys30 hx')
    have HSM3 : Hid (E3 ≠ 0 → ∀ w' (A' : Option Addr) (C' : Nat), Txs w' A' L3.length ys30 → Calls Tryd.prog 20 #[.agg (bkC P3 h3 m3 (.slice A' L3.length C')).toArray, .agg (bkC zeroD 0 zeroD (.slice none 0 0)).toArray] w' fun e w'' => e = .returned (.bool true) ∧ Below w'.heap.size w' w'') := fun hE w' A' C' hx' => by
      have h0 := bk_ok bs HBO.out (by rw [HDD.out]; exact hE)
      rw [HDD.out] at h0
      have h1 := rbSame_any w' P3 h3 m3 HPO3.out HMO3.out A' L3.length C' ys30 hx' zeroD 0 zeroD zero_ok zero_ok none 0 0 [] (Txs.nil w')
      rw [HO30.out.map] at h1
      have h2 : sameB P3 h3 m3 L3 zeroD 0 zeroD (([] : List (List Value × TxT)).map (·.2)) = true := by
        have e1 : P3 = zeroD := congrArg BkT.p h0
        have e2 : h3 = 0 := congrArg BkT.h h0
        have e3 : m3 = zeroD := congrArg BkT.m h0
        have e4 : L3 = [] := congrArg BkT.L h0
        rw [e1, e2, e3, e4]; exact sameB_reflW _ _ _ _
      rw [h2] at h1
      exact h1
    rw [HO30.out.map] at HEN3
    have HEQ3 : Hid (E3 = 0 → encR P3 h3 m3 L3 = bs ∧ blkE h3 L3 = 0) := fun hE => by
      subst hE
      have h1 := bk_eat HBO.out HDD.out
      exact ⟨by rw [encR, if_pos h1.2.1]; exact h1.1.symm, h1.2.1⟩
    obtain ⟨B3, hB3⟩ : ∃ x, bkC P3 h3 m3 (.slice A30 L3.length c30) = x := ⟨_, rfl⟩
    have HF3 : Hid (BkFit B3) := hB3 ▸ bk_fit HPO3.out HMO3.out
    rw [hB3] at HTO3 HEN3 ⊢
    clear hB3
    go_wp2_with (with_reducible refine stop_store 31 _ _ rfl ?_)
    refine StopD.go ?_
    obtain ⟨g31, hg31⟩ : ∃ g, w30.heap.size = g := ⟨_, rfl⟩
    have hbn : Below w30.heap.size w30 (w30.alloc (.cells #[.int .u8 0, .int .u8 0, .int .u8 0, .int .u8 0, .int .u8 0, .int .u8 0, .int .u8 0, .int .u8 0, .int .i64 0, .int .u8 0, .int .u8 0, .int .u8 0, .int .u8 0, .int .u8 0, .int .u8 0, .int .u8 0, .int .u8 0, .slice none 0 0] 31)) := below_new w30 _
    have kt : Bk (w30.alloc (.cells #[.int .u8 0, .int .u8 0, .int .u8 0, .int .u8 0, .int .u8 0, .int .u8 0, .int .u8 0, .int .u8 0, .int .i64 0, .int .u8 0, .int .u8 0, .int .u8 0, .int .u8 0, .int .u8 0, .int .u8 0, .int .u8 0, .int .u8 0, .slice none 0 0] 31)) g31 31 ([] ++ (zBk ++ [])) := by rw [← hg31]; exact Bk.new' w30 _ #[.int .u8 0, .int .u8 0, .int .u8 0, .int .u8 0, .int .u8 0, .int .u8 0, .int .u8 0, .int .u8 0, .int .i64 0, .int .u8 0, .int .u8 0, .int .u8 0, .int .u8 0, .int .u8 0, .int .u8 0, .int .u8 0, .int .u8 0, .slice none 0 0] rfl
    rw [hg31]
    refine wpList_store_part rfl 31 _ _ rfl g31 0 (.agg (B3).toArray) (B3) rfl rfl rfl 31 [] zBk [] kt rfl (by rw [HF3.out.len]; rfl) HF3.out.size HF3.out.one ?_
    intro w31 hp
    have hbn : Below w30.heap.size w30 w31 := hbn.grown hp.only hbn.size (fun q hq => by injection hq with hq; omega)
    have HA31 : Hid (Bk w31 g31 31 (B3)) := by show Bk _ _ _ _; have := hp.bk; simpa using this
    clear hp kt
    clear hg31
    have HO31 := Lib.hid (HO30.out.later hbn)
    have HBB31 := Lib.hid (below_then HBB30.out hbn)
    have HS31 := Lib.hid (HS30.out.later hbn)
    clear hbn
    clear HS30
    by_cases hE3 : E3 = 0
    · have HQ := Lib.hid (HEQ3.out hE3)
      subst hE3
      have hen := HEN3.out w31 HO31.out.txs
      rw [HQ.out.1, HQ.out.2] at hen
      have HEN := Lib.hid hen
      clear hen HEN3 HSM3 HTO3 HEQ3
      go_wp2_with (with_reducible refine wpList_load_bk rfl 31 _ rfl g31 rfl B3 31 HA31.out _ Tryd.underlying31 rfl HF3.out.size ?_)
      refine HEN.out.mono ?_
      rintro e w32 ⟨v32, rfl, hown⟩
      have hbn := hown.2
      obtain ⟨A32, c32, rfl⟩ := hown.form
      have hc1 := conv_any w32 w32.heap.size A32 bs.length c32 bs (Sl.of_own hown.1)
      have HBB32 := Lib.hid (below_then HBB31.out hbn)
      have HS32 := Lib.hid (HS31.out.later hbn)
      clear hbn
      have hc2 := conv_any w32 w32.heap.size A5 n5 c5 bs HS32.out
      obtain ⟨st, hst⟩ : ∃ s, strOf bs = s := ⟨_, rfl⟩
      rw [hst] at hc1 hc2
      have hss : (st.toList == st.toList) = true := by simp
      clear hown hst
      go_wp2_with fail
      go_ret
      exact ⟨rfl, HBB32.out⟩
    · have hd3 : decide (E3 = 0) = false := by simp [hE3]
      have hd4 : (E3 != 0) = true := by simp [hE3]
      have HSS := Lib.hid (HSM3.out hE3)
      clear hE3 HEN3 HSM3 HEQ3
      go_wp2_with (with_reducible refine wpList_load_bk rfl 31 _ rfl g31 rfl B3 31 HA31.out _ Tryd.underlying31 rfl HF3.out.size ?_)
      refine (HTO3.out w31 HO31.out.txs).mono ?_
      rintro e w32 ⟨⟨v32, rfl, hown⟩, hbn⟩
      obtain ⟨A32, c32, rfl⟩ := own_form hown
      have HX32 : Hid (Txs w32 A32 L3.length ys30) := ⟨Sl.of_own hown, fun x hx => (HO31.out.txs.th x hx).later hbn⟩
      have HBB32 := Lib.hid (below_then HBB31.out hbn)
      have HS32 := Lib.hid (HS31.out.later hbn)
      clear hbn
      clear hown
      go_wp2_with ((with_reducible refine wpList_build rfl 25 _ rfl #[] ?_ _ (rz_blkb _) ?_); focus (simp [Act.eval, Act.put]; done))
      refine (HSS.out w32 A32 c32 HX32.out).mono ?_
      rintro e w33 ⟨rfl, hbn⟩
      have HBB33 := Lib.hid (below_then HBB32.out hbn)
      clear hbn
      go_wp2_with fail
      go_ret
      exact ⟨rfl, HBB33.out⟩
end Go.Proofs.YtbpmomedhdmloaaDoor
