/- BlockBytes: the walk. -/
import Derived.Test.YtbpmomedhdmloaaGreatDoorE3
import Derived.Test.YtbpmomedhdmloaaGreatDoorE7
import Derived.Test.YtbpmomedhdmloaaGreatDoorBI
import Derived.Test.YtbpmomedhdmloaaGreatDoorBC
namespace Go.Proofs.YtbpmomedhdmloaaGreatDoor
set_option linter.unusedSimpArgs false
set_option linter.unusedVariables false
open Go.RowKit Go.Maps

theorem sameB_reflE (p : List Int) (h : Int) (m : List Int) (L : List TxT) : sameB p h m L p h m L = true := by unfold sameB; simp [eqL_self, sameL_refl]
set_option maxRecDepth 20000 in
set_option maxHeartbeats 16000000 in
theorem bbytes_law (w : World) (p : List Int) (h : Int) (m : List Int) (hp : DgOk p) (hm : DgOk m) (A : Option Addr) (N C : Nat) (xs : List (List Value × TxT)) (hx : Txs w A N xs)
    (hl : ∀ x ∈ xs, x.2.b.length ≤ 140737488355328 ∧ x.2.s.length ≤ 140737488355328)
    (A5 : Option Addr) (n5 c5 : Nat) (bs : List Int) (hbs : ByOk bs) (hsb : Sl w w.heap.size 1 A5 n5 (bs.map (.int .u8))) (hnc : n5 ≤ c5) :
    Calls Tryz.prog 5 #[.agg (bkC p h m (.slice A N C)).toArray, .slice A5 n5 c5] w fun e w' => e = .returned (.bool true) ∧ Below w.heap.size w w' := by
  have hF0 : Hid (BkFit (bkC p h m (.slice A N C))) := bk_fit hp hm
  have HFW := Lib.hid (fun w' (hx' : Txs w' A N xs) => few_any w' p h m hp hm A N C xs hx' hl)
  have HOF := Lib.hid (fun w' (hx' : Txs w' A N xs) (hN : N ≤ 1000) => of_any w' p h m hp hm A N C xs hx' hN)
  have HRE := Lib.hid (fun w' (hx' : Txs w' A N xs) => rbEncode_any w' p h m hp hm A N C xs hx')
  have HPE := Lib.hid (fun (A' : Option Addr) (C' : Nat) w' (hx' : Txs w' A' N xs) => bEncode_any w' p h m hp hm A' N C' xs hx')
  obtain ⟨L, hL⟩ : ∃ L, xs.map (·.2) = L := ⟨_, rfl⟩
  have HLN : Hid (L.length = N) := by show _ = _; rw [← hL, List.length_map, hx.length]
  rw [hL] at HFW HRE HPE
  obtain ⟨T, hT⟩ : ∃ T, encR p h m L = T := ⟨_, rfl⟩
  obtain ⟨E, hE⟩ : ∃ E, blkE h L = E := ⟨_, rfl⟩
  rw [hT, hE] at HRE HPE
  obtain ⟨l, hl0⟩ : ∃ x, bkC p h m (.slice A N C) = x := ⟨_, rfl⟩
  obtain ⟨X, hX⟩ : ∃ X, l.toArray = X := ⟨_, rfl⟩
  obtain ⟨z, hz⟩ : ∃ z, w.heap.size = z := ⟨_, rfl⟩
  obtain ⟨w1, hw1⟩ : ∃ w1, w.alloc (.cells X 25) = w1 := ⟨_, rfl⟩
  have hb1 : Below w.heap.size w w1 := hw1 ▸ below_new w _
  have kx : Bk w1 z 25 l := hw1 ▸ Bk.at_ w _ X hz (by rw [← hX])
  have HW := Lib.hid hw1; have HBB1 := Lib.hid hb1; have HZ := Lib.hid hz; have HK1 := Lib.hid kx; have HPO := Lib.hid hp; have HMO := Lib.hid hm; have HXE := Lib.hid hX
  have HX1 := Lib.hid (hx.later hb1); have HS1 := Lib.hid (hsb.later hb1); have HBO := Lib.hid hbs; have HNC := Lib.hid hnc
  have HFL : Hid (BkFit l) := hl0 ▸ hF0.out
  have hn5 := hsb.le
  rw [hl0] at HFW HOF HRE ⊢
  rw [hX] at HFW HOF HRE ⊢
  clear hL hT hE hl0 hX hz hw1 hb1 kx hF0 hp hm hx hl hbs hsb hnc
  go_enter Tryz.func5, Tryz.ntmps5
  go_upto_region 1 with fail
  rw [HW.out, HZ.out]
  go_wp2_with fail
  refine (known_any w1).mono ?_
  rintro e w2 ⟨rfl, hbn⟩
  have HBB2 := Lib.hid (below_then HBB1.out hbn)
  have HK2 := Lib.hid (HK1.out.later hbn)
  have HX2 := Lib.hid (HX1.out.later hbn)
  have HS2 := Lib.hid (HS1.out.later hbn)
  clear hbn
  go_wp2_with ((with_reducible refine wpList_load_bkG2 ?_ 25 _ rfl z rfl l 25 HK2.out _ Tryz.underlying25 rfl HFL.out.rsize ?_); rfl)
  rw [HXE.out]
  refine (HFW.out w2 HX2.out).mono ?_
  rintro e w3 ⟨rfl, hbn⟩
  have HBB3 := Lib.hid (below_then HBB2.out hbn)
  have HK3 := Lib.hid (HK2.out.later hbn)
  have HX3 := Lib.hid (HX2.out.later hbn)
  have HS3 := Lib.hid (HS2.out.later hbn)
  clear hbn
  obtain ⟨fw, hfw⟩ : ∃ b, fewT L = b := ⟨_, rfl⟩
  rw [hfw]
  have HFE := Lib.hid hfw
  clear hfw HK1 HK2 HX1 HX2 HS1 HS2
  cases fw
  · go_wp2_with fail
    refine (known_any w3).mono ?_
    rintro e w4 ⟨rfl, hbn⟩
    go_wp2_with fail
    go_ret
    exact ⟨rfl, below_then HBB3.out hbn⟩
  by_cases hbig : (3000 : Int) < n5
  · go_wp2_with fail
    refine (known_any w3).mono ?_
    rintro e w4 ⟨rfl, hbn⟩
    go_wp2_with fail
    go_ret
    exact ⟨rfl, below_then HBB3.out hbn⟩
  have HN5 : Hid (n5 ≤ 1073741824) := by show _ ≤ _; omega
  have HN : Hid (N ≤ 1000) := by have := few_len HFE.out; rw [HLN.out] at this; show N ≤ 1000; omega
  go_wp2_with (with_reducible refine wpList_load_bk rfl 25 _ rfl z rfl l 25 HK3.out _ Tryz.underlying25 rfl HFL.out.rsize ?_)
  clear hbig hn5
  rw [HXE.out]
  refine (HOF.out w3 HX3.out HN.out).mono ?_
  rintro e w4 ⟨⟨v, rfl, hown⟩, hbn⟩
  obtain ⟨A2, c2, rfl⟩ := own_form hown
  have HY4 : Hid (Txs w4 A2 N xs) := ⟨Sl.of_own hown, fun x hx => (HX3.out.th x hx).later hbn⟩
  have HBB4 := Lib.hid (below_then HBB3.out hbn)
  have HK4 := Lib.hid (HK3.out.later hbn)
  have HX4 := Lib.hid (HX3.out.later hbn)
  have HS4 := Lib.hid (HS3.out.later hbn)
  clear hbn
  clear hown HX3 HK3 HS3 HOF HFW
  have HPP := Lib.hid (HPE.out A2 c2 w4 HY4.out)
  go_wp2_with fail
  refine HPP.out.mono ?_
  rintro e w5 ⟨v5, rfl, hown⟩
  have hbn := hown.2
  obtain ⟨A5', c5', rfl⟩ := hown.form
  have HU5 := Lib.hid hown.1
  have HBB5 := Lib.hid (below_then HBB4.out hbn)
  have HK5 := Lib.hid (HK4.out.later hbn)
  have HX5 := Lib.hid (HX4.out.later hbn)
  have HS5 := Lib.hid (HS4.out.later hbn)
  clear hbn
  clear hown HK4 HX4 HS4 HY4 HPP HPE
  go_wp2_with (with_reducible refine wpList_load_bk rfl 25 _ rfl z rfl l 25 HK5.out _ Tryz.underlying25 rfl HFL.out.rsize ?_)
  rw [HXE.out]
  refine (HRE.out w5 HX5.out).mono ?_
  rintro e w6 ⟨v6, rfl, hown⟩
  have hbn := hown.2
  obtain ⟨A6, c6, rfl⟩ := hown.form
  have HV6 := Lib.hid hown.1; have HU6 := Lib.hid (own_keep HU5.out hbn)
  have HBB6 := Lib.hid (below_then HBB5.out hbn)
  have HS6 := Lib.hid (HS5.out.later hbn)
  clear hbn
  clear hown HK5 HX5 HS5 HU5 HRE
  obtain ⟨⟨⟨P2, h2, m2, L2⟩, E2⟩, hD⟩ : ∃ D, bkRd bs = D := ⟨_, rfl⟩
  have hd1 : Calls Tryz.prog 28 #[.slice A5 n5 c5] w6 (fun e w' => ∃ v ys, e = .returned (.tuple #[.agg (bkC P2 h2 m2 v).toArray, .int .i64 E2]) ∧ OwnY 76 w6.heap.size w' v L2.length L2 ys ∧ DgOk P2 ∧ DgOk m2 ∧ L2.length ≤ 64 ∧ Below w6.heap.size w6 w') := by
    have := bDecode_any w6 A5 n5 c5 bs HBO.out HS6.out HN5.out
    rw [hD] at this; exact this
  have hd2 : ∀ w', Sl w' w'.heap.size 1 A5 n5 (bs.map (.int .u8)) → Calls Tryz.prog 29 #[.slice A5 n5 c5] w' (fun e w'' => ∃ v ys, e = .returned (.tuple #[.agg (bkC P2 h2 m2 v).toArray, .int .i64 E2]) ∧ OwnY 74 w'.heap.size w'' v L2.length L2 ys ∧ DgOk P2 ∧ DgOk m2 ∧ L2.length ≤ 64 ∧ Below w'.heap.size w' w'') := fun w' hs => by
    have := rbDecode_any w' A5 n5 c5 bs HBO.out hs HN5.out HNC.out
    rw [hD] at this; exact this
  have HD1 := Lib.hid hd1; have HD2 := Lib.hid hd2
  clear hd1 hd2 hD
  go_wp2_with fail
  refine HD1.out.mono ?_
  rintro e w7 ⟨v7, ys7, rfl, hown, hpo, hmo, h64, hbn⟩
  have HPO2 := Lib.hid hpo; have HMO2 := Lib.hid hmo; have H64 := Lib.hid h64
  obtain ⟨A7, c7, rfl⟩ := own_form hown.own
  have HO7 := Lib.hid hown
  have HV7 := Lib.hid (own_keep HV6.out hbn); have HU7 := Lib.hid (own_keep HU6.out hbn)
  have HBB7 := Lib.hid (below_then HBB6.out hbn)
  have HS7 := Lib.hid (HS6.out.later hbn)
  clear hbn
  clear hown hpo hmo h64 HS6 HU6 HV6 HD1
  have HTO := Lib.hid (fun w' (hx' : Txs w' A7 L2.length ys7) => to_any w' P2 h2 m2 HPO2.out HMO2.out A7 L2.length c7 ys7 hx' (by have := H64.out; omega))
  obtain ⟨B7, hB7⟩ : ∃ x, bkC P2 h2 m2 (.slice A7 L2.length c7) = x := ⟨_, rfl⟩
  have HF7 : Hid (BkFit B7) := hB7 ▸ bk_fit HPO2.out HMO2.out
  rw [hB7] at HTO ⊢
  clear hB7
  go_wp2_with (with_reducible refine stop_store 31 _ _ rfl ?_)
  refine StopD.go ?_
  obtain ⟨g8, hg8⟩ : ∃ g, w7.heap.size = g := ⟨_, rfl⟩
  have hbn : Below w7.heap.size w7 (w7.alloc (.cells #[.int .u8 0, .int .u8 0, .int .u8 0, .int .u8 0, .int .u8 0, .int .u8 0, .int .u8 0, .int .u8 0, .int .i64 0, .int .u8 0, .int .u8 0, .int .u8 0, .int .u8 0, .int .u8 0, .int .u8 0, .int .u8 0, .int .u8 0, .slice none 0 0] 31)) := below_new w7 _
  have kt : Bk (w7.alloc (.cells #[.int .u8 0, .int .u8 0, .int .u8 0, .int .u8 0, .int .u8 0, .int .u8 0, .int .u8 0, .int .u8 0, .int .i64 0, .int .u8 0, .int .u8 0, .int .u8 0, .int .u8 0, .int .u8 0, .int .u8 0, .int .u8 0, .int .u8 0, .slice none 0 0] 31)) g8 31 ([] ++ (zBk ++ [])) := by rw [← hg8]; exact Bk.new' w7 _ #[.int .u8 0, .int .u8 0, .int .u8 0, .int .u8 0, .int .u8 0, .int .u8 0, .int .u8 0, .int .u8 0, .int .i64 0, .int .u8 0, .int .u8 0, .int .u8 0, .int .u8 0, .int .u8 0, .int .u8 0, .int .u8 0, .int .u8 0, .slice none 0 0] rfl
  rw [hg8]
  refine wpList_store_part rfl 31 _ _ rfl g8 0 (.agg (B7).toArray) (B7) rfl rfl rfl 31 [] zBk [] kt rfl (by rw [HF7.out.len]; rfl) HF7.out.size HF7.out.one ?_
  intro w8 hp
  have hbn : Below w7.heap.size w7 w8 := hbn.grown hp.only hbn.size (fun q hq => by injection hq with hq; omega)
  have HA8 : Hid (Bk w8 g8 31 (B7)) := by show Bk _ _ _ _; have := hp.bk; simpa using this
  clear hp kt
  clear hg8
  have HO8 := Lib.hid (HO7.out.later hbn); have HV8 := Lib.hid (own_keep HV7.out hbn); have HU8 := Lib.hid (own_keep HU7.out hbn)
  have HBB8 := Lib.hid (below_then HBB7.out hbn)
  have HS8 := Lib.hid (HS7.out.later hbn)
  clear hbn
  clear HS7 HO7 HV7 HU7
  go_wp2_with fail
  refine (HD2.out w8 HS8.out).mono ?_
  rintro e w9 ⟨v9, ys9, rfl, hown, _, _, _, hbn⟩
  obtain ⟨A9, c9, rfl⟩ := own_form hown.own
  have HP9 := Lib.hid hown
  have HO9 := Lib.hid (HO8.out.later hbn); have HV9 := Lib.hid (own_keep HV8.out hbn); have HU9 := Lib.hid (own_keep HU8.out hbn)
  have HBB9 := Lib.hid (below_then HBB8.out hbn)
  have HA9 := Lib.hid (HA8.out.later hbn)
  clear hbn
  clear hown HS8 HO8 HV8 HU8 HA8 HD2
  have HSM : Hid (∀ w' (A' : Option Addr) (C' : Nat), Txs w' A' L2.length ys7 → Txs w' A9 L2.length ys9 → Calls Tryz.prog 30 #[.agg (bkC P2 h2 m2 (.slice A' L2.length C')).toArray, .agg (bkC P2 h2 m2 (.slice A9 L2.length c9)).toArray] w' fun e w'' => e = .returned (.bool true) ∧ Below w'.heap.size w' w'') := fun w' A' C' hx' hy' => by
    have := rbSame_any w' P2 h2 m2 HPO2.out HMO2.out A' L2.length C' ys7 hx' P2 h2 m2 HPO2.out HMO2.out A9 L2.length c9 ys9 hy'
    rw [HO9.out.map, HP9.out.map, sameB_reflE] at this
    exact this
  obtain ⟨B9, hB9⟩ : ∃ x, bkC P2 h2 m2 (.slice A9 L2.length c9) = x := ⟨_, rfl⟩
  have HF9 : Hid (BkFit B9) := hB9 ▸ bk_fit HPO2.out HMO2.out
  rw [hB9] at HSM ⊢
  clear hB9
  go_wp2_with (with_reducible refine stop_store 25 _ _ rfl ?_)
  refine StopD.go ?_
  obtain ⟨g10, hg10⟩ : ∃ g, w9.heap.size = g := ⟨_, rfl⟩
  have hbn : Below w9.heap.size w9 (w9.alloc (.cells #[.int .u8 0, .int .u8 0, .int .u8 0, .int .u8 0, .int .u8 0, .int .u8 0, .int .u8 0, .int .u8 0, .int .i64 0, .int .u8 0, .int .u8 0, .int .u8 0, .int .u8 0, .int .u8 0, .int .u8 0, .int .u8 0, .int .u8 0, .slice none 0 0] 25)) := below_new w9 _
  have kt : Bk (w9.alloc (.cells #[.int .u8 0, .int .u8 0, .int .u8 0, .int .u8 0, .int .u8 0, .int .u8 0, .int .u8 0, .int .u8 0, .int .i64 0, .int .u8 0, .int .u8 0, .int .u8 0, .int .u8 0, .int .u8 0, .int .u8 0, .int .u8 0, .int .u8 0, .slice none 0 0] 25)) g10 25 ([] ++ (zBk ++ [])) := by rw [← hg10]; exact Bk.new' w9 _ #[.int .u8 0, .int .u8 0, .int .u8 0, .int .u8 0, .int .u8 0, .int .u8 0, .int .u8 0, .int .u8 0, .int .i64 0, .int .u8 0, .int .u8 0, .int .u8 0, .int .u8 0, .int .u8 0, .int .u8 0, .int .u8 0, .int .u8 0, .slice none 0 0] rfl
  rw [hg10]
  refine wpList_store_part rfl 25 _ _ rfl g10 0 (.agg (B9).toArray) (B9) rfl rfl rfl 25 [] zBk [] kt rfl (by rw [HF9.out.len]; rfl) HF9.out.rsize HF9.out.one ?_
  intro w10 hp
  have hbn : Below w9.heap.size w9 w10 := hbn.grown hp.only hbn.size (fun q hq => by injection hq with hq; omega)
  have HC10 : Hid (Bk w10 g10 25 (B9)) := by show Bk _ _ _ _; have := hp.bk; simpa using this
  clear hp kt
  clear hg10
  have HO10 := Lib.hid (HO9.out.later hbn); have HP10 := Lib.hid (HP9.out.later hbn); have HV10 := Lib.hid (own_keep HV9.out hbn); have HU10 := Lib.hid (own_keep HU9.out hbn)
  have HBB10 := Lib.hid (below_then HBB9.out hbn)
  have HA10 := Lib.hid (HA9.out.later hbn)
  clear hbn
  clear HA9 HO9 HP9 HV9 HU9
  go_wp2_with fail
  obtain ⟨W, hW⟩ : ∃ W, w10.heap.size = W := ⟨_, rfl⟩
  have hsv : Sl w10 W 1 A6 T.length (T.map (.int .u8)) := by rw [← hW]; exact Sl.of_own HV10.out
  have hsu : Sl w10 W 1 A5' T.length (T.map (.int .u8)) := by rw [← hW]; exact Sl.of_own HU10.out
  obtain ⟨st, hst⟩ : ∃ s, strOf T = s := ⟨_, rfl⟩
  have HC5 : Hid (∀ w', Sl w' W 1 A5' T.length (T.map (.int .u8)) → (convert 60 9 (.slice A5' T.length c5')).run Tryz.prog w' = .ok (.string st) w') := fun w' h => by rw [← hst]; exact conv_any w' W A5' T.length c5' T h
  have HC6 : Hid (∀ w', Sl w' W 1 A6 T.length (T.map (.int .u8)) → (convert 60 9 (.slice A6 T.length c6)).run Tryz.prog w' = .ok (.string st) w') := fun w' h => by rw [← hst]; exact conv_any w' W A6 T.length c6 T h
  have hss : (st.toList == st.toList) = true := by simp
  have HSV := Lib.hid hsv; have HSU := Lib.hid hsu; have HWW : Hid (W ≤ w10.heap.size) := Nat.le_of_eq hW.symm
  clear hst hsv hsu hW
  refine wp_region_held_drew (S := fun w' => Bk w' g8 31 B7 ∧ Bk w' g10 25 B9 ∧ Sl w' W 1 A5' T.length (T.map (.int .u8)) ∧ Sl w' W 1 A6 T.length (T.map (.int .u8))) (by kernel_rfl) ⟨Bk.drew HA10.out, Bk.drew HC10.out, HSU.out.below ((below_draws w10 _ 1).mono HWW.out), HSV.out.below ((below_draws w10 _ 1).mono HWW.out)⟩ (fun hHeld => ?_)
  have hbn : Below w10.heap.size w10 w10.drew := below_draws w10 w10.heap.size 1
  obtain ⟨w11, hw11⟩ : ∃ x, w10.drew = x := ⟨_, rfl⟩
  rw [hw11] at hbn hHeld ⊢
  have HO11 := Lib.hid (HO10.out.later hbn); have HP11 := Lib.hid (HP10.out.later hbn); have HU11 := Lib.hid (HSU.out.below (hbn.mono HWW.out)); have HV11 := Lib.hid (HSV.out.below (hbn.mono HWW.out)); have HW11 : Hid (W ≤ w11.heap.size) := Nat.le_trans HWW.out hbn.size
  have HBB11 := Lib.hid (below_then HBB10.out hbn)
  have HA11 := Lib.hid (HA10.out.later hbn)
  have HC11 := Lib.hid (HC10.out.later hbn)
  clear hbn
  clear hw11 HA10 HC10 HO10 HP10 HSU HSV HU10 HV10
  refine wpAnyH_take (i := 0) (v := ?_) rfl (by kernel_rfl) (by kernel_rfl) (by kernel_rfl) (fun _ _ _ h => h) (Or.inl ⟨by rfl, ?_⟩) (by assumption) ?_
  rotate_left
  · intro w hSw
    (try dsimp only at hSw)
    go_simp
    try with_reducible rfl
  try simp only [Act.put, List.setIfInBounds_toArray, List.set_cons_zero, List.set_cons_succ, List.getElem_toArray, List.getElem_cons_zero, List.getElem_cons_succ]
  refine wpAnyH_take (i := 2) (v := ?_) rfl (by kernel_rfl) (by kernel_rfl) (by kernel_rfl) (fun _ _ _ h => h) (Or.inl ⟨by rfl, ?_⟩) (by assumption) ?_
  rotate_left
  · intro w hSw
    (try dsimp only at hSw)
    go_simp
    try with_reducible rfl
  try simp only [Act.put, List.setIfInBounds_toArray, List.set_cons_zero, List.set_cons_succ, List.getElem_toArray, List.getElem_cons_zero, List.getElem_cons_succ]
  refine wpAnyH_take (i := 1) (v := ?_) rfl (by kernel_rfl) (by kernel_rfl) (by kernel_rfl) (fun _ _ _ h => h) (Or.inl ⟨by rfl, ?_⟩) (by assumption) ?_
  rotate_left
  · intro w hSw
    have hcell := (HC5.out w hSw.2.2.1)
    clear hSw
    go_simp
    try with_reducible rfl
  try simp only [Act.put, List.setIfInBounds_toArray, List.set_cons_zero, List.set_cons_succ, List.getElem_toArray, List.getElem_cons_zero, List.getElem_cons_succ]
  refine wpAnyH_take (i := 3) (v := ?_) rfl (by kernel_rfl) (by kernel_rfl) (by kernel_rfl) (fun _ _ _ h => h) (Or.inl ⟨by rfl, ?_⟩) (by assumption) ?_
  rotate_left
  · intro w hSw
    have hcell := (HC6.out w hSw.2.2.2)
    clear hSw
    go_simp
    try with_reducible rfl
  try simp only [Act.put, List.setIfInBounds_toArray, List.set_cons_zero, List.set_cons_succ, List.getElem_toArray, List.getElem_cons_zero, List.getElem_cons_succ]
  refine wpAnyH_take (i := 4) (v := ?_) rfl (by kernel_rfl) (by kernel_rfl) (by kernel_rfl) (fun _ _ _ h => h) (Or.inl ⟨by rfl, ?_⟩) (by assumption) ?_
  rotate_left
  · intro w hSw
    (try dsimp only at hSw)
    go_simp
    try with_reducible rfl
  try simp only [Act.put, List.setIfInBounds_toArray, List.set_cons_zero, List.set_cons_succ, List.getElem_toArray, List.getElem_cons_zero, List.getElem_cons_succ]
  refine wpAnyH_take (i := 5) (v := ?_) rfl (by kernel_rfl) (by kernel_rfl) (by kernel_rfl) (fun _ _ _ h => h) (Or.inl ⟨by rfl, ?_⟩) (by assumption) ?_
  rotate_left
  · intro w hSw
    (try dsimp only at hSw)
    go_simp
    try with_reducible rfl
  try simp only [Act.put, List.setIfInBounds_toArray, List.set_cons_zero, List.set_cons_succ, List.getElem_toArray, List.getElem_cons_zero, List.getElem_cons_succ]
  refine wpAnyH_take (i := 6) (v := ?_) rfl (by kernel_rfl) (by kernel_rfl) (by kernel_rfl) (fun _ _ _ h => h) (Or.inl ⟨by rfl, ?_⟩) (by assumption) ?_
  rotate_left
  · intro w hSw
    (try dsimp only at hSw)
    go_simp
    try with_reducible rfl
  try simp only [Act.put, List.setIfInBounds_toArray, List.set_cons_zero, List.set_cons_succ, List.getElem_toArray, List.getElem_cons_zero, List.getElem_cons_succ]
  refine wpAnyH_take (i := 7) (v := ?_) rfl (by kernel_rfl) (by kernel_rfl) (by kernel_rfl) (fun _ _ _ h => h) (Or.inl ⟨by rfl, ?_⟩) (by assumption) ?_
  rotate_left
  · intro w hSw
    (try dsimp only at hSw)
    go_simp
    try with_reducible rfl
  try simp only [Act.put, List.setIfInBounds_toArray, List.set_cons_zero, List.set_cons_succ, List.getElem_toArray, List.getElem_cons_zero, List.getElem_cons_succ]
  refine wpAnyH_take (i := 8) (v := ?_) rfl (by kernel_rfl) (by kernel_rfl) (by kernel_rfl) (fun _ _ _ h => h) (Or.inl ⟨by rfl, ?_⟩) (by assumption) ?_
  rotate_left
  · intro w hSw
    (try dsimp only at hSw)
    go_simp
    try with_reducible rfl
  try simp only [Act.put, List.setIfInBounds_toArray, List.set_cons_zero, List.set_cons_succ, List.getElem_toArray, List.getElem_cons_zero, List.getElem_cons_succ]
  refine wpAnyH_take (i := 9) (v := ?_) rfl (by kernel_rfl) (by kernel_rfl) (by kernel_rfl) (fun _ _ _ h => h) (Or.inl ⟨by rfl, ?_⟩) (by assumption) ?_
  rotate_left
  · intro w hSw
    (try dsimp only at hSw)
    go_simp
    try with_reducible rfl
  try simp only [Act.put, List.setIfInBounds_toArray, List.set_cons_zero, List.set_cons_succ, List.getElem_toArray, List.getElem_cons_zero, List.getElem_cons_succ]
  refine wpAnyH_take (i := 10) (v := ?_) rfl (by kernel_rfl) (by kernel_rfl) (by kernel_rfl) (fun _ _ _ h => h) (Or.inl ⟨by rfl, ?_⟩) (by assumption) ?_
  rotate_left
  · intro w hSw
    (try dsimp only at hSw)
    go_simp
    try with_reducible rfl
  try simp only [Act.put, List.setIfInBounds_toArray, List.set_cons_zero, List.set_cons_succ, List.getElem_toArray, List.getElem_cons_zero, List.getElem_cons_succ]
  refine wpAnyH_take (i := 11) (v := .agg (List.toArray (B7))) rfl (by kernel_rfl) (by kernel_rfl) (by kernel_rfl) (fun _ _ _ h => h) (yieldsIf_load_mid (by rfl) _ _ rfl _ _ rfl (B7) _ (fun w hSw => (Bk.range (pre := []) (post := []) (by simpa using hSw.1) rfl)) Tryz.underlying31 rfl (HF7.out.size)) (by assumption) ?_
  try simp only [Act.put, List.setIfInBounds_toArray, List.set_cons_zero, List.set_cons_succ, List.getElem_toArray, List.getElem_cons_zero, List.getElem_cons_succ]
  refine wpAnyH_take (i := 13) (v := .agg (List.toArray (B9))) rfl (by kernel_rfl) (by kernel_rfl) (by kernel_rfl) (fun _ _ _ h => h) (yieldsIf_load_mid (by rfl) _ _ rfl _ _ rfl (B9) _ (fun w hSw => (Bk.range (pre := []) (post := []) (by simpa using hSw.2.1) rfl)) Tryz.underlying25 rfl (HF9.out.rsize)) (by assumption) ?_
  try simp only [Act.put, List.setIfInBounds_toArray, List.set_cons_zero, List.set_cons_succ, List.getElem_toArray, List.getElem_cons_zero, List.getElem_cons_succ]
  refine wpAnyH_ready (rs := [12]) (by kernel_rfl) (by simp) ?_
  refine AllReadyH.cons rfl (fun K hK => ?_) AllReadyH.nil
  go_simp
  (refine (HTO.out w11 HO11.out.txs).mono ?_; rintro e w12 ⟨⟨v12, rfl, hown⟩, hbn⟩; obtain ⟨A12, c12, rfl⟩ := own_form hown; have HX12 : Hid (Txs w12 A12 L2.length ys7) := ⟨Sl.of_own hown, fun x hx => (HO11.out.txs.th x hx).later hbn⟩; have HP12 := Lib.hid (HP11.out.later hbn); have HU12 := Lib.hid (HU11.out.below (hbn.mono HW11.out)); have HV12 := Lib.hid (HV11.out.below (hbn.mono HW11.out)); have HW12 : Hid (W ≤ w12.heap.size) := Nat.le_trans HW11.out hbn.size; clear hown; have HBB12 := Lib.hid (below_then HBB11.out hbn); have HA12 := Lib.hid (HA11.out.later hbn); have HC12 := Lib.hid (HC11.out.later hbn); clear hbn; clear HA11 HC11 HP11 HU11 HV11 HO11)
  refine hK.out _ _ (⟨HA12.out, HC12.out, HU12.out, HV12.out⟩) (fun hHeld => ?_)
  clear hK K
  try simp only [Act.put, List.setIfInBounds_toArray, List.set_cons_zero, List.set_cons_succ, List.getElem_toArray, List.getElem_cons_zero, List.getElem_cons_succ]
  refine wpAnyH_ready (rs := [14]) (by kernel_rfl) (by simp) ?_
  refine AllReadyH.cons rfl (fun K hK => ?_) AllReadyH.nil
  go_simp
  (refine (HSM.out w12 A12 c12 HX12.out HP12.out.txs).mono ?_; rintro e w13 ⟨rfl, hbn⟩; have HU13 := Lib.hid (HU12.out.below (hbn.mono HW12.out)); have HV13 := Lib.hid (HV12.out.below (hbn.mono HW12.out)); have HBB13 := Lib.hid (below_then HBB12.out hbn); have HA13 := Lib.hid (HA12.out.later hbn); have HC13 := Lib.hid (HC12.out.later hbn); clear hbn; clear HA12 HC12 HP12 HU12 HV12 HX12)
  refine hK.out _ _ (⟨HA13.out, HC13.out, HU13.out, HV13.out⟩) (fun hHeld => ?_)
  clear hK K
  try simp only [Act.put, List.setIfInBounds_toArray, List.set_cons_zero, List.set_cons_succ, List.getElem_toArray, List.getElem_cons_zero, List.getElem_cons_succ]
  refine wpAnyH_take (i := 15) (v := ?_) rfl (by kernel_rfl) (by kernel_rfl) (by kernel_rfl) (fun _ _ _ h => h) (Or.inl ⟨by rfl, ?_⟩) (by assumption) ?_
  rotate_left
  · intro w hSw
    (try dsimp only at hSw)
    go_simp
    try with_reducible rfl
  try simp only [Act.put, List.setIfInBounds_toArray, List.set_cons_zero, List.set_cons_succ, List.getElem_toArray, List.getElem_cons_zero, List.getElem_cons_succ]
  refine wpAnyH_take (i := 16) (v := ?_) rfl (by kernel_rfl) (by kernel_rfl) (by kernel_rfl) (fun _ _ _ h => h) (Or.inl ⟨by rfl, ?_⟩) (by assumption) ?_
  rotate_left
  · intro w hSw
    (try dsimp only at hSw)
    go_simp
    try with_reducible rfl
  try simp only [Act.put, List.setIfInBounds_toArray, List.set_cons_zero, List.set_cons_succ, List.getElem_toArray, List.getElem_cons_zero, List.getElem_cons_succ]
  refine wpAnyH_take (i := 17) (v := ?_) rfl (by kernel_rfl) (by kernel_rfl) (by kernel_rfl) (fun _ _ _ h => h) (Or.inl ⟨by rfl, ?_⟩) (by assumption) ?_
  rotate_left
  · intro w hSw
    (try dsimp only at hSw)
    go_simp
    try with_reducible rfl
  try simp only [Act.put, List.setIfInBounds_toArray, List.set_cons_zero, List.set_cons_succ, List.getElem_toArray, List.getElem_cons_zero, List.getElem_cons_succ]
  refine wpAnyH_take (i := 18) (v := ?_) rfl (by kernel_rfl) (by kernel_rfl) (by kernel_rfl) (fun _ _ _ h => h) (Or.inl ⟨by rfl, ?_⟩) (by assumption) ?_
  rotate_left
  · intro w hSw
    (try dsimp only at hSw)
    go_simp
    try with_reducible rfl
  try simp only [Act.put, List.setIfInBounds_toArray, List.set_cons_zero, List.set_cons_succ, List.getElem_toArray, List.getElem_cons_zero, List.getElem_cons_succ]
  refine wpAnyH_take (i := 19) (v := ?_) rfl (by kernel_rfl) (by kernel_rfl) (by kernel_rfl) (fun _ _ _ h => h) (Or.inl ⟨by rfl, ?_⟩) (by assumption) ?_
  rotate_left
  · intro w hSw
    (try dsimp only at hSw)
    go_simp
    try with_reducible rfl
  try simp only [Act.put, List.setIfInBounds_toArray, List.set_cons_zero, List.set_cons_succ, List.getElem_toArray, List.getElem_cons_zero, List.getElem_cons_succ]
  refine wpAnyH_take (i := 20) (v := ?_) rfl (by kernel_rfl) (by kernel_rfl) (by kernel_rfl) (fun _ _ _ h => h) (Or.inl ⟨by rfl, ?_⟩) (by assumption) ?_
  rotate_left
  · intro w hSw
    (try dsimp only at hSw)
    go_simp
    try with_reducible rfl
  try simp only [Act.put, List.setIfInBounds_toArray, List.set_cons_zero, List.set_cons_succ, List.getElem_toArray, List.getElem_cons_zero, List.getElem_cons_succ]
  refine wpAnyH_take (i := 21) (v := ?_) rfl (by kernel_rfl) (by kernel_rfl) (by kernel_rfl) (fun _ _ _ h => h) (Or.inl ⟨by rfl, ?_⟩) (by assumption) ?_
  rotate_left
  · intro w hSw
    (try dsimp only at hSw)
    go_simp
    try with_reducible rfl
  try simp only [Act.put, List.setIfInBounds_toArray, List.set_cons_zero, List.set_cons_succ, List.getElem_toArray, List.getElem_cons_zero, List.getElem_cons_succ]
  refine wpAnyH_done rfl ?_ _
  go_wp2_with fail
  go_ret
  exact ⟨rfl, HBB13.out⟩
end Go.Proofs.YtbpmomedhdmloaaGreatDoor
