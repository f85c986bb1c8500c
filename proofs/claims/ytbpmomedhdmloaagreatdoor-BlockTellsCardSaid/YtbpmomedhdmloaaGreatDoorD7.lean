/- The document's name of a block, and one above another. -/
import Derived.Test.YtbpmomedhdmloaaGreatDoorD6
namespace Go.Proofs.YtbpmomedhdmloaaGreatDoor
set_option linter.unusedSimpArgs false
set_option linter.unusedVariables false
open Go.RowKit Go.Maps

set_option maxRecDepth 20000 in
set_option maxHeartbeats 8000000 in
theorem rbname_any (w : World) (p : List Int) (h : Int) (m : List Int) (hp : DgOk p) (hm : DgOk m) (A : Option Addr) (N C : Nat) (xs : List (List Value × TxT)) (hx : Txs w A N xs) (hN1 : N ≤ 1000) (hl1 : ∀ x ∈ xs, x.2.b.length ≤ 1073741000 ∧ x.2.s.length ≤ 1073741000) :
    Calls Tryz.prog 10 #[.agg (bkC p h m (.slice A N C)).toArray] w fun e w' => e = .returned (.tuple #[.agg (dl (nameT p h m N (xs.map (·.2)))).toArray, .int .i64 (blkE h (xs.map (·.2)))]) ∧ Below w.heap.size w w' := by
  have HRE := Lib.hid (fun (w' : World) (hx' : Txs w' A N xs) => rbroot_any w' p h m hp hm A N C xs hx' hN1 hl1)
  have HBS := Lib.hid (rblk_sz (h := h) (s := .slice A N C) hp hm)
  have HHD := Lib.hid (fun (w' : World) (h0 : 0 ≤ h) (h1 : h ≤ 1099511627776) (hN : N ≤ 1000) => rhead26_any w' p h m hp hm A N C h0 h1 hN)
  have HHO := Lib.hid (fun (hh : h ≤ 1099511627776) (hN : N ≤ 1000) => headB_ok (h := h) (N := N) hp hm hh hN)
  obtain ⟨R, hR⟩ : ∃ R, rootT h (xs.map (·.2)) = R := ⟨_, rfl⟩
  have HRO : Hid (DgOk R) := by show DgOk R; rw [← hR]; exact rootT_ok _ _
  rw [nameT]
  rw [hR] at HRE ⊢
  have HNO := Lib.hid (nameI_ok p h m N R (blkE h (xs.map (·.2))))
  clear hR hN1 hl1
  obtain ⟨l, hl⟩ : ∃ x, bkC p h m (.slice A N C) = x := ⟨_, rfl⟩
  obtain ⟨X, hX⟩ : ∃ X, l.toArray = X := ⟨_, rfl⟩
  obtain ⟨z, hz⟩ : ∃ z, w.heap.size = z := ⟨_, rfl⟩
  obtain ⟨w1, hw1⟩ : ∃ w1, (w.alloc (.cells X 25)).alloc (.cells #[.int .u8 0, .int .u8 0, .int .u8 0, .int .u8 0, .int .u8 0, .int .u8 0, .int .u8 0, .int .u8 0] 22) = w1 := ⟨_, rfl⟩
  have hb1 : Below w.heap.size w w1 := hw1 ▸ (below_new w _).alloc (by simp) _
  have kx : Bk w1 z 25 l := hw1 ▸ (Bk.at_ w _ X hz (by rw [← hX])).alloc _
  have kr : Bk w1 (z + 1) 22 ([] ++ (dl zeroD ++ [])) := hw1 ▸ Bk.at_ _ _ #[.int .u8 0, .int .u8 0, .int .u8 0, .int .u8 0, .int .u8 0, .int .u8 0, .int .u8 0, .int .u8 0] (by simp [hz]) rfl
  have HM : Hid (∀ w' g', Bk w' g' 25 l → BkcM w' g' p h m (.slice A N C)) := fun w' g' h' => by rw [← hl] at h'; exact bkc_mem hp hm h'
  have HW := Lib.hid hw1; have HB1 := Lib.hid hb1; have HZ := Lib.hid hz; have HK1 := Lib.hid kx; have HR1 := Lib.hid kr; have HPO := Lib.hid hp; have HMO := Lib.hid hm; have HXE := Lib.hid hX; have HLE := Lib.hid hl
  have HX1 := Lib.hid (hx.later hb1); have HLN := Lib.hid hx.length
  rw [hl, hX]
  clear hl hX hw1 hb1 kx kr hz hp hm hx
  rw [HLE.out] at HBS HRE HHD
  rw [HXE.out] at HRE HHD
  obtain ⟨L, hL⟩ : ∃ L, xs.map (·.2) = L := ⟨_, rfl⟩
  rw [hL] at HRE HNO ⊢
  obtain ⟨E, hE⟩ : ∃ E, blkE h L = E := ⟨_, rfl⟩
  rw [hE] at HRE HNO ⊢
  have HE := Lib.hid hE; have HL := Lib.hid hL
  have HT0 : Hid (nameI p h m N R E = if E = 0 then wordI (ofI (headB p h m N ++ numB (numN R))) txtBlock else zeroD) := by show _ = _; rfl
  obtain ⟨T, hT⟩ : ∃ T, nameI p h m N R E = T := ⟨_, rfl⟩
  rw [hT] at HNO HT0 ⊢
  clear hL hE hT
  go_enter Tryz.func10, Tryz.ntmps10
  go_upto_region 1 with fail
  rw [HW.out, HZ.out]
  go_wp2_with (with_reducible refine wpList_load_bk rfl 25 _ rfl z rfl l 25 HK1.out _ Tryz.underlying25 rfl HBS.out ?_)
  rw [HXE.out]
  refine (HRE.out w1 HX1.out).mono ?_
  rintro e w2 ⟨rfl, hbn⟩
  have HB2 := Lib.hid (below_then HB1.out hbn); have HK2 := Lib.hid (HK1.out.later hbn); have HR2 := Lib.hid (HR1.out.later hbn)
  clear hbn HK1 HR1
  go_wp2_with (with_reducible refine stop_store 22 _ _ rfl ?_)
  have hz2 := HR2.out.lt
  refine StopD.go ?_
  obtain ⟨g4, hg4⟩ : ∃ g, w2.heap.size = g := ⟨_, rfl⟩
  have hbn : Below w2.heap.size w2 (w2.alloc (.cells #[.int .u8 0, .int .u8 0, .int .u8 0, .int .u8 0, .int .u8 0, .int .u8 0, .int .u8 0, .int .u8 0] 22)) := below_new w2 _
  have kt : Bk (w2.alloc (.cells #[.int .u8 0, .int .u8 0, .int .u8 0, .int .u8 0, .int .u8 0, .int .u8 0, .int .u8 0, .int .u8 0] 22)) g4 22 ([] ++ (dl zeroD ++ [])) := by rw [← hg4]; exact Bk.new' w2 _ #[.int .u8 0, .int .u8 0, .int .u8 0, .int .u8 0, .int .u8 0, .int .u8 0, .int .u8 0, .int .u8 0] rfl
  rw [hg4]
  refine wpList_store_part rfl 22 _ _ rfl g4 0 (.agg (dl R).toArray) (dl R) rfl rfl rfl 22 [] (dl zeroD) [] kt rfl (dg_lensd HRO.out) (rdg_szd HRO.out) (dl_one' _) ?_
  intro w4 hp
  have hbn : Below w2.heap.size w2 w4 := hbn.grown hp.only hbn.size (fun q hq => by injection hq with hq; omega)
  have HT4 : Hid (Bk w4 g4 22 (dl R)) := by show Bk _ _ _ _; have := hp.bk; simpa using this
  clear hp kt
  have HGR : Hid (z + 1 < g4) := by show z + 1 < g4; omega
  clear hg4 hz2
  have HB4 := Lib.hid (below_then HB2.out hbn); have HK4 := Lib.hid (HK2.out.later hbn); have HR4 := Lib.hid (HR2.out.later hbn)
  clear hbn HK2 HR2
  by_cases hE0 : E = 0
  · subst hE0
    have hz := blkE_zero HE.out
    have hN : N ≤ 1000 := by have := hz.2.1; rw [← HL.out, List.length_map, HLN.out] at this; omega
    have hh0 : 0 ≤ h := by have := hz.1; omega
    have hh1 : h ≤ 1099511627776 := by have := hz.1; omega
    have HHC := Lib.hid (fun w' => HHD.out w' hh0 hh1 hN)
    have HHB := Lib.hid (HHO.out hh1 hN)
    have hTT : T = wordI (ofI (headB p h m N ++ numB (numN R))) txtBlock := by have := HT0.out; rwa [if_pos rfl] at this
    have HBL := Lib.hid (headB_len p h m N)
    have N4 := Lib.hid (fun w' => rNum_any w' (numN R) (numN_lt HRO.out))
    have D4 : Hid (∀ w', Calls Tryz.prog 42 #[.agg (dl R).toArray] w' fun e w'' => e = .returned (.int .u64 ((numN R : Nat) : Int)) ∧ Below w'.heap.size w' w'') := fun w' => rnum_anyb HRO.out w'
    have HNB : Hid (ByOk (numB (numN R))) := numB_ok (numN_lt HRO.out)
    obtain ⟨k1, hk1⟩ : ∃ k, numN R = k := ⟨_, rfl⟩
    rw [hk1] at N4 D4 hTT HNB
    obtain ⟨x2, hx2⟩ : ∃ x, numB k1 = x := ⟨_, rfl⟩
    have L2 : Hid (x2.length ≤ 10) := by show _ ≤ 10; rw [← hx2]; exact numB_le _
    obtain ⟨x1, hH⟩ : ∃ H, headB p h m N = H := ⟨_, rfl⟩
    rw [hx2] at N4 hTT HNB
    rw [hH] at HHC HHB hTT HBL
    have HTT := Lib.hid hTT
    have HRQ : Hid (RyS 25 w w4 z l (.slice none 0 0) []) := ⟨HK4.out, World.ownsRow_nil _ _ _ _, HB4.out⟩
    clear hz hh0 hh1 hTT hH HHD HHO HT0 hk1 hx2 HK4 HB4
    go_wp2_with fail
    refine wp_region_held_drew (S := fun w' => Bk w' z 25 l ∧ Bk w' g4 22 (dl R)) (by kernel_rfl) ⟨Bk.drew HRQ.out.lk, Bk.drew HT4.out⟩ (fun hHeld => ?_)
    have hbd : Below w4.heap.size w4 w4.drew := below_draws w4 w4.heap.size 1
    obtain ⟨wa, hwa⟩ : ∃ wa, w4.drew = wa := ⟨_, rfl⟩
    rw [hwa] at hbd hHeld ⊢
    have HRa := Lib.hid (HRQ.out.later hbd); have HQa := Lib.hid (HR4.out.later hbd); have HTa := Lib.hid (HT4.out.later hbd)
    clear hwa hbd HRQ HR4 HT4
    refine wpAnyH_take (i := 0) (v := .agg (List.toArray (l))) rfl (by kernel_rfl) (by kernel_rfl) (by kernel_rfl) (fun _ _ _ h => h) (yieldsIf_load_mid (by rfl) _ _ rfl _ _ rfl (l) _ (fun w hSw => (Bk.range (pre := []) (post := []) (by simpa using hSw.1) rfl)) Tryz.underlying25 rfl (HBS.out)) (by assumption) ?_
    try simp only [Act.put, List.setIfInBounds_toArray, List.set_cons_zero, List.set_cons_succ, List.getElem_toArray, List.getElem_cons_zero, List.getElem_cons_succ]
    refine wpAnyH_take (i := 2) (v := .agg (List.toArray (dl R))) rfl (by kernel_rfl) (by kernel_rfl) (by kernel_rfl) (fun _ _ _ h => h) (yieldsIf_load_mid (by rfl) _ _ rfl _ _ rfl (dl R) _ (fun w hSw => (Bk.range (pre := []) (post := []) (by simpa using hSw.2) rfl)) Tryz.underlying22 rfl (rdg_szd HRO.out)) (by assumption) ?_
    try simp only [Act.put, List.setIfInBounds_toArray, List.set_cons_zero, List.set_cons_succ, List.getElem_toArray, List.getElem_cons_zero, List.getElem_cons_succ]
    refine wpAnyH_ready (rs := [1]) (by kernel_rfl) (by simp) ?_
    refine AllReadyH.cons rfl (fun K hK => ?_) AllReadyH.nil
    go_simp
    (rw [HXE.out]; refine (HHC.out wa).mono ?_; rintro e wb ⟨v1, rfl, hown⟩; have HRb : Hid (RyS 25 w wb z l v1 x1) := ⟨(HRa.out.later hown.2).lk, own_base hown.1 HRa.out.hb.size, (HRa.out.later hown.2).hb⟩; have HQb := Lib.hid (HQa.out.later hown.2); have HTb := Lib.hid (HTa.out.later hown.2); clear hown HRa HQa HTa)
    refine hK.out _ _ (⟨HRb.out.lk, HTb.out⟩) (fun hHeld => ?_)
    clear hK K
    try simp only [Act.put, List.setIfInBounds_toArray, List.set_cons_zero, List.set_cons_succ, List.getElem_toArray, List.getElem_cons_zero, List.getElem_cons_succ]
    obtain ⟨A2, c2, hv2⟩ := HRb.out.form
    subst hv2
    refine wpAnyH_ready (rs := [3]) (by kernel_rfl) (by simp) ?_
    refine AllReadyH.cons rfl (fun K hK => ?_) AllReadyH.nil
    go_simp
    (refine (D4.out wb).mono ?_; rintro e wc ⟨rfl, hbn⟩; have HRc := Lib.hid (HRb.out.later hbn); have HQc := Lib.hid (HQb.out.later hbn); have HTc := Lib.hid (HTb.out.later hbn); clear hbn HRb HQb HTb)
    refine hK.out _ _ (⟨HRc.out.lk, HTc.out⟩) (fun hHeld => ?_)
    clear hK K
    try simp only [Act.put, List.setIfInBounds_toArray, List.set_cons_zero, List.set_cons_succ, List.getElem_toArray, List.getElem_cons_zero, List.getElem_cons_succ]
    refine wpAnyH_ready (rs := [4]) (by kernel_rfl) (by simp) ?_
    refine AllReadyH.cons rfl (fun K hK => ?_) AllReadyH.nil
    go_simp
    (refine (N4.out wc).mono ?_; rintro e wd ⟨v3, rfl, hown⟩; obtain ⟨A3, c3, rfl⟩ := hown.form; have HRd := Lib.hid (HRc.out.later hown.2); have HPd := Lib.hid hown.1; have HQd := Lib.hid (HQc.out.later hown.2); have HTd := Lib.hid (HTc.out.later hown.2); clear hown HRc HQc HTc)
    refine hK.out _ _ (⟨HRd.out.lk, HTd.out⟩) (fun hHeld => ?_)
    clear hK K
    try simp only [Act.put, List.setIfInBounds_toArray, List.set_cons_zero, List.set_cons_succ, List.getElem_toArray, List.getElem_cons_zero, List.getElem_cons_succ]
    refine wpAnyH_ready (rs := [5]) (by kernel_rfl) (by simp) ?_
    refine AllReadyH.cons rfl (fun K hK => ?_) AllReadyH.nil
    rw [if_pos (by rfl)]
    obtain ⟨i0, hi, hi0, hi1, hi2⟩ := info_parts Tryz.infoU8
    refine wp_app _ (.tmp 16) (.tmp 19) 60 rfl w.heap.size 5 i0 (.int .u8 0) 1 1 Tryz.underlying60 hi hi0 hi1 hi2 rfl (by decide) _ _ _ rfl HRd.out.ro _ _ _ _ _ rfl (Sl.of_own HPd.out) (ints_one _ _) (by unfold maxLen; have := HBL.out; have := L2.out; omega) (by have := HBL.out; have := L2.out; omega) HRd.out.hb.size ?_
    intro v9 we hown hg hat
    have HRe := Lib.hid (RyS.app (by decide) HRd.out hown hg)
    have HTe : Hid (Bk we g4 22 (dl R)) := HTd.out.grown hg (Ne.symm (own_bk_ne HRd.out.ro HTd.out (by decide)))
    have HQe : Hid (Bk we (z + 1) 22 ([] ++ (dl zeroD ++ []))) := HQd.out.grown hg (Ne.symm (own_bk_ne HRd.out.ro HQd.out (by decide)))
    clear hown hg hat hi hi0 hi1 hi2 i0
    refine hK.out _ _ ⟨HRe.out.lk, HTe.out⟩ (fun hHeld => ?_)
    clear hK K
    try simp only [Act.put, List.setIfInBounds_toArray, List.set_cons_zero, List.set_cons_succ, List.getElem_toArray, List.getElem_cons_zero, List.getElem_cons_succ]
    clear HRd HPd HQd HTd
    obtain ⟨t5, ht5⟩ : ∃ t, x1 ++ x2 = t := ⟨_, rfl⟩
    have HT5L : Hid (t5.length ≤ 50) := by show _ ≤ 50; rw [← ht5, List.length_append]; have := HBL.out; have := L2.out; omega
    have HT5B : Hid (ByOk t5) := by show ByOk _; rw [← ht5]; exact byOk_app HHB.out HNB.out
    rw [ht5] at HRe HTT
    clear ht5
    obtain ⟨A3, c3, hv3⟩ := HRe.out.form
    subst hv3
    have HSL := Lib.hid (Sl.of_own HRe.out.ro)
    refine wpAnyH_ready (rs := [6]) (by kernel_rfl) (by simp) ?_
    refine AllReadyH.cons rfl (fun K hK => ?_) AllReadyH.nil
    go_simp
    (refine (rof_any we A3 t5.length c3 t5 HSL.out HT5B.out (by have := HT5L.out; omega)).mono ?_; rintro e wf ⟨rfl, hbn⟩; have HRf := Lib.hid (HRe.out.later hbn); have HQf := Lib.hid (HQe.out.later hbn); have HTf := Lib.hid (HTe.out.later hbn); clear hbn HRe HQe HTe)
    refine hK.out _ _ (⟨HRf.out.lk, HTf.out⟩) (fun hHeld => ?_)
    clear hK K
    try simp only [Act.put, List.setIfInBounds_toArray, List.set_cons_zero, List.set_cons_succ, List.getElem_toArray, List.getElem_cons_zero, List.getElem_cons_succ]
    have hwd := rword_anyb wf (ofI t5) (ofI_ok t5) ⟨#[98, 108, 111, 99, 107]⟩ (by decide)
    rw [txtBlock_is, ← HTT.out] at hwd
    have HWD := Lib.hid hwd
    clear hwd HSL
    refine wpAnyH_ready (rs := [7]) (by kernel_rfl) (by simp) ?_
    refine AllReadyH.cons rfl (fun K hK => ?_) AllReadyH.nil
    go_simp
    (refine HWD.out.mono ?_; rintro e wg ⟨rfl, hbn⟩; have HRg := Lib.hid (HRf.out.later hbn); have HQg := Lib.hid (HQf.out.later hbn); have HTg := Lib.hid (HTf.out.later hbn); clear hbn HRf HQf HTf)
    refine hK.out _ _ (⟨HRg.out.lk, HTg.out⟩) (fun hHeld => ?_)
    clear hK K
    try simp only [Act.put, List.setIfInBounds_toArray, List.set_cons_zero, List.set_cons_succ, List.getElem_toArray, List.getElem_cons_zero, List.getElem_cons_succ]
    clear HWD
    refine wpAnyH_ready (rs := [8]) (by kernel_rfl) (by simp) ?_
    refine AllReadyH.cons rfl (fun K hK => ?_) AllReadyH.nil
    rw [if_pos (by rfl)]
    refine wp_store_part _ _ _ rfl (z + 1) 0 _ (dl T) rfl rfl rfl _ ([]) (dl zeroD) ([]) (by simpa using HQg.out) rfl (dg_lensd HNO.out) (rdg_szd HNO.out) (dl_one' _) ?_
    intro wh hp
    refine hK.out _ _ ⟨HRg.out.lk.grown hp.only (by intro h; injection h with h; omega), HTg.out.grown hp.only (by intro h; injection h with h; have := HGR.out; omega)⟩ (fun hHeld => ?_)
    clear hK K
    try simp only [Act.put, List.setIfInBounds_toArray, List.set_cons_zero, List.set_cons_succ, List.getElem_toArray, List.getElem_cons_zero, List.getElem_cons_succ]
    clear HTg HQg HBL HTT
    refine wpAnyH_take (i := 9) (v := ?_) rfl (by kernel_rfl) (by kernel_rfl) (by kernel_rfl) (fun _ _ _ h => h) (Or.inl ⟨by rfl, ?_⟩) (by assumption) ?_
    rotate_left
    · intro w hSw
      (try dsimp only at hSw)
      go_simp
      try with_reducible rfl
    try simp only [Act.put, List.setIfInBounds_toArray, List.set_cons_zero, List.set_cons_succ, List.getElem_toArray, List.getElem_cons_zero, List.getElem_cons_succ]
    refine wpAnyH_done rfl ?_ _
    have HTz : Hid (Bk wh (z + 1) 22 (dl T)) := by show Bk _ _ _ _; have := hp.bk; simpa using this
    have HBz := Lib.hid (below_only HRg.out.hb hp.only HRg.out.hb.size (by have := HZ.out; omega))
    clear hp
    go_wp2_with fail
    refine bodyPost_ret (rname_ret HNO.out HTz.out _ rfl rfl) rfl ?_
    exact ⟨rfl, HBz.out⟩
  · have hd1 : (E != 0) = true := by simp [hE0]
    have hTT : T = zeroD := by have := HT0.out; rwa [if_neg hE0] at this
    clear hE0
    subst hTT
    go_wp2_with (first
      | ((with_reducible refine wpList_build rfl 22 _ rfl #[] ?_ _ (rbuild_d0b _) ?_); focus (simp [Act.eval, Act.put]; done))
      | (with_reducible refine stop_store 22 _ _ rfl ?_))
    refine StopD.go ?_
    refine wpList_store_part rfl 22 _ _ rfl (z + 1) 0 (.agg (dl zeroD).toArray) (dl zeroD) rfl rfl rfl 22 [] (dl zeroD) [] HR4.out rfl (dg_lensd zero_ok) (rdg_szd zero_ok) (dl_one' _) ?_
    intro wz hp
    have HTz : Hid (Bk wz ((z + 1)) 22 (dl zeroD)) := by show Bk _ _ _ _; have := hp.bk; simpa using this
    have HBz := Lib.hid (below_only HB4.out hp.only HB4.out.size (by have := HZ.out; omega))
    clear hp
    go_wp2_with fail
    refine bodyPost_ret (rname_ret zero_ok HTz.out _ rfl rfl) rfl ?_
    exact ⟨rfl, HBz.out⟩
theorem eqL_comm (a b : List Int) : eqL a b = eqL b a := by
  unfold eqL
  rw [Bool.eq_iff_iff]
  simp only [beq_iff_eq, decide_eq_true_eq]
  exact ⟨Eq.symm, Eq.symm⟩
set_option maxRecDepth 20000 in
set_option maxHeartbeats 4000000 in
theorem rbcheck_any (w : World) (p : List Int) (h : Int) (m : List Int) (hp : DgOk p) (hm : DgOk m) (A : Option Addr) (N C : Nat) (xs : List (List Value × TxT)) (hx : Txs w A N xs)
    (p' : List Int) (h' : Int) (m' : List Int) (hp' : DgOk p') (hm' : DgOk m') (A' : Option Addr) (N' C' : Nat) (ys : List (List Value × TxT)) (hy : Txs w A' N' ys) (D : List Int) (hD : DgOk D)
    (hname : ∀ w', Txs w' A' N' ys → Calls Tryz.prog 10 #[.agg (bkC p' h' m' (.slice A' N' C')).toArray] w' fun e w'' => e = .returned (.tuple #[.agg (dl D).toArray, .int .i64 (blkE h' (ys.map (·.2)))]) ∧ Below w'.heap.size w' w'') :
    Calls Tryz.prog 18 #[.agg (bkC p h m (.slice A N C)).toArray, .agg (bkC p' h' m' (.slice A' N' C')).toArray] w fun e w' => e = .returned (.int .i64 (checkB (blkE h (xs.map (·.2))) p h D (blkE h' (ys.map (·.2))) h')) ∧ Below w.heap.size w w' := by
  have HRE := Lib.hid (fun (w' : World) (hx' : Txs w' A N xs) => rbright_any w' p h m hp hm A N C xs hx')
  have HNA := Lib.hid hname
  have HBS := Lib.hid (rblk_sz (h := h) (s := .slice A N C) hp hm)
  have HBS' := Lib.hid (rblk_sz (h := h') (s := .slice A' N' C') hp' hm')
  obtain ⟨l, hl⟩ : ∃ x, bkC p h m (.slice A N C) = x := ⟨_, rfl⟩
  obtain ⟨X, hX⟩ : ∃ X, l.toArray = X := ⟨_, rfl⟩
  obtain ⟨l', hl'⟩ : ∃ x, bkC p' h' m' (.slice A' N' C') = x := ⟨_, rfl⟩
  obtain ⟨Y, hY⟩ : ∃ X, l'.toArray = X := ⟨_, rfl⟩
  obtain ⟨z, hz⟩ : ∃ z, w.heap.size = z := ⟨_, rfl⟩
  obtain ⟨w1, hw1⟩ : ∃ w1, (w.alloc (.cells X 25)).alloc (.cells Y 25) = w1 := ⟨_, rfl⟩
  have hb1 : Below w.heap.size w w1 := hw1 ▸ (below_new w _).alloc (by simp) _
  have kx : Bk w1 z 25 l := hw1 ▸ (Bk.at_ w _ X hz (by rw [← hX])).alloc _
  have ky : Bk w1 (z + 1) 25 l' := hw1 ▸ Bk.at_ _ _ Y (by simp [hz]) (by rw [← hY])
  have HM : Hid (∀ w' g', Bk w' g' 25 l → BkcM w' g' p h m (.slice A N C)) := fun w' g' k => by rw [← hl] at k; exact bkc_mem hp hm k
  have HM' : Hid (∀ w' g', Bk w' g' 25 l' → BkcM w' g' p' h' m' (.slice A' N' C')) := fun w' g' k => by rw [← hl'] at k; exact bkc_mem hp' hm' k
  have HW := Lib.hid hw1; have HB1 := Lib.hid hb1; have HZ := Lib.hid hz; have HK1 := Lib.hid kx; have HL1 := Lib.hid ky; have HXE := Lib.hid hX; have HYE := Lib.hid hY
  have HX1 := Lib.hid (hx.later hb1); have HY1 := Lib.hid (hy.later hb1)
  have HDO := Lib.hid hD; have HPO := Lib.hid hp
  rw [hl] at HBS HRE ⊢
  rw [hl'] at HBS' HNA ⊢
  rw [hX] at HRE ⊢
  rw [hY] at HNA ⊢
  clear hl hX hl' hY hw1 hb1 kx ky hz hp hm hp' hm' hx hy hD hname
  obtain ⟨E, hE⟩ : ∃ E, blkE h (xs.map (·.2)) = E := ⟨_, rfl⟩
  rw [hE] at HRE ⊢
  clear hE
  obtain ⟨E', hE'⟩ : ∃ E, blkE h' (ys.map (·.2)) = E := ⟨_, rfl⟩
  have hrange : E' = 0 → 0 ≤ h' ∧ h' ≤ 1099511627776 := fun e => by
    have := (blkE_zero (hE'.trans e)).1
    omega
  rw [hE'] at HNA ⊢
  clear hE'
  go_enter Tryz.func18, Tryz.ntmps18
  go_upto_region 1 with fail
  rw [HW.out, HZ.out]
  go_wp2_with (with_reducible refine wpList_load_bk rfl 25 _ rfl z rfl l 25 HK1.out _ Tryz.underlying25 rfl HBS.out ?_)
  rw [HXE.out]
  refine (HRE.out w1 HX1.out).mono ?_
  rintro e w2 ⟨rfl, hbn⟩
  have HB2 := Lib.hid (below_then HB1.out hbn); have HK2 := Lib.hid (HK1.out.later hbn); have HL2 := Lib.hid (HL1.out.later hbn); have HY2 := Lib.hid (HY1.out.later hbn)
  clear hbn HK1 HL1 HB1
  by_cases hE0 : E = 0
  · subst hE0
    go_wp2_with (with_reducible refine wpList_load_bk rfl 25 _ rfl (z + 1) rfl l' 25 HL2.out _ Tryz.underlying25 rfl HBS'.out ?_)
    rw [HYE.out]
    refine (HNA.out w2 HY2.out).mono ?_
    rintro e w3 ⟨rfl, hbn⟩
    have HB3 := Lib.hid (below_then HB2.out hbn); have HK3 := Lib.hid (HK2.out.later hbn); have HL3 := Lib.hid (HL2.out.later hbn)
    clear hbn HK2 HL2
    go_wp2_with (with_reducible refine stop_store 22 _ _ rfl ?_)
    refine StopD.go ?_
    obtain ⟨g4, hg4⟩ : ∃ g, w3.heap.size = g := ⟨_, rfl⟩
    have hbn : Below w3.heap.size w3 (w3.alloc (.cells #[.int .u8 0, .int .u8 0, .int .u8 0, .int .u8 0, .int .u8 0, .int .u8 0, .int .u8 0, .int .u8 0] 22)) := below_new w3 _
    have kt : Bk (w3.alloc (.cells #[.int .u8 0, .int .u8 0, .int .u8 0, .int .u8 0, .int .u8 0, .int .u8 0, .int .u8 0, .int .u8 0] 22)) g4 22 ([] ++ (dl zeroD ++ [])) := by rw [← hg4]; exact Bk.new' w3 _ #[.int .u8 0, .int .u8 0, .int .u8 0, .int .u8 0, .int .u8 0, .int .u8 0, .int .u8 0, .int .u8 0] rfl
    rw [hg4]
    refine wpList_store_part rfl 22 _ _ rfl g4 0 (.agg (dl D).toArray) (dl D) rfl rfl rfl 22 [] (dl zeroD) [] kt rfl (dg_lensd HDO.out) (rdg_szd HDO.out) (dl_one' _) ?_
    intro w4 hp
    have hbn : Below w3.heap.size w3 w4 := hbn.grown hp.only hbn.size (fun q hq => by injection hq with hq; omega)
    have HT4 : Hid (Bk w4 g4 22 (dl D)) := by show Bk _ _ _ _; have := hp.bk; simpa using this
    clear hp kt
    clear hg4
    have HB4 := Lib.hid (below_then HB3.out hbn); have HK4 := Lib.hid (HK3.out.later hbn); have HL4 := Lib.hid (HL3.out.later hbn)
    clear hbn HK3 HL3
    have HR0 := Lib.hid (HM.out _ _ HK4.out).r0
    have c8 := (HM.out _ _ HK4.out).c8; have c8' := (HM'.out _ _ HL4.out).c8
    have HTR : Hid (w4.rangeAt g4 0 (dl D)) := Bk.range (pre := []) (post := []) (by simpa using HT4.out) rfl
    by_cases hE1 : E' = 0
    · obtain ⟨hr0, hr1⟩ := hrange hE1
      subst hE1
      have heq := rdg_eqb D p HDO.out HPO.out
      have hwr : wrap64 (h' + 1) = h' + 1 := IntWalk.wrap64_in _ (by omega)
      obtain ⟨b1, hb1⟩ : ∃ b, eqL D p = b := ⟨_, rfl⟩
      have HC : Hid (checkB 0 p h D 0 h' = if b1 = false ∨ h ≠ h' + 1 then 24 else 0) := by
        show _ = _
        rw [checkB, if_neg (by simp), eqL_comm p D, hb1]
        simp
      rw [hb1] at heq
      clear hb1 hrange
      cases b1
      · have HC : Hid (checkB 0 p h D 0 h' = 24) := HC.out.trans (if_pos (Or.inl rfl))
        go_wp2_with
          (first
            | ((with_reducible refine wpList_load_midG2 ?_ 22 _ rfl z 0 rfl (dl p) _ HR0.out Tryz.underlying22 rfl (rdg_szd HPO.out) ?_); rfl)
            | ((with_reducible refine wpList_load_midG2 ?_ 22 _ rfl g4 0 rfl (dl D) _ HTR.out Tryz.underlying22 rfl (rdg_szd HDO.out) ?_); rfl))
        go_ret
        exact ⟨by rw [HC.out]; rfl, HB4.out⟩
      · by_cases hhh : h = h' + 1
        · have HC : Hid (checkB 0 p h D 0 h' = 0) := HC.out.trans (if_neg (by simp [hhh]))
          subst hhh
          go_wp2_with
            (first
              | ((with_reducible refine wpList_load_midG2 ?_ 22 _ rfl z 0 rfl (dl p) _ HR0.out Tryz.underlying22 rfl (rdg_szd HPO.out) ?_); rfl)
              | ((with_reducible refine wpList_load_midG2 ?_ 22 _ rfl g4 0 rfl (dl D) _ HTR.out Tryz.underlying22 rfl (rdg_szd HDO.out) ?_); rfl))
          go_ret
          exact ⟨by rw [HC.out]; rfl, HB4.out⟩
        · have HC : Hid (checkB 0 p h D 0 h' = 24) := HC.out.trans (if_pos (Or.inr hhh))
          have hh1 : (h != h' + 1) = true := by simp [hhh]
          have hh2 : decide (h = h' + 1) = false := by simp [hhh]
          go_wp2_with
            (first
              | ((with_reducible refine wpList_load_midG2 ?_ 22 _ rfl z 0 rfl (dl p) _ HR0.out Tryz.underlying22 rfl (rdg_szd HPO.out) ?_); rfl)
              | ((with_reducible refine wpList_load_midG2 ?_ 22 _ rfl g4 0 rfl (dl D) _ HTR.out Tryz.underlying22 rfl (rdg_szd HDO.out) ?_); rfl))
          go_ret
          exact ⟨by rw [HC.out]; rfl, HB4.out⟩
    · have hd1 : (E' != 0) = true := by simp [hE1]
      have HC : Hid (checkB 0 p h D E' h' = 24) := by
        show _ = _
        rw [checkB, if_neg (by simp), if_pos (Or.inl hE1)]
      clear hE1 hrange
      go_wp2_with fail
      go_ret
      exact ⟨by rw [HC.out]; rfl, HB4.out⟩
  · have hd1 : (E != 0) = true := by simp [hE0]
    have HC : Hid (checkB E p h D E' h' = E) := by show _ = _; rw [checkB, if_pos hE0]
    clear hE0 hrange
    go_wp2_with fail
    go_ret
    exact ⟨by rw [HC.out]; rfl, HB2.out⟩
end Go.Proofs.YtbpmomedhdmloaaGreatDoor
