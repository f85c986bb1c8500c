/- The document's bytes and name of a transaction; the names of a block's. -/
import Derived.Test.YtbpmomedhdmloaaGreatDoorD3
namespace Go.Proofs.YtbpmomedhdmloaaGreatDoor
set_option linter.unusedSimpArgs false
set_option linter.unusedVariables false
open Go.RowKit Go.Maps

set_option maxRecDepth 20000 in
set_option maxHeartbeats 8000000 in
theorem rtxBytes_any (w : World) (cs : List Value) (t : TxT) (ht : Txg w cs t) (hl : t.b.length ≤ 1073741000) (hl2 : t.s.length ≤ 1073741000) :
    Calls Tryz.prog 59 #[.agg cs.toArray] w (RetB w.heap.size (txB t) w) := by
  have HHC := Lib.hid (fun w' (h : Txg w' cs t) => rhead25_any w' cs t h hl)
  have HG0 := Lib.hid ht
  have HSZ := Lib.hid ht.rsize
  obtain ⟨⟨A, B, N, C, M, D, e0, s1, s2, _, _⟩, ok⟩ := ht
  obtain ⟨X, hX⟩ : ∃ X, cs.toArray = X := ⟨_, rfl⟩
  obtain ⟨z, hz⟩ : ∃ z, w.heap.size = z := ⟨_, rfl⟩
  obtain ⟨w1, hw1⟩ : ∃ w1, w.alloc (.cells X 74) = w1 := ⟨_, rfl⟩
  have hb1 : Below w.heap.size w w1 := hw1 ▸ below_new w _
  have kx : Bk w1 z 74 cs := hw1 ▸ Bk.at_ w _ X hz (by rw [← hX])
  have HM12 : Hid (∀ w' g', Bk w' g' 74 cs → w'.cell? ⟨g', 12, none⟩ = some (.slice B M D)) := fun w' g' k => by rw [e0] at k; have := (tx_mem ok.f k).c12; simpa using this
  have e2 := s2.length
  have HW := Lib.hid hw1; have HZ := Lib.hid hz; have HS0 := Lib.hid s2; have HLE := Lib.hid (show M ≤ 1073741000 by omega)
  have HR1 : Hid (RyS 74 w w1 z cs (.slice none 0 0) []) := ⟨kx, World.ownsRow_nil _ _ _ _, hb1⟩
  rw [hX]
  rw [hX] at HHC
  have HXE := Lib.hid hX
  have N5 : Hid (∀ w', Below w.heap.size w w' → Calls Tryz.prog 58 #[.slice B M D] w' (RetB w'.heap.size (lstB t.s) w')) := fun w' hb => by
    have := rBytes_any w' B M D t.s (HS0.out.later hb) (by have := HLE.out; omega)
    rw [lstB, e2]; exact this
  obtain ⟨x1, hx1⟩ : ∃ x, unsB t = x := ⟨_, rfl⟩
  obtain ⟨x2, hx2⟩ : ∃ x, lstB t.s = x := ⟨_, rfl⟩
  have L1 : Hid (x1.length ≤ 1073741050) := by show _ ≤ 1073741050; rw [← hx1]; have := unsB_len t; omega
  have L2 : Hid (x2.length ≤ 1073741010) := by show _ ≤ 1073741010; rw [← hx2]; have := lstB_lenb t.s; omega
  have HFIN : Hid (txB t = x1 ++ x2) := by show _ = _; rw [txB, hx1, hx2]
  rw [hx1] at HHC; rw [hx2] at N5
  clear e0 hX hz hw1 hb1 kx s1 s2 ok hl hl2 e2 hx1 hx2
  go_enter Tryz.func59, Tryz.ntmps59
  go_upto_region 1 with fail
  rw [HW.out, HZ.out]
  refine wp_region_held_drew (S := fun w' => Bk w' z 74 cs) (by kernel_rfl) (Bk.drew HR1.out.lk) (fun hHeld => ?_)
  have hbd2 : Below w1.heap.size w1 w1.drew := below_draws w1 w1.heap.size 1
  obtain ⟨wa, hwa⟩ : ∃ wa, w1.drew = wa := ⟨_, rfl⟩
  rw [hwa] at hbd2 hHeld ⊢
  have HRa := Lib.hid (HR1.out.later hbd2)
  clear hwa hbd2 HR1
  refine wpAnyH_take (i := 0) (v := .agg (List.toArray (cs))) rfl (by kernel_rfl) (by kernel_rfl) (by kernel_rfl) (fun _ _ _ h => h) (yieldsIf_load_mid (by rfl) _ _ rfl _ _ rfl (cs) _ (fun w hSw => (Bk.range (pre := []) (post := []) (by simpa using hSw) rfl)) Tryz.underlying74 rfl (HSZ.out)) (by assumption) ?_
  try simp only [Act.put, List.setIfInBounds_toArray, List.set_cons_zero, List.set_cons_succ, List.getElem_toArray, List.getElem_cons_zero, List.getElem_cons_succ]
  refine wpAnyH_take (i := 2) (v := ?_) rfl (by kernel_rfl) (by kernel_rfl) (by kernel_rfl) (fun _ _ _ h => h) (Or.inl ⟨by rfl, ?_⟩) (by assumption) ?_
  rotate_left
  · intro w hSw
    (try dsimp only at hSw)
    go_simp
    try with_reducible rfl
  try simp only [Act.put, List.setIfInBounds_toArray, List.set_cons_zero, List.set_cons_succ, List.getElem_toArray, List.getElem_cons_zero, List.getElem_cons_succ]
  refine wpAnyH_take (i := 3) (v := ?_) rfl (by kernel_rfl) (by kernel_rfl) (by kernel_rfl) (fun _ _ _ h => h) (Or.inl ⟨by rfl, ?_⟩) (by assumption) ?_
  rotate_left
  · intro w hSw
    have hcell := HM12.out _ _ hSw
    clear hSw
    go_simp
    try with_reducible rfl
  try simp only [Act.put, List.setIfInBounds_toArray, List.set_cons_zero, List.set_cons_succ, List.getElem_toArray, List.getElem_cons_zero, List.getElem_cons_succ]
  refine wpAnyH_ready (rs := [1]) (by kernel_rfl) (by simp) ?_
  refine AllReadyH.cons rfl (fun K hK => ?_) AllReadyH.nil
  go_simp
  (rw [HXE.out]; refine (HHC.out wa (HG0.out.later HRa.out.hb)).mono ?_; rintro e wb ⟨v2, rfl, hown⟩; have HRb : Hid (RyS 74 w wb z cs v2 x1) := ⟨(HRa.out.later hown.2).lk, own_base hown.1 HRa.out.hb.size, (HRa.out.later hown.2).hb⟩; clear hown HRa)
  refine hK.out _ _ (HRb.out.lk) (fun hHeld => ?_)
  clear hK K
  try simp only [Act.put, List.setIfInBounds_toArray, List.set_cons_zero, List.set_cons_succ, List.getElem_toArray, List.getElem_cons_zero, List.getElem_cons_succ]
  obtain ⟨A2, c2, hv2⟩ := HRb.out.form
  subst hv2
  refine wpAnyH_ready (rs := [4]) (by kernel_rfl) (by simp) ?_
  refine AllReadyH.cons rfl (fun K hK => ?_) AllReadyH.nil
  go_simp
  (refine (N5.out wb HRb.out.hb).mono ?_; rintro e wd ⟨v3, rfl, hown⟩; obtain ⟨A3, c3, rfl⟩ := hown.form; have HRd := Lib.hid (HRb.out.later hown.2); have HPd := Lib.hid hown.1; clear hown HRb)
  refine hK.out _ _ (HRd.out.lk) (fun hHeld => ?_)
  clear hK K
  try simp only [Act.put, List.setIfInBounds_toArray, List.set_cons_zero, List.set_cons_succ, List.getElem_toArray, List.getElem_cons_zero, List.getElem_cons_succ]
  refine wpAnyH_ready (rs := [5]) (by kernel_rfl) (by simp) ?_
  refine AllReadyH.cons rfl (fun K hK => ?_) AllReadyH.nil
  rw [if_pos (by rfl)]
  obtain ⟨i0, hi, hi0, hi1, hi2⟩ := info_parts Tryz.infoU8
  refine wp_app _ (.tmp 4) (.tmp 7) 60 rfl w.heap.size 5 i0 (.int .u8 0) 1 1 Tryz.underlying60 hi hi0 hi1 hi2 rfl (by decide) _ _ _ rfl HRd.out.ro _ _ _ _ _ rfl (Sl.of_own HPd.out) (ints_one _ _) (by unfold maxLen; have := L1.out; have := L2.out; omega) (by have := L1.out; have := L2.out; omega) HRd.out.hb.size ?_
  intro v9 we hown hg hat
  have HRe := Lib.hid (RyS.app (by decide) HRd.out hown hg)
  clear hown hg hat hi hi0 hi1 hi2 i0
  refine hK.out _ _ HRe.out.lk (fun hHeld => ?_)
  clear hK K
  try simp only [Act.put, List.setIfInBounds_toArray, List.set_cons_zero, List.set_cons_succ, List.getElem_toArray, List.getElem_cons_zero, List.getElem_cons_succ]
  clear HRd HPd
  refine wpAnyH_take (i := 6) (v := ?_) rfl (by kernel_rfl) (by kernel_rfl) (by kernel_rfl) (fun _ _ _ h => h) (Or.inl ⟨by rfl, ?_⟩) (by assumption) ?_
  rotate_left
  · intro w hSw
    (try dsimp only at hSw)
    go_simp
    try with_reducible rfl
  try simp only [Act.put, List.setIfInBounds_toArray, List.set_cons_zero, List.set_cons_succ, List.getElem_toArray, List.getElem_cons_zero, List.getElem_cons_succ]
  refine wpAnyH_done (by kernel_rfl) ?_ _
  clear hHeld
  go_wp2_with fail
  go_ret
  refine ⟨_, rfl, ?_, HRe.out.hb⟩
  rw [HFIN.out]
  exact HRe.out.ro
set_option maxRecDepth 20000 in
set_option maxHeartbeats 4000000 in
theorem rtxName_any (w : World) (cs : List Value) (t : TxT) (ht : Txg w cs t) (hl : t.b.length ≤ 1073741000) (hl2 : t.s.length ≤ 1073741000) :
    Calls Tryz.prog 88 #[.agg cs.toArray] w fun e w' => e = .returned (.agg (dl (txN t)).toArray) ∧ Below w.heap.size w w' := by
  have HHC := Lib.hid (fun w' (h : Txg w' cs t) => rtxBytes_any w' cs t h hl hl2)
  have HBO : Hid (ByOk (txB t)) := txB_ok ht.ok (by omega) (by omega)
  have HBL : Hid ((txB t).length ≤ 4294967296) := by show _ ≤ _; have := txB_len t; omega
  have HSZ := Lib.hid ht.rsize
  obtain ⟨X, hX⟩ : ∃ X, cs.toArray = X := ⟨_, rfl⟩
  obtain ⟨z, hz⟩ : ∃ z, w.heap.size = z := ⟨_, rfl⟩
  obtain ⟨w1, hw1⟩ : ∃ w1, (w.alloc (.cells X 74)).alloc (.cells #[.int .u8 0, .int .u8 0, .int .u8 0, .int .u8 0, .int .u8 0, .int .u8 0, .int .u8 0, .int .u8 0] 22) = w1 := ⟨_, rfl⟩
  have hb1 : Below w.heap.size w w1 := hw1 ▸ (below_new w _).alloc (by simp) _
  have kx : Bk w1 z 74 cs := hw1 ▸ (Bk.at_ w _ X hz (by rw [← hX])).alloc _
  have kr : Bk w1 (z + 1) 22 ([] ++ (dl zeroD ++ [])) := hw1 ▸ Bk.at_ _ _ #[.int .u8 0, .int .u8 0, .int .u8 0, .int .u8 0, .int .u8 0, .int .u8 0, .int .u8 0, .int .u8 0] (by simp [hz]) rfl
  have HG1 := Lib.hid (ht.later hb1)
  have HW := Lib.hid hw1; have HZ := Lib.hid hz; have HB1 := Lib.hid hb1; have HK1 := Lib.hid kx; have HR1 := Lib.hid kr
  rw [hX] at HHC ⊢
  have HXE := Lib.hid hX
  obtain ⟨t5, ht5⟩ : ∃ x, txB t = x := ⟨_, rfl⟩
  have HTN : Hid (txN t = ofI t5) := by show _ = _; rw [txN, ht5]
  rw [ht5] at HHC HBO HBL
  have HDO := Lib.hid (ofI_ok t5)
  clear hX hz hw1 hb1 kx kr ht hl hl2 ht5
  go_enter Tryz.func88, Tryz.ntmps88
  go_upto_region 1 with fail
  rw [HW.out, HZ.out]
  go_wp2_with (with_reducible refine wpList_load_bk rfl 74 _ rfl z rfl cs 74 HK1.out _ Tryz.underlying74 rfl HSZ.out ?_)
  rw [HXE.out]
  refine (HHC.out w1 HG1.out).mono ?_
  rintro e w2 ⟨v2, rfl, hown⟩
  obtain ⟨A2, c2, rfl⟩ := hown.form
  have HS2 := Lib.hid (Sl.of_own hown.1); have HB2 := Lib.hid (below_then HB1.out hown.2); have HR2 := Lib.hid (HR1.out.later hown.2)
  clear hown
  go_wp2_with fail
  refine (rof_any w2 A2 _ c2 t5 HS2.out HBO.out (by have := HBL.out; omega)).mono ?_
  rintro e w3 ⟨rfl, hbn⟩
  have HB3 := Lib.hid (below_then HB2.out hbn); have HR3 := Lib.hid (HR2.out.later hbn)
  clear hbn HS2
  obtain ⟨T, hT⟩ : ∃ T, ofI t5 = T := ⟨_, rfl⟩
  rw [hT] at HDO HTN ⊢
  clear hT
  go_wp2_with (with_reducible refine stop_store 22 _ _ rfl ?_)
  refine StopD.go ?_
  refine wpList_store_part rfl 22 _ _ rfl (z + 1) 0 (.agg (dl T).toArray) (dl T) rfl rfl rfl 22 [] (dl zeroD) [] HR3.out rfl (dg_lensd HDO.out) (rdg_szd HDO.out) (dl_one' _) ?_
  intro wz hp
  have HTz : Hid (Bk wz (z + 1) 22 (dl T)) := by show Bk _ _ _ _; have := hp.bk; simpa using this
  have HBz := Lib.hid (below_only HB3.out hp.only HB3.out.size (by have := HZ.out; omega))
  clear hp
  go_wp2_with fail
  refine bodyPost_ret (results_cell_bk rfl _ _ (z + 1) 22 (dl T) _ rfl HTz.out Tryz.underlying22 rfl (rdg_szd HDO.out)) rfl ?_
  exact ⟨by rw [HTN.out], HBz.out⟩
theorem Tryz.infoDgR : (Tryz.prog.info? 22).map (fun i => (i.zero, i.size, i.bytes)) = some (some (.agg (dgA zeroD)), 8, 8) := by kernel_rfl
theorem rbs_dgb {d : List Int} (h : DgOk d) (w : World) : (Instr.buildSlice 47 1 #[(0, .agg (dl d).toArray)]).run Tryz.prog w = .ok (.slice (some ⟨w.heap.size, 0, none⟩) 1 1) (w.alloc (.cells (dl d).toArray 22)) := by
  obtain ⟨x0, x1, x2, x3, x4, x5, x6, x7, rfl⟩ := list8 d h.len
  kernel_rfl
theorem rbs_0 (w : World) : (Instr.buildSlice 47 0 #[]).run Tryz.prog w = .ok (.slice (some ⟨w.heap.size, 0, none⟩) 0 0) (w.alloc (.cells #[] 22)) := by kernel_rfl
end Go.Proofs.YtbpmomedhdmloaaGreatDoor
