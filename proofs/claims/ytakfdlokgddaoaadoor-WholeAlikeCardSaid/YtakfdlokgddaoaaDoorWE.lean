/- A ring signs. -/
import Derived.Test.YtakfdlokgddaoaaDoorWD
namespace Go.Proofs.YtakfdlokgddaoaaDoor
set_option linter.unusedSimpArgs false
set_option linter.unusedVariables false
open Go.RowKit Go.Maps

def sgR (sec : List Int) (h : Nat) (L : List (List Int)) (m : List Int) : List Int := if m ∈ stepL (2 ^ h) L m then sgI sec h (stepL (2 ^ h) L m) m else []
def RetSgB (w : World) (lo g b : Nat) (V : Value) (T : Tr) (tlo thi : Nat) (sec : List Int) (h : Nat) (L2 : List (List Int)) (B : List Int) (E : Int) (e : Ending) (w' : World) : Prop :=
  ∃ v V', e = .returned (.tuple #[v, .int .i64 E]) ∧ w'.ownsRow w.heap.size 5 1 v B.length (B.map (.int .u8)) ∧ RingAt w' lo g b V' T tlo thi sec h L2 ∧ Chg w w' g b V ∧ NewV w V V'
def RetSg (w : World) (lo g b : Nat) (V : Value) (T : Tr) (tlo thi : Nat) (sec : List Int) (h : Nat) (L : List (List Int)) (m : List Int) : Ending → World → Prop :=
  RetSgB w lo g b V T tlo thi sec h (stepL (2 ^ h) L m) (sgR sec h L m) (resE (2 ^ h) L m)
theorem pathE_in {n : Nat} {i : Nat} (hn : n ≤ 4096) (hi : i < n) : pathE n i = 0 := by rw [pathE, if_pos ⟨by omega, hn⟩, if_pos ⟨by omega, by omega⟩]
theorem flat_snoc {p : List (List Int)} {k : Nat} {d : List Int} (h : p[k]? = some d) (B : List Int) : (B ++ (p.take (k + 1)).flatten).map (Value.int .u8) = (B ++ (p.take k).flatten).map (Value.int .u8) ++ dl d := by
  rw [take_snoc h, List.flatten_append, ← List.append_assoc, List.map_append (l₂ := [d].flatten)]; simp [dl]
theorem flat_len8 {p : List (List Int)} (h : DsOk p) (k : Nat) : (p.take k).flatten.length ≤ k * 8 := by
  rw [flat8_len _ (fun d hd => h d (List.mem_of_mem_take hd)), List.length_take]
  exact Nat.mul_le_mul_right _ (Nat.min_le_left _ _)
theorem bs_len {B : List Int} {p : List (List Int)} (h : DsOk p) {k : Nat} (hk : k ≤ p.length) : (B ++ (p.take k).flatten).length = B.length + k * 8 := by
  rw [List.length_append, flat8_len _ (fun d hd => h d (List.mem_of_mem_take hd)), List.length_take, Nat.min_eq_left hk]
set_option maxRecDepth 20000 in
set_option maxHeartbeats 8000000 in
theorem ksign_any (w : World) (lo g b : Nat) (V : Value) (T : Tr) (tlo thi : Nat) (sec : List Int) (h : Nat) (L : List (List Int)) (r : RingAt w lo g b V T tlo thi sec h L) (m : List Int) (hm : DgOk m) :
    Calls Tryd.prog 10 #[.pointer (some ⟨g, 0, none⟩), .agg (dl m).toArray] w (RetSg w lo g b V T tlo thi sec h L m) := by
  obtain ⟨X, hX⟩ : ∃ X, (dl m).toArray = X := ⟨_, rfl⟩
  obtain ⟨z, hz⟩ : ∃ z, w.heap.size = z := ⟨_, rfl⟩
  obtain ⟨w1, hw1⟩ : ∃ w1, w.alloc (.cells X 23) = w1 := ⟨_, rfl⟩
  have hb1 : Below w.heap.size w w1 := hw1 ▸ below_new w _
  have kx : Bk w1 z 23 (dl m) := hw1 ▸ Bk.at_ w _ X hz (by rw [← hX])
  have HW := Lib.hid hw1; have HX1 := Lib.hid kx; have HZ := Lib.hid hz; have HMO := Lib.hid hm; have HXE := Lib.hid hX
  have HRS := Lib.hid (res_any w1 lo g b V T tlo thi sec h L (r.later hb1) m hm)
  have HHH := Lib.hid r.hh; have HSO := Lib.hid r.hs; have HB1 := Lib.hid hb1
  have HLE := Lib.hid (r.led_ok.step hm)
  have HGZ : Hid (g < z ∧ b < z ∧ ∀ q, V.ownBlock = some q → q < z) := ⟨by rw [← hz]; exact r.led.lt, by rw [← hz]; exact World.ownsMap.lt r.led.map, fun q hq => by rw [← hz]; exact (World.ownsRow.lt r.led.row q hq).2⟩
  unfold RetSg
  by_cases hmem : m ∈ stepL (2 ^ h) L m
  · have hlt := led_idx HLE.out hmem
    have hpi : resI (2 ^ h) L m = (((stepL (2 ^ h) L m).idxOf m : Nat) : Int) := by rw [resI, if_pos hmem]
    have hpe : resE (2 ^ h) L m = 0 := by rw [resE, if_pos hmem]
    have hsr : sgR sec h L m = sgI sec h (stepL (2 ^ h) L m) m := by rw [sgR, if_pos hmem]
    rw [sgI] at hsr
    unfold RetRes at HRS
    rw [hpi, hpe] at HRS
    rw [hpe, hsr]
    obtain ⟨L2, hL2⟩ : ∃ x, stepL (2 ^ h) L m = x := ⟨_, rfl⟩
    rw [hL2] at HRS hlt hsr HLE ⊢
    obtain ⟨I, hI⟩ : ∃ x, L2.idxOf m = x := ⟨_, rfl⟩
    rw [hI] at HRS hlt ⊢
    have hp4 : 2 ^ h ≤ 256 := (pow_le8 HHH.out).2
    have hI8 : I < 256 := by omega
    have HPL := Lib.hid (path_len (leavesI_len sec h) HHH.out hlt)
    have HPO := Lib.hid (pathL_ok (leavesI sec h) I)
    have hll : (leavesI sec h).length = 2 ^ h := leavesI_len sec h
    have HPE : Hid (pathE (leavesI sec h).length I = 0) := pathE_in (by omega) (by omega)
    have hsg : sigI sec h I m = (numB I ++ osignI (ownI sec I) m) ++ (pathL (leavesI sec h) I).flatten := rfl
    rw [hsg]
    obtain ⟨p, hp⟩ : ∃ x, pathL (leavesI sec h) I = x := ⟨_, rfl⟩
    have HPP := Lib.hid hp
    rw [hp] at HPL HPO ⊢
    have HOW := Lib.hid (ownI_ok sec I)
    have hol := osignI_len (ownI sec I) m
    have HNL : Hid ((numB I).length ≤ 10) := (numF_len 9 I).2
    obtain ⟨N, hN⟩ : ∃ x, numB I = x := ⟨_, rfl⟩
    have HNE := Lib.hid hN
    rw [hN] at HNL ⊢
    obtain ⟨S, hS⟩ : ∃ x, ownI sec I = x := ⟨_, rfl⟩
    have HSE := Lib.hid hS
    rw [hS] at HOW hol ⊢
    obtain ⟨O, hO⟩ : ∃ x, osignI S m = x := ⟨_, rfl⟩
    have HOE := Lib.hid hO
    rw [hO] at hol ⊢
    have HOL := Lib.hid hol
    obtain ⟨B, hB⟩ : ∃ x, N ++ O = x := ⟨_, rfl⟩
    rw [hB]
    have HBE := Lib.hid hB
    clear hB
    have HIU : Hid (I < 18446744073709551616) := by show _ < _; omega
    have hcw : IntKind.u64.wrap (I : Int) = I := by rw [IntKind.wrap_u64]; omega
    obtain ⟨i0, hi, hi0, hi1, hi2⟩ := info_parts Tryd.infoU8
    rw [hX]
    rw [hX] at HRS
    clear hX hw1 hb1 kx hz hm r hmem hpi hpe hsr hL2 hI hll hsg hp hN hS hO hol hlt hp4
    go_enter Tryd.func10, Tryd.ntmps10
    go_upto_region 1 with fail
    rw [HW.out, HZ.out]
    go_wp2_with (with_reducible refine wpList_load_bk rfl 23 _ rfl z rfl (dl m) 23 HX1.out _ Tryd.underlying23 rfl (hdg_size _ HMO.out) ?_)
    rw [HXE.out]
    refine HRS.out.mono ?_
    rintro e w2 ⟨rfl, V2, hr2, hc2, hv2⟩
    have HR2 := Lib.hid hr2; have HC2 := Lib.hid (Chg.after_below HB1.out hc2)
    have HV2 : Hid (NewV w V V2) := by
      rcases hv2 with h | h
      · exact .inl h
      · exact .inr fun q hq => Nat.le_trans HB1.out.size (h q hq)
    have HX2 : Hid (Bk w2 z 23 (dl m)) := Bk.chg HX1.out hc2 (by have := HGZ.out.1; omega) (by have := HGZ.out.2.1; omega) (fun e => by have := HGZ.out.2.2 _ e; omega)
    have c9 := (rg_mem HSO.out hr2.led.bk).c9
    have HTP := Lib.hid (tPath_any w2 tlo thi T (leavesI sec h) hr2.tree I)
    rw [HPE.out, HPP.out] at HTP
    clear hr2 hc2 hv2 HRS
    go_wp2_with fail
    refine HTP.out.mono ?_
    rintro e w3 ⟨⟨v, rfl, hown⟩, hbn⟩
    have hpl := HPL.out
    rw [hpl] at hown
    obtain ⟨Ap, cp, rfl⟩ := own_form hown
    have HPS := Lib.hid (Sl.of_own hown)
    have HR3 := Lib.hid (HR2.out.later hbn); have HC3 := Lib.hid (HC2.out.then_below hbn); have HX3 := Lib.hid (HX2.out.later hbn)
    clear hown hbn HTP c9 HR2 HC2 HX2
    go_wp2_with fail
    refine (putNum_any w3 none 0 0 [] Sl.nil I HIU (by omega)).mono ?_
    rw [List.nil_append, HNE.out]
    rintro e w4 ⟨v4, rfl, hown, hb4⟩
    have HO4 := Lib.hid hown; have HB4 := Lib.hid hb4
    clear hown hb4
    go_wp2_with fail
    have HX4 := Lib.hid (HX3.out.later HB4.out)
    refine wp_region_held_drew (S := fun w' => Bk w' z 23 (dl m)) (by kernel_rfl) (Bk.drew HX4.out) (fun hHeld => ?_)
    have hbd : Below w4.heap.size w4 w4.drew := below_draws w4 w4.heap.size 1
    obtain ⟨wa, hwa⟩ : ∃ wa, w4.drew = wa := ⟨_, rfl⟩
    rw [hwa] at hbd hHeld ⊢
    have HXa := Lib.hid (HX4.out.later hbd); have HOa := Lib.hid (own_keep HO4.out hbd); have HBa := Lib.hid (HB4.out.trans (hbd.mono HB4.out.size))
    have HOWN := Lib.hid (own_any wa g sec h _ V2 _ HSO.out (HR3.out.later HBa.out).led.bk I (by omega))
    rw [HSE.out] at HOWN
    clear hwa hbd HX3 HX4 HO4 HB4
    refine wpAnyH_take (i := 0) (v := ?_) rfl (by kernel_rfl) (by kernel_rfl) (by kernel_rfl) (fun _ _ _ h => h) (Or.inl ⟨by rfl, ?_⟩) (by assumption) ?_
    rotate_left
    · intro w hSw
      (try dsimp only at hSw)
      go_simp
      try with_reducible rfl
    try simp only [Act.put, List.setIfInBounds_toArray, List.set_cons_zero, List.set_cons_succ, List.getElem_toArray, List.getElem_cons_zero, List.getElem_cons_succ]
    refine wpAnyH_take (i := 1) (v := ?_) rfl (by kernel_rfl) (by kernel_rfl) (by kernel_rfl) (fun _ _ _ h => h) (Or.inl ⟨by rfl, ?_⟩) (by assumption) ?_
    rotate_left
    · intro w hSw
      (try dsimp only at hSw)
      go_simp
      try with_reducible rfl
    try simp only [Act.put, List.setIfInBounds_toArray, List.set_cons_zero, List.set_cons_succ, List.getElem_toArray, List.getElem_cons_zero, List.getElem_cons_succ]
    refine wpAnyH_take (i := 2) (v := ?_) rfl (by kernel_rfl) (by kernel_rfl) (by kernel_rfl) (fun _ _ _ h => h) (Or.inl ⟨by rfl, ?_⟩) (by assumption) ?_
    rotate_left
    · intro w hSw
      (try dsimp only at hSw)
      go_simp
      try with_reducible rfl
    try simp only [Act.put, List.setIfInBounds_toArray, List.set_cons_zero, List.set_cons_succ, List.getElem_toArray, List.getElem_cons_zero, List.getElem_cons_succ]
    refine wpAnyH_take (i := 4) (v := .agg (List.toArray (dl m))) rfl (by kernel_rfl) (by kernel_rfl) (by kernel_rfl) (fun _ _ _ h => h) (yieldsIf_load_mid (by rfl) _ _ rfl _ _ rfl (dl m) _ (fun w hSw => (Bk.range (pre := []) (post := []) (by simpa using hSw) rfl)) Tryd.underlying23 rfl (hdg_size _ HMO.out)) (by assumption) ?_
    try simp only [Act.put, List.setIfInBounds_toArray, List.set_cons_zero, List.set_cons_succ, List.getElem_toArray, List.getElem_cons_zero, List.getElem_cons_succ]
    refine wpAnyH_ready (rs := [3]) (by kernel_rfl) (by simp) ?_
    refine AllReadyH.cons rfl (fun K hK => ?_) AllReadyH.nil
    go_simp
    (refine HOWN.out.mono ?_; rintro e wb ⟨rfl, hbn⟩; have HXb := Lib.hid (HXa.out.later hbn); have HOb := Lib.hid (own_keep HOa.out hbn); have HBb := Lib.hid (HBa.out.trans (hbn.mono HBa.out.size)); clear hbn HXa HOa HBa)
    refine hK.out _ _ (HXb.out) (fun hHeld => ?_)
    clear hK K
    try simp only [Act.put, List.setIfInBounds_toArray, List.set_cons_zero, List.set_cons_succ, List.getElem_toArray, List.getElem_cons_zero, List.getElem_cons_succ]
    have HOS := Lib.hid (osign_any wb S m HOW.out HMO.out)
    rw [HOE.out] at HOS
    refine wpAnyH_ready (rs := [5]) (by kernel_rfl) (by simp) ?_
    refine AllReadyH.cons rfl (fun K hK => ?_) AllReadyH.nil
    go_simp
    (refine HOS.out.mono ?_; rintro e wc ⟨vo, rfl, hown, hbn⟩; have HXc := Lib.hid (HXb.out.later hbn); have HOc := Lib.hid (own_keep HOb.out hbn); have HBc := Lib.hid (HBb.out.trans (hbn.mono HBb.out.size)); have HVc := Lib.hid hown; clear hbn hown HXb HOb HBb)
    refine hK.out _ _ (HXc.out) (fun hHeld => ?_)
    clear hK K
    try simp only [Act.put, List.setIfInBounds_toArray, List.set_cons_zero, List.set_cons_succ, List.getElem_toArray, List.getElem_cons_zero, List.getElem_cons_succ]
    obtain ⟨Av, cv, hve⟩ := own_form HVc.out
    subst hve
    have hnl := HNL.out
    have hol := HOL.out
    refine wpAnyH_ready (rs := [6]) (by kernel_rfl) (by simp) ?_
    refine AllReadyH.cons rfl (fun K hK => ?_) AllReadyH.nil
    rw [if_pos (by rfl)]
    (refine wp_app _ (.tmp 36) (.tmp 41) 29 rfl w3.heap.size 5 i0 (.int .u8 0) 1 1 Tryd.underlying29 hi hi0 hi1 hi2 rfl (by decide) _ _ _ rfl HOc.out _ _ _ _ _ rfl (Sl.of_own HVc.out) (ints_one _ _) (by unfold maxLen; omega) (by omega) HBc.out.size ?_; intro v9 wd hown hgr hat; have HBd := Lib.hid (grown_below HBc.out HOc.out hgr (Nat.le_refl _) HBc.out.size); have HOd := Lib.hid hown; have HXd := Lib.hid (HXc.out.grown hgr (Ne.symm (own_bk_ne HOc.out HXc.out (by decide)))); clear hown hgr hat HXc HOc HBc HVc)
    refine hK.out _ _ (HXd.out) (fun hHeld => ?_)
    clear hK K
    try simp only [Act.put, List.setIfInBounds_toArray, List.set_cons_zero, List.set_cons_succ, List.getElem_toArray, List.getElem_cons_zero, List.getElem_cons_succ]
    refine wpAnyH_take (i := 7) (v := ?_) rfl (by kernel_rfl) (by kernel_rfl) (by kernel_rfl) (fun _ _ _ h => h) (Or.inl ⟨by rfl, ?_⟩) (by assumption) ?_
    rotate_left
    · intro w hSw
      (try dsimp only at hSw)
      go_simp
      try with_reducible rfl
    try simp only [Act.put, List.setIfInBounds_toArray, List.set_cons_zero, List.set_cons_succ, List.getElem_toArray, List.getElem_cons_zero, List.getElem_cons_succ]
    refine wpAnyH_done (by kernel_rfl) ?_ _
    clear hHeld
    have hdl : (N ++ O).length = N.length + O.length := List.length_append
    have HO0 : Hid (wd.ownsRow w3.heap.size 5 1 v9 ((N ++ O).length + 0 * 8) (((N ++ O) ++ (p.take 0).flatten).map (.int .u8))) := by
      show World.ownsRow _ _ _ _ _ _ _
      rw [hdl]; simpa using HOd.out
    have HFS := Lib.hid (fun (k : Nat) (d : List Int) (hd : p[k]? = some d) => flat_snoc hd (N ++ O))
    have HBL : Hid ((N ++ O).length ≤ 154) := by show _ ≤ _; omega
    have HSG : Hid (((N ++ O) ++ (p.take h).flatten) = (N ++ O) ++ p.flatten) := by show _ = _; rw [List.take_of_length_le (Nat.le_of_eq hpl)]
    have HFL : Hid (((N ++ O) ++ p.flatten).length = (N ++ O).length + h * 8) := by show _ = _; rw [List.length_append, flat8_len _ HPO.out, hpl]
    have hh8 := HHH.out
    rw [HBE.out] at HO0 HFS HBL HSG HFL
    clear HOd hdl hol hnl HOS HOWN HXd
    go_wp2_with fail
    go_loopw [9, 11, 45] (fun bv _ kv wr => ∃ k : Nat, k ≤ h ∧ kv = .int .i64 k ∧ Hid (wr.ownsRow w3.heap.size 5 1 bv (B.length + k * 8) ((B ++ (p.take k).flatten).map (.int .u8))) ∧ Hid (Below w3.heap.size w3 wr)) (fun _ _ kv _ => h - (intOf kv).toNat)
    case atStart => exact ⟨0, Nat.zero_le _, rfl, HO0, HBd⟩
    case round =>
      obtain ⟨k, hk, rfl, HO, HB⟩ := hrel
      by_cases hlt : k < h
      · have hki : (k : Int) < h := by omega
        have hk0 : (0 : Int) ≤ k := by omega
        obtain ⟨Y, hY⟩ : ∃ Y, p[k]? = some Y := ⟨p[k]'(by omega), List.getElem?_eq_getElem _⟩
        have hsd := HPS.out.below HB.out
        obtain ⟨b2, o, rfl, _, _⟩ := hsd.spot (by omega) (by omega)
        have hr : wr.rangeAt b2 (o + k * 8) (dl Y) := sl_dgl hsd HPO.out hY
        have HTO : Hid (DgOk Y) := HPO.out Y (List.mem_of_getElem? hY)
        have HR := Lib.hid hr
        have HSK := Lib.hid (HFS.out k Y hY)
        clear hr hsd hY
        go_wp2_with (first
          | (with_reducible refine wpList_load_mid rfl 23 _ rfl b2 (o + k * 8) rfl (dl Y) _ HR.out Tryd.underlying23 rfl (hdg_size _ HTO.out) ?_)
          | (with_reducible refine stop_store 23 _ _ rfl ?_))
        refine StopD.go ?_
        obtain ⟨g5, hg5⟩ : ∃ g, wr.heap.size = g := ⟨_, rfl⟩
        have hbn : Below wr.heap.size wr (wr.alloc (.cells #[.int .u8 0, .int .u8 0, .int .u8 0, .int .u8 0, .int .u8 0, .int .u8 0, .int .u8 0, .int .u8 0] 23)) := below_new wr _
        have kt : Bk (wr.alloc (.cells #[.int .u8 0, .int .u8 0, .int .u8 0, .int .u8 0, .int .u8 0, .int .u8 0, .int .u8 0, .int .u8 0] 23)) g5 23 ([] ++ (dl zeroD ++ [])) := by rw [← hg5]; exact Bk.new' wr _ #[.int .u8 0, .int .u8 0, .int .u8 0, .int .u8 0, .int .u8 0, .int .u8 0, .int .u8 0, .int .u8 0] rfl
        rw [hg5]
        refine wpList_store_part rfl 23 _ _ rfl g5 0 (.agg (dl Y).toArray) (dl Y) rfl rfl rfl 23 [] (dl zeroD) [] kt rfl (by rw [dl_len, dl_len, HTO.out.len]; rfl) (hdg_size _ HTO.out) (dl_one' _) ?_
        intro w5 hp
        have hbn : Below wr.heap.size wr w5 := hbn.grown hp.only hbn.size (fun q hq => by injection hq with hq; omega)
        have HT5 : Hid (Bk w5 g5 23 (dl Y)) := by show Bk _ _ _ _; have := hp.bk; simpa using this
        clear hp kt
        clear hg5
        have HO5 := Lib.hid (own_keep HO.out hbn); have HB5 := Lib.hid (HB.out.trans (hbn.mono HB.out.size))
        have HS5 : Hid (Sl w5 w5.heap.size 1 (some ⟨g5, 0, none⟩) 8 (dl Y)) := HT5.out.sl (by rw [dl_len, HTO.out.len]) (by omega) (fun j u h => h)
        clear hbn HO HB HR
        go_wp2_with (at_builtin; refine stop_here2 ?_)
        refine StopD.go ?_
        have hbl := HBL.out
        refine wpList_app _ rfl (.tmp 49) (.tmp 50) 29 rfl w3.heap.size 5 i0 (.int .u8 0) 1 1 Tryd.underlying29 hi hi0 hi1 hi2 rfl (by decide) _ _ _ rfl HO5.out _ _ _ _ _ rfl HS5.out (dl_one' _) (by unfold maxLen; omega) (by omega) HB5.out.size ?_
        intro v6 w6 hown hgr hat
        have HB6 := Lib.hid (grown_below HB5.out HO5.out hgr (Nat.le_refl _) HB5.out.size)
        have HO6 : Hid (w6.ownsRow w3.heap.size 5 1 v6 (B.length + (k + 1) * 8) ((B ++ (p.take (k + 1)).flatten).map (.int .u8))) := by
          show World.ownsRow _ _ _ _ _ _ _
          rw [HSK.out, show B.length + (k + 1) * 8 = B.length + k * 8 + 8 by omega]; exact hown
        clear hown hgr hat HO5 HB5 HS5 HT5
        go_wp2_with fail
        go_roundw
        case rel => exact ⟨k + 1, hlt, by go_num, HO6, HB6⟩
        case measure => simp [intOf]; omega
      · have hki : ¬ ((k : Int) < h) := by omega
        obtain rfl : k = h := by omega
        go_wp2_with fail
        go_ret2
        have hb3 : w.heap.size ≤ w3.heap.size := HC3.out.size
        have ho := own_base HO.out hb3
        rw [HSG.out] at ho
        refine ⟨_, V2, rfl, ?_, ?_, HC3.out.then_below HB.out, HV2.out⟩
        · rw [HFL.out]; exact ho
        · exact HR3.out.later HB.out
  · have hpi : resI (2 ^ h) L m = 0 := by rw [resI, if_neg hmem]
    have hpe : resE (2 ^ h) L m = 17 := by rw [resE, if_neg hmem]
    have hsr : sgR sec h L m = [] := by rw [sgR, if_neg hmem]
    unfold RetRes at HRS
    rw [hpi, hpe] at HRS
    rw [hpe, hsr]
    obtain ⟨L2, hL2⟩ : ∃ x, stepL (2 ^ h) L m = x := ⟨_, rfl⟩
    rw [hL2] at HRS ⊢
    rw [hX]
    rw [hX] at HRS
    clear hX hw1 hb1 kx hz hm r hmem hpi hpe hsr hL2
    go_enter Tryd.func10, Tryd.ntmps10
    go_upto_region 1 with fail
    rw [HW.out, HZ.out]
    go_wp2_with (with_reducible refine wpList_load_bk rfl 23 _ rfl z rfl (dl m) 23 HX1.out _ Tryd.underlying23 rfl (hdg_size _ HMO.out) ?_)
    rw [HXE.out]
    refine HRS.out.mono ?_
    rintro e w2 ⟨rfl, V2, hr2, hc2, hv2⟩
    have HR2 := Lib.hid hr2; have HC2 := Lib.hid (Chg.after_below HB1.out hc2)
    have HV2 : Hid (NewV w V V2) := by
      rcases hv2 with h | h
      · exact .inl h
      · exact .inr fun q hq => Nat.le_trans HB1.out.size (h q hq)
    clear hr2 hc2 hv2 HRS
    go_wp2_with fail
    go_ret2
    exact ⟨_, V2, rfl, World.ownsRow_nil _ _ _ _, HR2.out, HC2.out, HV2.out⟩
end Go.Proofs.YtakfdlokgddaoaaDoor
