/- The document's head of a block, and its fees. -/
import Derived.Test.YtbpmomedhdmloaaGreatDoorD4
namespace Go.Proofs.YtbpmomedhdmloaaGreatDoor
set_option linter.unusedSimpArgs false
set_option linter.unusedVariables false
open Go.RowKit Go.Maps

set_option maxRecDepth 20000 in
set_option maxHeartbeats 8000000 in
theorem rhead26_any (w : World) (p : List Int) (h : Int) (m : List Int) (hp : DgOk p) (hm : DgOk m) (A : Option Addr) (N C : Nat) (h0 : 0 ≤ h) (h1 : h ≤ 1099511627776) (hN : N ≤ 1000) :
    Calls Tryz.prog 40 #[.agg (bkC p h m (.slice A N C)).toArray] w (RetB w.heap.size (headB p h m N) w) := by
  obtain ⟨q, rfl⟩ := Int.eq_ofNat_of_zero_le h0
  obtain ⟨l, hl0⟩ : ∃ x, bkC p q m (.slice A N C) = x := ⟨_, rfl⟩
  obtain ⟨X, hX⟩ : ∃ X, l.toArray = X := ⟨_, rfl⟩
  obtain ⟨z, hz⟩ : ∃ z, w.heap.size = z := ⟨_, rfl⟩
  obtain ⟨w1, hw1⟩ : ∃ w1, w.alloc (.cells X 25) = w1 := ⟨_, rfl⟩
  have hb1 : Below w.heap.size w w1 := hw1 ▸ below_new w _
  have kx : Bk w1 z 25 l := hw1 ▸ Bk.at_ w _ X hz (by rw [← hX])
  have HM : Hid (∀ w' g', Bk w' g' 25 l → BkcM w' g' p q m (.slice A N C)) := fun w' g' h' => by rw [← hl0] at h'; exact bkc_mem hp hm h'
  have HW := Lib.hid hw1; have HZ := Lib.hid hz; have HPO := Lib.hid hp; have HMO := Lib.hid hm
  have HR1 : Hid (RyS 25 w w1 z l (.slice none 0 0) []) := ⟨kx, World.ownsRow_nil _ _ _ _, hb1⟩
  rw [hl0, hX]
  have hu1 : IntKind.u64.wrap (q : Int) = (q : Int) := by rw [IntKind.wrap_u64]; omega
  have hu2 : IntKind.u64.wrap (N : Int) = (N : Int) := by rw [IntKind.wrap_u64]; omega
  have N1 := Lib.hid (fun w' => rNum_any w' (numN p) (numN_lt hp)); have N2 := Lib.hid (fun w' => rNum_any w' q (by show q < _; omega)); have N3 := Lib.hid (fun w' => rNum_any w' (numN m) (numN_lt hm)); have N4 := Lib.hid (fun w' => rNum_any w' N (by show N < _; omega))
  have D1 : Hid (∀ w', Calls Tryz.prog 42 #[.agg (dl p).toArray] w' fun e w'' => e = .returned (.int .u64 ((numN p : Nat) : Int)) ∧ Below w'.heap.size w' w'') := fun w' => rnum_anyb hp w'
  have D2 : Hid (∀ w', Calls Tryz.prog 42 #[.agg (dl m).toArray] w' fun e w'' => e = .returned (.int .u64 ((numN m : Nat) : Int)) ∧ Below w'.heap.size w' w'') := fun w' => rnum_anyb hm w'
  have HFIN : Hid (headB p q m N = ((numB (numN p) ++ numB q) ++ numB (numN m)) ++ numB N) := rfl
  obtain ⟨k1, hk1⟩ : ∃ k, numN p = k := ⟨_, rfl⟩
  obtain ⟨k3, hk3⟩ : ∃ k, numN m = k := ⟨_, rfl⟩
  rw [hk1] at N1 D1 HFIN; rw [hk3] at N3 D2 HFIN
  obtain ⟨x1, hx1⟩ : ∃ x, numB k1 = x := ⟨_, rfl⟩
  obtain ⟨x2, hx2⟩ : ∃ x, numB q = x := ⟨_, rfl⟩
  obtain ⟨x3, hx3⟩ : ∃ x, numB k3 = x := ⟨_, rfl⟩
  obtain ⟨x4, hx4⟩ : ∃ x, numB N = x := ⟨_, rfl⟩
  have L1 : Hid (x1.length ≤ 10) := by show _ ≤ 10; rw [← hx1]; exact numB_le _
  have L2 : Hid (x2.length ≤ 10) := by show _ ≤ 10; rw [← hx2]; exact numB_le _
  have L3 : Hid (x3.length ≤ 10) := by show _ ≤ 10; rw [← hx3]; exact numB_le _
  have L4 : Hid (x4.length ≤ 10) := by show _ ≤ 10; rw [← hx4]; exact numB_le _
  rw [hx1] at N1 HFIN; rw [hx2] at N2 HFIN; rw [hx3] at N3 HFIN; rw [hx4] at N4 HFIN
  clear hl0 hX hz hw1 hb1 kx hp hm hk1 hk3 hx1 hx2 hx3 hx4
  go_enter Tryz.func40, Tryz.ntmps40
  go_upto_region 1 with fail
  rw [HW.out, HZ.out]
  refine wp_region_held_drew (S := fun w' => Bk w' z 25 l) (by kernel_rfl) (Bk.drew HR1.out.lk) (fun hHeld => ?_)
  have hbd2 : Below w1.heap.size w1 w1.drew := below_draws w1 w1.heap.size 1
  obtain ⟨wa, hwa⟩ : ∃ wa, w1.drew = wa := ⟨_, rfl⟩
  rw [hwa] at hbd2 hHeld ⊢
  have HRa := Lib.hid (HR1.out.later hbd2)
  clear hwa hbd2 HR1
  refine wpAnyH_take (i := 0) (v := ?_) rfl (by kernel_rfl) (by kernel_rfl) (by kernel_rfl) (fun _ _ _ h => h) (Or.inl ⟨by rfl, ?_⟩) (by assumption) ?_
  rotate_left
  · intro w hSw
    (try dsimp only at hSw)
    go_simp
    try with_reducible rfl
  try simp only [Act.put, List.setIfInBounds_toArray, List.set_cons_zero, List.set_cons_succ, List.getElem_toArray, List.getElem_cons_zero, List.getElem_cons_succ]
  refine wpAnyH_take (i := 4) (v := ?_) rfl (by kernel_rfl) (by kernel_rfl) (by kernel_rfl) (fun _ _ _ h => h) (Or.inl ⟨by rfl, ?_⟩) (by assumption) ?_
  rotate_left
  · intro w hSw
    (try dsimp only at hSw)
    go_simp
    try with_reducible rfl
  try simp only [Act.put, List.setIfInBounds_toArray, List.set_cons_zero, List.set_cons_succ, List.getElem_toArray, List.getElem_cons_zero, List.getElem_cons_succ]
  refine wpAnyH_take (i := 1) (v := .agg (List.toArray (dl p))) rfl (by kernel_rfl) (by kernel_rfl) (by kernel_rfl) (fun _ _ _ h => h) (yieldsIf_load_mid (by rfl) _ _ rfl _ _ rfl (dl p) _ (fun w hSw => (HM.out _ _ hSw).r0) Tryz.underlying22 rfl (rdg_szd HPO.out)) (by assumption) ?_
  try simp only [Act.put, List.setIfInBounds_toArray, List.set_cons_zero, List.set_cons_succ, List.getElem_toArray, List.getElem_cons_zero, List.getElem_cons_succ]
  refine wpAnyH_take (i := 5) (v := ?_) rfl (by kernel_rfl) (by kernel_rfl) (by kernel_rfl) (fun _ _ _ h => h) (Or.inl ⟨by rfl, ?_⟩) (by assumption) ?_
  rotate_left
  · intro w hSw
    have hcell := (HM.out _ _ hSw).c8
    clear hSw
    go_simp
    try with_reducible rfl
  try simp only [Act.put, List.setIfInBounds_toArray, List.set_cons_zero, List.set_cons_succ, List.getElem_toArray, List.getElem_cons_zero, List.getElem_cons_succ]
  refine wpAnyH_take (i := 6) (v := ?_) rfl (by kernel_rfl) (by kernel_rfl) (by kernel_rfl) (fun _ _ _ h => h) (Or.inl ⟨by rfl, ?_⟩) (by assumption) ?_
  rotate_left
  · intro w hSw
    (try dsimp only at hSw)
    go_simp
    try with_reducible rfl
  try simp only [Act.put, List.setIfInBounds_toArray, List.set_cons_zero, List.set_cons_succ, List.getElem_toArray, List.getElem_cons_zero, List.getElem_cons_succ]
  refine wpAnyH_ready (rs := [2]) (by kernel_rfl) (by simp) ?_
  refine AllReadyH.cons rfl (fun K hK => ?_) AllReadyH.nil
  go_simp
  (refine (D1.out wa).mono ?_; rintro e wb ⟨rfl, hbn⟩; have HRb := Lib.hid (HRa.out.later hbn); clear hbn HRa)
  refine hK.out _ _ (HRb.out.lk) (fun hHeld => ?_)
  clear hK K
  try simp only [Act.put, List.setIfInBounds_toArray, List.set_cons_zero, List.set_cons_succ, List.getElem_toArray, List.getElem_cons_zero, List.getElem_cons_succ]
  refine wpAnyH_ready (rs := [3]) (by kernel_rfl) (by simp) ?_
  refine AllReadyH.cons rfl (fun K hK => ?_) AllReadyH.nil
  go_simp
  (refine (N1.out wb).mono ?_; rintro e wc ⟨v2, rfl, hown⟩; have HRc : Hid (RyS 25 w wc z l v2 x1) := ⟨(HRb.out.later hown.2).lk, own_base hown.1 HRb.out.hb.size, (HRb.out.later hown.2).hb⟩; clear hown HRb)
  refine hK.out _ _ (HRc.out.lk) (fun hHeld => ?_)
  clear hK K
  try simp only [Act.put, List.setIfInBounds_toArray, List.set_cons_zero, List.set_cons_succ, List.getElem_toArray, List.getElem_cons_zero, List.getElem_cons_succ]
  obtain ⟨A2, c2, hv2⟩ := HRc.out.form
  subst hv2
  refine wpAnyH_ready (rs := [7]) (by kernel_rfl) (by simp) ?_
  refine AllReadyH.cons rfl (fun K hK => ?_) AllReadyH.nil
  go_simp
  (refine (N2.out wc).mono ?_; rintro e wd ⟨v3, rfl, hown⟩; obtain ⟨A3, c3, rfl⟩ := hown.form; have HRd := Lib.hid (HRc.out.later hown.2); have HPd := Lib.hid hown.1; clear hown HRc)
  refine hK.out _ _ (HRd.out.lk) (fun hHeld => ?_)
  clear hK K
  try simp only [Act.put, List.setIfInBounds_toArray, List.set_cons_zero, List.set_cons_succ, List.getElem_toArray, List.getElem_cons_zero, List.getElem_cons_succ]
  refine wpAnyH_ready (rs := [8]) (by kernel_rfl) (by simp) ?_
  refine AllReadyH.cons rfl (fun K hK => ?_) AllReadyH.nil
  rw [if_pos (by rfl)]
  obtain ⟨i0, hi, hi0, hi1, hi2⟩ := info_parts Tryz.infoU8
  refine wp_app _ (.tmp 7) (.tmp 11) 60 rfl w.heap.size 5 i0 (.int .u8 0) 1 1 Tryz.underlying60 hi hi0 hi1 hi2 rfl (by decide) _ _ _ rfl HRd.out.ro _ _ _ _ _ rfl (Sl.of_own HPd.out) (ints_one _ _) (by unfold maxLen; have := L1.out; have := L2.out; omega) (by have := L1.out; have := L2.out; omega) HRd.out.hb.size ?_
  intro v9 we hown hg hat
  have HRe := Lib.hid (RyS.app (by decide) HRd.out hown hg)
  clear hown hg hat hi hi0 hi1 hi2 i0
  refine hK.out _ _ HRe.out.lk (fun hHeld => ?_)
  clear hK K
  try simp only [Act.put, List.setIfInBounds_toArray, List.set_cons_zero, List.set_cons_succ, List.getElem_toArray, List.getElem_cons_zero, List.getElem_cons_succ]
  clear HRd HPd
  refine wpAnyH_take (i := 9) (v := ?_) rfl (by kernel_rfl) (by kernel_rfl) (by kernel_rfl) (fun _ _ _ h => h) (Or.inl ⟨by rfl, ?_⟩) (by assumption) ?_
  rotate_left
  · intro w hSw
    (try dsimp only at hSw)
    go_simp
    try with_reducible rfl
  try simp only [Act.put, List.setIfInBounds_toArray, List.set_cons_zero, List.set_cons_succ, List.getElem_toArray, List.getElem_cons_zero, List.getElem_cons_succ]
  refine wpAnyH_done (by kernel_rfl) ?_ _
  clear hHeld
  obtain ⟨e1, he1⟩ : ∃ e, x1 ++ x2 = e := ⟨_, rfl⟩
  have E1 : Hid (e1.length ≤ 20) := by show _ ≤ 20; rw [← he1, List.length_append]; have := L1.out; have := L2.out; omega
  rw [he1] at HRe HFIN
  obtain ⟨A4, c4, hv4⟩ := HRe.out.form
  subst hv4
  clear he1
  have HR9 := Lib.hid (HM.out _ _ HRe.out.lk).r9
  go_wp2_with (with_reducible refine wpList_load_mid rfl 22 _ rfl z 9 rfl (dl m) _ HR9.out Tryz.underlying22 rfl (rdg_szd HMO.out) ?_)
  refine (D2.out we).mono ?_
  rintro e wf ⟨rfl, hbn⟩
  have HRf := Lib.hid (HRe.out.later hbn)
  clear hbn HRe HR9
  go_wp2_with fail
  refine (N3.out wf).mono ?_
  rintro e wg ⟨v3, rfl, hown⟩
  obtain ⟨A3, c3, rfl⟩ := hown.form
  have HRg := Lib.hid (HRf.out.later hown.2); have HPg := Lib.hid hown.1
  clear hown HRf
  go_wp2_with (at_builtin; refine stop_here2 ?_)
  refine StopD.go ?_
  obtain ⟨i0, hi, hi0, hi1, hi2⟩ := info_parts Tryz.infoU8
  refine wpList_app _ rfl (.tmp 13) (.tmp 17) 60 rfl w.heap.size 5 i0 (.int .u8 0) 1 1 Tryz.underlying60 hi hi0 hi1 hi2 rfl (by decide) _ _ _ rfl HRg.out.ro _ _ _ _ _ rfl (Sl.of_own HPg.out) (ints_one _ _) (by unfold maxLen; have := E1.out; have := L3.out; omega) (by have := E1.out; have := L3.out; omega) HRg.out.hb.size ?_
  intro v9 wh hown hg hat
  have HRh := Lib.hid (RyS.app (by decide) HRg.out hown hg)
  clear hown hg hat hi hi0 hi1 hi2 i0
  clear HRg HPg
  obtain ⟨e2, he2⟩ : ∃ e, e1 ++ x3 = e := ⟨_, rfl⟩
  have E2 : Hid (e2.length ≤ 30) := by show _ ≤ 30; rw [← he2, List.length_append]; have := E1.out; have := L3.out; omega
  rw [he2] at HRh HFIN
  obtain ⟨A5, c5, hv5⟩ := HRh.out.form
  subst hv5
  clear he2
  have c17 := (HM.out _ _ HRh.out.lk).c17
  go_wp2_with fail
  clear c17
  refine (N4.out wh).mono ?_
  rintro e wi ⟨v3, rfl, hown⟩
  obtain ⟨A6, c6, rfl⟩ := hown.form
  have HRi := Lib.hid (HRh.out.later hown.2); have HPi := Lib.hid hown.1
  clear hown HRh
  go_wp2_with (at_builtin; refine stop_here2 ?_)
  refine StopD.go ?_
  obtain ⟨i0, hi, hi0, hi1, hi2⟩ := info_parts Tryz.infoU8
  refine wpList_app _ rfl (.tmp 19) (.tmp 24) 60 rfl w.heap.size 5 i0 (.int .u8 0) 1 1 Tryz.underlying60 hi hi0 hi1 hi2 rfl (by decide) _ _ _ rfl HRi.out.ro _ _ _ _ _ rfl (Sl.of_own HPi.out) (ints_one _ _) (by unfold maxLen; have := E2.out; have := L4.out; omega) (by have := E2.out; have := L4.out; omega) HRi.out.hb.size ?_
  intro v9 wj hown hg hat
  have HRj := Lib.hid (RyS.app (by decide) HRi.out hown hg)
  clear hown hg hat hi hi0 hi1 hi2 i0
  clear HRi HPi
  go_wp2_with fail
  go_ret
  refine ⟨_, rfl, ?_, HRj.out.hb⟩
  rw [HFIN.out]
  exact HRj.out.ro
theorem Txg.mid9 {w wk : World} {cs : List Value} {t : TxT} {b q : Nat} (h : Txg w cs t) (hr : wk.rangeAt b q cs) : wk.cell? ⟨b, q + 9, none⟩ = some (.int .i64 t.e) := by
  obtain ⟨⟨A, B, N, C, M, D, rfl, _⟩, ok⟩ := h
  have hf : t.f.length = 8 := ok.f.len
  refine hr 9 _ ?_
  rw [txC, List.getElem?_append_right (by rw [dl_len, hf]; omega), dl_len, hf]; rfl
set_option maxRecDepth 20000 in
set_option maxHeartbeats 4000000 in
theorem rbFees_any (w : World) (p : List Int) (h : Int) (m : List Int) (hp : DgOk p) (hm : DgOk m) (A : Option Addr) (N C : Nat) (xs : List (List Value × TxT)) (hx : Txs w A N xs) :
    Calls Tryz.prog 14 #[.agg (bkC p h m (.slice A N C)).toArray] w fun e w' => e = .returned (.tuple #[.int .i64 (feeV h (xs.map (·.2))), .int .i64 (blkE h (xs.map (·.2)))]) ∧ Below w.heap.size w w' := by
  have HRE := Lib.hid (fun (w' : World) (hx' : Txs w' A N xs) => rbright_any w' p h m hp hm A N C xs hx')
  have HBS := Lib.hid (rblk_sz (h := h) (s := .slice A N C) hp hm)
  obtain ⟨l, hl⟩ : ∃ x, bkC p h m (.slice A N C) = x := ⟨_, rfl⟩
  obtain ⟨X, hX⟩ : ∃ X, l.toArray = X := ⟨_, rfl⟩
  obtain ⟨z, hz⟩ : ∃ z, w.heap.size = z := ⟨_, rfl⟩
  obtain ⟨w1, hw1⟩ : ∃ w1, w.alloc (.cells X 25) = w1 := ⟨_, rfl⟩
  have hb1 : Below w.heap.size w w1 := hw1 ▸ below_new w _
  have kx : Bk w1 z 25 l := hw1 ▸ Bk.at_ w _ X hz (by rw [← hX])
  have hbm := bkc_mem hp hm (by rw [hl]; exact kx)
  have c8 := hbm.c8; have c17 := hbm.c17
  have HW := Lib.hid hw1; have HBB1 := Lib.hid hb1; have HZ := Lib.hid hz; have HK1 := Lib.hid kx; have HPO := Lib.hid hp; have HMO := Lib.hid hm; have HXE := Lib.hid hX; have HLE := Lib.hid hl
  have HXS := Lib.hid (hx.later hb1); have HLN := Lib.hid hx.length
  rw [hl, hX]
  clear hl hX hw1 hb1 kx hbm hz hp hm hx
  rw [HLE.out] at HBS HRE
  rw [HXE.out] at HRE
  obtain ⟨L, hL⟩ : ∃ L, xs.map (·.2) = L := ⟨_, rfl⟩
  rw [hL] at HRE ⊢
  have HL := Lib.hid hL
  obtain ⟨E, hE⟩ : ∃ E, blkE h L = E := ⟨_, rfl⟩
  have HFV : Hid (feeV h L = if E = 0 then feesS L else 0) := by show _ = _; rw [feeV, hE]
  rw [hE] at HRE ⊢
  have HE := Lib.hid hE
  clear hL hE
  go_enter Tryz.func14, Tryz.ntmps14
  go_upto_region 1 with fail
  rw [HW.out, HZ.out]
  go_wp2_with (with_reducible refine wpList_load_bk rfl 25 _ rfl z rfl l 25 HK1.out _ Tryz.underlying25 rfl HBS.out ?_)
  rw [HXE.out]
  refine (HRE.out w1 HXS.out).mono ?_
  rintro e w2 ⟨rfl, hbn⟩
  have HB2 := Lib.hid (below_then HBB1.out hbn); have HX2 := Lib.hid (HXS.out.later hbn); have HK2 := Lib.hid (HK1.out.later hbn)
  clear hbn HXS HK1 HBB1 c8 c17
  by_cases hE0 : E = 0
  · subst hE0
    have hz := blkE_zero HE.out
    have HN : Hid (N ≤ 1000) := by show N ≤ 1000; have := hz.2.1; rw [← HL.out, List.length_map, HLN.out] at this; omega
    have HF0 : Hid (feeV h L = feesS L) := by have := HFV.out; rwa [if_pos rfl] at this
    have HFO := Lib.hid (fees_ok HE.out)
    clear hz
    go_wp2_with fail
    go_loopw [5, 6] (fun sv iv wr => ∃ i : Nat, i ≤ N ∧ iv = .int .i64 i ∧ sv = .int .i64 (feesS (L.take i)) ∧ Hid (0 ≤ feesS (L.take i) ∧ feesS (L.take i) ≤ i * 1125899906842624) ∧ Hid (Below w2.heap.size w2 wr)) (fun _ iv _ => N - (intOf iv).toNat)
    case atStart => exact ⟨0, Nat.zero_le _, rfl, rfl, ⟨Int.le_refl _, Int.le_refl _⟩, Below.refl _ _⟩
    case round =>
      obtain ⟨i, hi, rfl, rfl, HF, HB⟩ := hrel
      have hbm := bkc_mem HPO.out HMO.out (by rw [HLE.out]; exact HK2.out.later HB.out)
      have c17 := hbm.c17
      clear hbm
      obtain ⟨F, hF⟩ : ∃ F, feesS (L.take i) = F := ⟨_, rfl⟩
      have HFE := Lib.hid hF
      rw [hF] at HF ⊢
      clear hF
      by_cases hlt : i < N
      · have hki : (i : Int) < N := by omega
        have hk0 : (0 : Int) ≤ i := by omega
        have HIN := Lib.hid hlt
        obtain ⟨⟨cs, t⟩, hx⟩ : ∃ x, xs[i]? = some x := ⟨xs[i]'(by rw [HLN.out]; omega), List.getElem?_eq_getElem _⟩
        have hg : Txg wr cs t := (HX2.out.later HB.out).th (cs, t) (List.mem_of_getElem? hx)
        obtain ⟨b, o, rfl, hr, hbl⟩ := HX2.out.at_ HB.out hx
        have hr : wr.rangeAt b (o + i * 13) cs := hr
        have hLk : L[i]? = some t := by rw [← HL.out, List.getElem?_map, hx]; rfl
        have c9 := hg.mid9 hr
        have hfee := HFO.out t (List.mem_of_getElem? hLk)
        have hF := HF.out
        have hwr : wrap64 (F + t.e) = F + t.e := IntWalk.wrap64_in _ (by have := HN.out; have := HIN.out; omega)
        have HF2 : Hid (0 ≤ feesS (L.take (i + 1)) ∧ feesS (L.take (i + 1)) ≤ (i + 1 : Nat) * 1125899906842624) := by show _ ∧ _; rw [feesS_take hLk, HFE.out]; omega
        have HS2 : Hid (F + t.e = feesS (L.take (i + 1))) := by show _ = _; rw [feesS_take hLk, HFE.out]
        have hiw : wrap64 ((i : Int) + 1) = i + 1 := IntWalk.wrap64_in _ (by have := HN.out; have := HIN.out; omega)
        clear hg hr hx hLk hbl hfee hF
        go_wp2_with fail
        go_roundw
        case rel => exact ⟨i + 1, HIN.out, by rw [hiw]; rfl, by rw [hwr, HS2.out], HF2, HB⟩
        case measure => rw [hiw]; simp [intOf]; have := HIN.out; omega
      · have hki : ¬ ((i : Int) < N) := by omega
        obtain rfl : i = N := by omega
        have HFF : Hid (feeV h L = F) := by show _ = _; rw [HF0.out, ← HFE.out, List.take_of_length_le (by rw [← HL.out, List.length_map, HLN.out]; exact Nat.le_refl _)]
        go_wp2_with fail
        go_ret2
        exact ⟨by rw [HFF.out]; rfl, below_then HB2.out HB.out⟩
  · have hd1 : (E != 0) = true := by simp [hE0]
    have HF0 : Hid (feeV h L = 0) := by have := HFV.out; rwa [if_neg hE0] at this
    clear hE0
    go_wp2_with fail
    go_ret2
    exact ⟨by rw [HF0.out]; rfl, HB2.out⟩
end Go.Proofs.YtbpmomedhdmloaaGreatDoor
