/- A lock's name: the document's. -/
import Derived.Test.YtbclfjdamklbpaaM4
namespace Go.Proofs.Ytbclfjdamklbpaa
set_option linter.unusedSimpArgs false
set_option linter.unusedVariables false
open Go.RowKit Go.Maps

theorem wp_conv {P : Program} {o : Oper} {a : Act} {w : World} {K : Act → World → Prop} {Q : Exit → Act → World → Prop} (s d : TypeId) (x : Operand) (ho : o.op = .convert s d x) (X V : Value) (hx : a.eval x = X) (w' : World)
    (hb : (convert s d X).run P w = .ok V w') (h : K (a.put o.dst V) w') : o.wp P a w K Q := by
  unfold Oper.wp
  simp [execOp, ho, hx, hb, Result.andThen]
  exact h
theorem bs_txt (w : World) : (Instr.buildSlice 56 4 #[(0, .int .u8 108), (1, .int .u8 111), (2, .int .u8 99), (3, .int .u8 107)]).run Try.prog w = .ok (.slice (some ⟨w.heap.size, 0, none⟩) 4 4) (w.alloc (.cells (txtLock.map (.int .u8)).toArray 5)) := by kernel_rfl
set_option maxRecDepth 20000 in
set_option maxHeartbeats 4000000 in
theorem rlname_any (w : World) (k s c : Nat) (u : Int) (h : List Int) (ks : List (List Int)) (A : Option Addr) (N C : Nat) (hk : LkK w ⟨k, h, ks, s, c, u⟩ A N) (b1 : k < 4611686018427387904) (b2 : s < 4611686018427387904) (b3 : c < 4611686018427387904) :
    Calls Try.prog 35 #[.agg (lkC ⟨k, h, ks, s, c, u⟩ (.slice A N C)).toArray] w fun e w' => e = .returned (.agg (dl (nmI k h ks s c)).toArray) ∧ Below w.heap.size w w' := by
  have hh : DgOk h := hk.h
  have HHO := Lib.hid hh
  have HK0 : Hid (LkK w ⟨k, h, ks, s, c, (0 : Nat)⟩ A N) := ⟨hk.k, hk.ko, hk.h, hk.n⟩
  have HKL : Hid (ks.length = N) := hk.k.dgs hk.ko
  have HKO : Hid (DsOk ks) := hk.ko
  obtain ⟨X, hX⟩ : ∃ X, (lkC ⟨k, h, ks, s, c, u⟩ (.slice A N C)).toArray = X := ⟨_, rfl⟩
  obtain ⟨z, hz⟩ : ∃ z, w.heap.size = z := ⟨_, rfl⟩
  obtain ⟨w1, hw1⟩ : ∃ w1, (w.alloc (.cells X 44)).alloc (.cells #[.int .u8 0, .int .u8 0, .int .u8 0, .int .u8 0, .int .u8 0, .int .u8 0, .int .u8 0, .int .u8 0] 22) = w1 := ⟨_, rfl⟩
  have hb1 : Below w.heap.size w w1 := hw1 ▸ (below_new w _).alloc (by simp) _
  have kx : Bk w1 z 44 (lkC ⟨k, h, ks, s, c, u⟩ (.slice A N C)) := hw1 ▸ (Bk.at_ w _ X hz (by rw [← hX])).alloc _
  have kr : Bk w1 (z + 1) 22 (dl zeroD) := hw1 ▸ Bk.at_ _ _ _ (by simp [hz]) rfl
  have HW := Lib.hid hw1; have HB1 := Lib.hid hb1; have HL1 := Lib.hid kx; have HR1 := Lib.hid kr; have HZ := Lib.hid hz
  have hn1 : N ≤ 1000 := hk.n
  have HBD : Hid (k < 4611686018427387904 ∧ s < 4611686018427387904 ∧ c < 4611686018427387904 ∧ N ≤ 1000) := ⟨b1, b2, b3, hn1⟩
  rw [hX]
  clear hX hw1 hb1 kx kr hh hk hz b1 b2 b3
  go_enter Try.func35, Try.ntmps35
  go_upto_region 1 with fail
  rw [HW.out, HZ.out]
  go_wp2_with (with_reducible refine stop_store 3 _ _ rfl ?_)
  refine StopD.go ?_
  refine wpList_store_part rfl 3 _ _ rfl z 12 (.int .i64 0) [.int .i64 0] rfl rfl rfl 44 (.int .i64 k :: dl h ++ [.slice A N C, .int .i64 s, .int .i64 c]) [.int .i64 u] [] (by have := HL1.out; simpa [lkC] using this) (by simp [dl_len, HHO.out.len]) rfl (by kernel_rfl) (by intro x hx; simp at hx; subst hx; rfl) ?_
  intro w2 hp
  have HL2 : Hid (Bk w2 z 44 (lkC ⟨k, h, ks, s, c, (0 : Nat)⟩ (.slice A N C))) := by show Bk _ _ _ _; have := hp.bk; simpa [lkC] using this
  have HB2 := Lib.hid (below_only HB1.out hp.only HB1.out.size (Nat.le_of_eq HZ.out))
  have HR2 := Lib.hid (HR1.out.grown hp.only (by intro e; injection e with e; omega))
  clear hp HL1 HB1 HR1
  have HSL : Hid ((Try.prog.info? 44).map (·.size) = some (lkC ⟨k, h, ks, s, c, (0 : Nat)⟩ (.slice A N C)).length) := rlk_sz (L := ⟨k, h, ks, s, c, (0 : Nat)⟩) HHO.out _
  go_wp2_with fail
  refine wp_region_held_drew (S := fun w' => Bk w' z 44 (lkC ⟨k, h, ks, s, c, (0 : Nat)⟩ (.slice A N C))) (by kernel_rfl) (Bk.drew HL2.out) (fun hHeld => ?_)
  have hbd : Below w2.heap.size w2 w2.drew := below_draws w2 w2.heap.size 1
  obtain ⟨wa, hwa⟩ : ∃ wa, w2.drew = wa := ⟨_, rfl⟩
  rw [hwa] at hbd hHeld ⊢
  have HLa := Lib.hid (HL2.out.later hbd); have HRa := Lib.hid (HR2.out.later hbd); have HBa := Lib.hid (below_then HB2.out hbd)
  clear hwa hbd HL2 HR2 HB2
  refine wpAnyH_take (i := 3) (v := .agg (List.toArray (lkC ⟨k, h, ks, s, c, (0 : Nat)⟩ (.slice A N C)))) rfl (by kernel_rfl) (by kernel_rfl) (by kernel_rfl) (fun _ _ _ h => h) (yieldsIf_load_mid (by rfl) _ _ rfl _ _ rfl (lkC ⟨k, h, ks, s, c, (0 : Nat)⟩ (.slice A N C)) _ (fun w hSw => (Bk.range (pre := []) (post := []) (by simpa using hSw) rfl)) Try.underlying44 rfl (HSL.out)) (by assumption) ?_
  try simp only [Act.put, List.setIfInBounds_toArray, List.set_cons_zero, List.set_cons_succ, List.getElem_toArray, List.getElem_cons_zero, List.getElem_cons_succ]
  obtain ⟨t1, ht1⟩ : ∃ x, lstB txtLock = x := ⟨_, rfl⟩
  obtain ⟨t2, ht2⟩ : ∃ x, lkB k h ks s c 0 = x := ⟨_, rfl⟩
  have HT1L : Hid (t1.length ≤ 20) := by show _ ≤ 20; rw [← ht1]; decide
  have HT2L : Hid (t2.length ≤ 18100) := by show _ ≤ 18100; rw [← ht2]; have := lkB_le (k := k) (s := s) (c := c) (u := 0) HHO.out HKO.out; rw [HKL.out] at this; have := HBD.out; omega
  have HNM : Hid (ofI (t1 ++ t2) = nmI k h ks s c) := by show _ = _; rw [nmI, nmB, ht1, ht2]
  have HNO : Hid (ByOk (t1 ++ t2)) := by show ByOk _; rw [← ht1, ← ht2]; exact nmB_ok HHO.out HKO.out (by have := HBD.out; omega) (by rw [HKL.out]; have := HBD.out; omega) (by have := HBD.out; omega) (by have := HBD.out; omega)
  refine wpAnyH_ready (rs := [0]) (by kernel_rfl) (by simp) ?_
  refine AllReadyH.cons rfl (fun K hK => ?_) AllReadyH.nil
  rw [if_pos (by rfl)]
  refine wp_bslice _ 4 _ rfl #[(0, .int .u8 108), (1, .int .u8 111), (2, .int .u8 99), (3, .int .u8 107)] (by simp [Act.eval]) _ _ (bs_txt _) ?_
  refine hK.out _ _ (HLa.out.later (below_new wa _)) (fun hHeld => ?_)
  clear hK K
  try simp only [Act.put, List.setIfInBounds_toArray, List.set_cons_zero, List.set_cons_succ, List.getElem_toArray, List.getElem_cons_zero, List.getElem_cons_succ]
  refine wpAnyH_ready (rs := [1]) (by kernel_rfl) (by simp) ?_
  refine AllReadyH.cons rfl (fun K hK => ?_) AllReadyH.nil
  rw [if_pos (by rfl)]
  refine wp_conv 56 56 _ rfl (.slice (some ⟨wa.heap.size, 0, none⟩) 4 4) (.slice (some ⟨wa.heap.size, 0, none⟩) 4 4) rfl (wa.alloc (.cells (txtLock.map (Value.int .u8)).toArray 5 ((txtLock.map (Value.int .u8)).toArray.size, (txtLock.map (Value.int .u8)).toArray.size + 1))) (Lib.run_convert_bytes_const (P := Try.prog) wa 56 5 (txtLock.map (.int .u8)).toArray 4 4 Try.underlying56 Try.underlying5) ?_
  obtain ⟨wb, hwb⟩ : ∃ w7, wa.alloc (.cells (txtLock.map (.int .u8)).toArray 5 ((txtLock.map (Value.int .u8)).toArray.size, (txtLock.map (Value.int .u8)).toArray.size + 1)) = w7 := ⟨_, rfl⟩
  obtain ⟨q7, hq7⟩ : ∃ q, wa.heap.size = q := ⟨_, rfl⟩
  have hbn : Below wa.heap.size wa wb := hwb ▸ below_new wa _
  have HQb : Hid (BkM wb q7 5 (txtLock.map (.int .u8))) := by show BkM _ _ _ _; rw [← hwb, ← hq7]; exact BkM.new _ _ _ rfl _ rfl
  rw [hwb, hq7]
  clear hwb hq7
  have HLb := Lib.hid (HLa.out.later hbn); have HRb := Lib.hid (HRa.out.later hbn); have HBb := Lib.hid (below_then HBa.out hbn)
  clear hbn HLa HRa HBa
  refine hK.out _ _ HLb.out (fun hHeld => ?_)
  clear hK K
  try simp only [Act.put, List.setIfInBounds_toArray, List.set_cons_zero, List.set_cons_succ, List.getElem_toArray, List.getElem_cons_zero, List.getElem_cons_succ]
  have hpt := rBytes_any wb (some ⟨q7, 0, none⟩) 4 4 txtLock (HQb.out.sl rfl (by omega)) (by omega)
  rw [show numB 4 ++ txtLock = t1 by rw [← ht1]; rfl] at hpt
  have HPT := Lib.hid hpt
  have HLB : Hid (∀ w', Below w.heap.size w w' → Calls Try.prog 36 #[.agg (lkC ⟨k, h, ks, s, c, (0 : Nat)⟩ (.slice A N C)).toArray] w' (RetB w'.heap.size t2 w')) := fun w' hb => by
    rw [← ht2]
    have hbd := HBD.out
    exact rlbytes_any w' k s c 0 h ks A N C (HK0.out.later hb) (by omega) (by omega) (by omega) (by omega)
  clear hpt ht1 ht2
  refine wpAnyH_ready (rs := [2]) (by kernel_rfl) (by simp) ?_
  refine AllReadyH.cons rfl (fun K hK => ?_) AllReadyH.nil
  go_simp
  (go_at_call 60; refine HPT.out.mono ?_; rintro e wc ⟨v2, rfl, hown⟩; obtain ⟨A2, c2, rfl⟩ := hown.form; have HO2 := Lib.hid (own_base hown.1 HBb.out.size); have HLc := Lib.hid (HLb.out.later hown.2); have HRc := Lib.hid (HRb.out.later hown.2); have HBc := Lib.hid (below_then HBb.out hown.2); clear hown HLb HRb HBb HPT)
  refine hK.out _ _ (HLc.out) (fun hHeld => ?_)
  clear hK K
  try simp only [Act.put, List.setIfInBounds_toArray, List.set_cons_zero, List.set_cons_succ, List.getElem_toArray, List.getElem_cons_zero, List.getElem_cons_succ]
  refine wpAnyH_ready (rs := [4]) (by kernel_rfl) (by simp) ?_
  refine AllReadyH.cons rfl (fun K hK => ?_) AllReadyH.nil
  go_simp
  (go_at_call 36; refine (HLB.out wc HBc.out).mono ?_; rintro e wd ⟨v3, rfl, hown⟩; obtain ⟨A3, c3, rfl⟩ := hown.form; have HO3 := Lib.hid hown.1; have HO2' := Lib.hid (own_keep HO2.out hown.2); have HLd := Lib.hid (HLc.out.later hown.2); have HRd := Lib.hid (HRc.out.later hown.2); have HBd := Lib.hid (below_then HBc.out hown.2); clear hown HLc HRc HBc HO2)
  refine hK.out _ _ (HLd.out) (fun hHeld => ?_)
  clear hK K
  try simp only [Act.put, List.setIfInBounds_toArray, List.set_cons_zero, List.set_cons_succ, List.getElem_toArray, List.getElem_cons_zero, List.getElem_cons_succ]
  refine wpAnyH_ready (rs := [5]) (by kernel_rfl) (by simp) ?_
  refine AllReadyH.cons rfl (fun K hK => ?_) AllReadyH.nil
  rw [if_pos (by rfl)]
  obtain ⟨i0, hi, hi0, hi1, hi2⟩ := info_parts Try.infoU8
  refine wp_app _ (.tmp 6) (.tmp 8) 56 rfl w.heap.size 5 i0 (.int .u8 0) 1 1 Try.underlying56 hi hi0 hi1 hi2 rfl (by decide) _ _ _ rfl HO2'.out _ _ _ _ _ rfl (Sl.of_own HO3.out) (ints_one _ _) (by unfold maxLen; have := HT1L.out; have := HT2L.out; omega) (by have := HT1L.out; have := HT2L.out; omega) HBd.out.size ?_
  intro v4 we hown hg hat
  have HLe := Lib.hid (HLd.out.grown hg (Ne.symm (own_bk_ne HO2'.out HLd.out (by decide)))); have HRe := Lib.hid (HRd.out.grown hg (Ne.symm (own_bk_ne HO2'.out HRd.out (by decide)))); have HBe := Lib.hid (grown_below HBd.out HO2'.out hg (Nat.le_refl _) HBd.out.size)
  have HO4 : Hid (OwnB w.heap.size (t1 ++ t2) w v4 we) := ⟨by rw [List.length_append, List.map_append]; exact hown, HBe.out⟩
  obtain ⟨t3, ht3⟩ : ∃ x, t1 ++ t2 = x := ⟨_, rfl⟩
  have HT3L : Hid (t3.length ≤ 20000) := by show _ ≤ 20000; rw [← ht3, List.length_append]; have := HT1L.out; have := HT2L.out; omega
  rw [ht3] at HO4 HNM HNO
  obtain ⟨A4, c4, rfl, hsl, hcc, haa⟩ := own_facts HO4.out
  have HSJ := Lib.hid hsl
  clear hown hg hat ht3 HLd HRd HBd HO2' HO3 hsl hcc haa hi hi0 hi1 hi2
  refine hK.out _ _ HLe.out (fun hHeld => ?_)
  clear hK K
  try simp only [Act.put, List.setIfInBounds_toArray, List.set_cons_zero, List.set_cons_succ, List.getElem_toArray, List.getElem_cons_zero, List.getElem_cons_succ]
  refine wpAnyH_ready (rs := [6]) (by kernel_rfl) (by simp) ?_
  refine AllReadyH.cons rfl (fun K hK => ?_) AllReadyH.nil
  go_simp
  (go_at_call 67; refine (rof_any we A4 _ c4 t3 HSJ.out HNO.out (by have := HT3L.out; omega)).mono ?_; rintro e wf ⟨rfl, hb⟩; have HLf := Lib.hid (HLe.out.later hb); have HRf := Lib.hid (HRe.out.later hb); have HBf := Lib.hid (below_then HBe.out hb); clear hb HLe HRe HBe)
  refine hK.out _ _ (HLf.out) (fun hHeld => ?_)
  clear hK K
  try simp only [Act.put, List.setIfInBounds_toArray, List.set_cons_zero, List.set_cons_succ, List.getElem_toArray, List.getElem_cons_zero, List.getElem_cons_succ]
  have HDI : Hid ((Try.prog.info? 22).map (·.size) = some (dl (ofI t3)).length) := by show _ = _; rw [dl_len, (ofI_ok t3).len]; kernel_rfl
  refine wpAnyH_ready (rs := [7]) (by kernel_rfl) (by simp) ?_
  refine AllReadyH.cons rfl (fun K hK => ?_) AllReadyH.nil
  rw [if_pos (by rfl)]
  refine wp_store_part _ _ _ rfl (z + 1) 0 _ (dl (ofI t3)) rfl rfl rfl _ ([]) (dl zeroD) ([]) (by simpa using HRf.out) rfl (by rw [show (dl (ofI t3)).length = 8 by rw [dl_len, (ofI_ok t3).len]] <;> rfl) HDI.out (dl_one' _) ?_
  intro wg hp
  refine hK.out _ _ (HLf.out.grown hp.only (by intro h; injection h with h; omega)) (fun hHeld => ?_)
  clear hK K
  try simp only [Act.put, List.setIfInBounds_toArray, List.set_cons_zero, List.set_cons_succ, List.getElem_toArray, List.getElem_cons_zero, List.getElem_cons_succ]
  refine wpAnyH_done (by kernel_rfl) ?_ _
  clear hHeld
  have HRg : Hid (Bk wg (z + 1) 22 (dl (ofI t3))) := by show Bk _ _ _ _; have := hp.bk; simpa using this
  have HBg := Lib.hid (below_only HBf.out hp.only HBf.out.size (by rw [HZ.out]; exact Nat.le_succ _))
  clear hp
  go_wp2_with fail
  refine bodyPost_ret (results_cell_bk rfl _ _ (z + 1) 22 (dl (ofI t3)) _ rfl HRg.out Try.underlying22 rfl HDI.out) rfl ?_
  exact ⟨by rw [HNM.out], HBg.out⟩
end Go.Proofs.Ytbclfjdamklbpaa
