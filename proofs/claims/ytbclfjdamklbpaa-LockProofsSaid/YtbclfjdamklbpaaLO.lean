/- The name of a lock. -/
import Derived.Test.YtbclfjdamklbpaaLM
namespace Go.Proofs.Ytbclfjdamklbpaa
set_option linter.unusedSimpArgs false
set_option linter.unusedVariables false
open Go.RowKit Go.Maps

def txtLock : List Int := [108, 111, 99, 107]
theorem txtLock_is : bytesOf ⟨#[108, 111, 99, 107]⟩ = txtLock := by decide
def nmB (k : Nat) (h : List Int) (ks : List (List Int)) (s c : Nat) : List Int := lstB txtLock ++ lkB k h ks s c 0
def nmI (k : Nat) (h : List Int) (ks : List (List Int)) (s c : Nat) : List Int := ofI (nmB k h ks s c)
theorem lkB_le {k s c u : Nat} {h : List Int} {ks : List (List Int)} (hh : DgOk h) (hk : DsOk ks) : (lkB k h ks s c u).length ≤ 70 + 18 * ks.length := by
  have h1 := lkHd_le (k := k) (n := ks.length) hh
  have h2 := ksB_le ks hk
  have h3 := nsB_le [s, c, u]
  simp only [lkB, List.length_append, List.length_cons, List.length_nil] at h3 ⊢
  omega
theorem lkB_ok {k s c u : Nat} {h : List Int} {ks : List (List Int)} (hh : DgOk h) (hk : DsOk ks) (b1 : k < 18446744073709551616) (b2 : ks.length < 18446744073709551616) (b3 : s < 18446744073709551616) (b4 : c < 18446744073709551616) (b5 : u < 18446744073709551616) : ByOk (lkB k h ks s c u) :=
  byOk_app (byOk_app (lkHd_ok hh b1 b2) (ksB_ok hk)) (nsB_ok (fun n hn => by simp only [List.mem_cons, List.not_mem_nil, or_false] at hn; rcases hn with rfl | rfl | rfl <;> assumption))
theorem txtLock_ok : ByOk txtLock := fun b hb => by simp [txtLock] at hb; omega
theorem nmB_ok {k s c : Nat} {h : List Int} {ks : List (List Int)} (hh : DgOk h) (hk : DsOk ks) (b1 : k < 18446744073709551616) (b2 : ks.length < 18446744073709551616) (b3 : s < 18446744073709551616) (b4 : c < 18446744073709551616) : ByOk (nmB k h ks s c) :=
  byOk_app (lstB_ok txtLock_ok (by decide)) (lkB_ok hh hk b1 b2 b3 b4 (by decide))
set_option maxRecDepth 20000 in
set_option maxHeartbeats 4000000 in
theorem lname_any (w : World) (k s c : Nat) (u : Int) (h : List Int) (ks : List (List Int)) (A : Option Addr) (N C : Nat) (hk : LkK w ⟨k, h, ks, s, c, u⟩ A N) (b1 : k < 4611686018427387904) (b2 : s < 4611686018427387904) (b3 : c < 4611686018427387904) :
    Calls Try.prog 18 #[.agg (lkC ⟨k, h, ks, s, c, u⟩ (.slice A N C)).toArray] w fun e w' => e = .returned (.agg (dl (nmI k h ks s c)).toArray) ∧ Below w.heap.size w w' := by
  have hh : DgOk h := hk.h
  have HHO := Lib.hid hh
  have HK0 : Hid (LkK w ⟨k, h, ks, s, c, (0 : Nat)⟩ A N) := ⟨hk.k, hk.ko, hk.h, hk.n⟩
  have HKL : Hid (ks.length = N) := hk.k.dgs hk.ko
  have HKO : Hid (DsOk ks) := hk.ko
  obtain ⟨X, hX⟩ : ∃ X, (lkC ⟨k, h, ks, s, c, u⟩ (.slice A N C)).toArray = X := ⟨_, rfl⟩
  obtain ⟨z, hz⟩ : ∃ z, w.heap.size = z := ⟨_, rfl⟩
  obtain ⟨w1, hw1⟩ : ∃ w1, (w.alloc (.cells X 26)).alloc (.cells #[.int .u8 0, .int .u8 0, .int .u8 0, .int .u8 0, .int .u8 0, .int .u8 0, .int .u8 0, .int .u8 0] 23) = w1 := ⟨_, rfl⟩
  have hb1 : Below w.heap.size w w1 := hw1 ▸ (below_new w _).alloc (by simp) _
  have kx : Bk w1 z 26 (lkC ⟨k, h, ks, s, c, u⟩ (.slice A N C)) := hw1 ▸ (Bk.at_ w _ X hz (by rw [← hX])).alloc _
  have kr : Bk w1 (z + 1) 23 (dl zeroD) := hw1 ▸ Bk.at_ _ _ _ (by simp [hz]) rfl
  have HW := Lib.hid hw1; have HB1 := Lib.hid hb1; have HL1 := Lib.hid kx; have HR1 := Lib.hid kr; have HZ := Lib.hid hz
  have hn1 : N ≤ 1000 := hk.n
  have HBD : Hid (k < 4611686018427387904 ∧ s < 4611686018427387904 ∧ c < 4611686018427387904 ∧ N ≤ 1000) := ⟨b1, b2, b3, hn1⟩
  rw [hX]
  clear hX hw1 hb1 kx kr hh hk hz b1 b2 b3
  go_enter Try.func18, Try.ntmps18
  go_upto_region 1 with fail
  rw [HW.out, HZ.out]
  go_wp2_with (with_reducible refine stop_store 3 _ _ rfl ?_)
  refine StopD.go ?_
  refine wpList_store_part rfl 3 _ _ rfl z 12 (.int .i64 0) [.int .i64 0] rfl rfl rfl 26 (.int .i64 k :: dl h ++ [.slice A N C, .int .i64 s, .int .i64 c]) [.int .i64 u] [] (by have := HL1.out; simpa [lkC] using this) (by simp [dl_len, HHO.out.len]) rfl (by kernel_rfl) (by intro x hx; simp at hx; subst hx; rfl) ?_
  intro w2 hp
  have HL2 : Hid (Bk w2 z 26 (lkC ⟨k, h, ks, s, c, (0 : Nat)⟩ (.slice A N C))) := by show Bk _ _ _ _; have := hp.bk; simpa [lkC] using this
  have HB2 := Lib.hid (below_only HB1.out hp.only HB1.out.size (Nat.le_of_eq HZ.out))
  have HR2 := Lib.hid (HR1.out.grown hp.only (by intro e; injection e with e; omega))
  clear hp HL1 HB1 HR1
  have HSL : Hid ((Try.prog.info? 26).map (·.size) = some (lkC ⟨k, h, ks, s, c, (0 : Nat)⟩ (.slice A N C)).length) := lk_sz (L := ⟨k, h, ks, s, c, (0 : Nat)⟩) HHO.out _
  go_wp2_with fail
  refine wp_region_held_drew (S := fun w' => Bk w' z 26 (lkC ⟨k, h, ks, s, c, (0 : Nat)⟩ (.slice A N C))) (by kernel_rfl) (Bk.drew HL2.out) (fun hHeld => ?_)
  have hbd : Below w2.heap.size w2 w2.drew := below_draws w2 w2.heap.size 1
  obtain ⟨wa, hwa⟩ : ∃ wa, w2.drew = wa := ⟨_, rfl⟩
  rw [hwa] at hbd hHeld ⊢
  have HLa := Lib.hid (HL2.out.later hbd); have HRa := Lib.hid (HR2.out.later hbd); have HBa := Lib.hid (below_then HB2.out hbd)
  clear hwa hbd HL2 HR2 HB2
  refine wpAnyH_take (i := 1) (v := .agg (List.toArray (lkC ⟨k, h, ks, s, c, (0 : Nat)⟩ (.slice A N C)))) rfl (by kernel_rfl) (by kernel_rfl) (by kernel_rfl) (fun _ _ _ h => h) (yieldsIf_load_mid (by rfl) _ _ rfl _ _ rfl (lkC ⟨k, h, ks, s, c, (0 : Nat)⟩ (.slice A N C)) _ (fun w hSw => (Bk.range (pre := []) (post := []) (by simpa using hSw) rfl)) Try.underlying26 rfl (HSL.out)) (by assumption) ?_
  try simp only [Act.put, List.setIfInBounds_toArray, List.set_cons_zero, List.set_cons_succ, List.getElem_toArray, List.getElem_cons_zero, List.getElem_cons_succ]
  obtain ⟨t1, ht1⟩ : ∃ x, lstB txtLock = x := ⟨_, rfl⟩
  obtain ⟨t2, ht2⟩ : ∃ x, lkB k h ks s c 0 = x := ⟨_, rfl⟩
  have HT1L : Hid (t1.length ≤ 20) := by show _ ≤ 20; rw [← ht1]; decide
  have HT2L : Hid (t2.length ≤ 18100) := by show _ ≤ 18100; rw [← ht2]; have := lkB_le (k := k) (s := s) (c := c) (u := 0) HHO.out HKO.out; rw [HKL.out] at this; have := HBD.out; omega
  have HNM : Hid (ofI (t1 ++ t2) = nmI k h ks s c) := by show _ = _; rw [nmI, nmB, ht1, ht2]
  have HNO : Hid (ByOk (t1 ++ t2)) := by show ByOk _; rw [← ht1, ← ht2]; exact nmB_ok HHO.out HKO.out (by have := HBD.out; omega) (by rw [HKL.out]; have := HBD.out; omega) (by have := HBD.out; omega) (by have := HBD.out; omega)
  have hpt := putText_any wa none 0 0 [] ⟨#[108, 111, 99, 107]⟩ Sl.nil (by omega) (by decide)
  rw [show ([] : List Int) ++ (numB (ByteArray.size ⟨#[108, 111, 99, 107]⟩) ++ bytesOf ⟨#[108, 111, 99, 107]⟩) = t1 by rw [← ht1, txtLock_is]; rfl] at hpt
  have HPT := Lib.hid hpt
  have HLB : Hid (∀ w', Below w.heap.size w w' → Calls Try.prog 44 #[.agg (lkC ⟨k, h, ks, s, c, (0 : Nat)⟩ (.slice A N C)).toArray] w' (RetB w'.heap.size t2 w')) := fun w' hb => by
    rw [← ht2]
    have hbd := HBD.out
    exact lbytes_any w' k s c 0 h ks A N C (HK0.out.later hb) (by omega) (by omega) (by omega) (by omega)
  clear hpt ht1 ht2
  refine wpAnyH_ready (rs := [0]) (by kernel_rfl) (by simp) ?_
  refine AllReadyH.cons rfl (fun K hK => ?_) AllReadyH.nil
  go_simp
  (go_at_call 43; refine HPT.out.mono ?_; rintro e wb ⟨v2, rfl, hown⟩; obtain ⟨A2, c2, rfl⟩ := hown.form; have HO2 := Lib.hid (own_base hown.1 HBa.out.size); have HLb := Lib.hid (HLa.out.later hown.2); have HRb := Lib.hid (HRa.out.later hown.2); have HBb := Lib.hid (below_then HBa.out hown.2); clear hown HLa HRa HBa HPT)
  refine hK.out _ _ (HLb.out) (fun hHeld => ?_)
  clear hK K
  try simp only [Act.put, List.setIfInBounds_toArray, List.set_cons_zero, List.set_cons_succ, List.getElem_toArray, List.getElem_cons_zero, List.getElem_cons_succ]
  refine wpAnyH_ready (rs := [2]) (by kernel_rfl) (by simp) ?_
  refine AllReadyH.cons rfl (fun K hK => ?_) AllReadyH.nil
  go_simp
  (go_at_call 44; refine (HLB.out wb HBb.out).mono ?_; rintro e wc ⟨v3, rfl, hown⟩; obtain ⟨A3, c3, rfl⟩ := hown.form; have HO3 := Lib.hid hown.1; have HO2' := Lib.hid (own_keep HO2.out hown.2); have HLc := Lib.hid (HLb.out.later hown.2); have HRc := Lib.hid (HRb.out.later hown.2); have HBc := Lib.hid (below_then HBb.out hown.2); clear hown HLb HRb HBb HO2)
  refine hK.out _ _ (HLc.out) (fun hHeld => ?_)
  clear hK K
  try simp only [Act.put, List.setIfInBounds_toArray, List.set_cons_zero, List.set_cons_succ, List.getElem_toArray, List.getElem_cons_zero, List.getElem_cons_succ]
  refine wpAnyH_ready (rs := [3]) (by kernel_rfl) (by simp) ?_
  refine AllReadyH.cons rfl (fun K hK => ?_) AllReadyH.nil
  rw [if_pos (by rfl)]
  obtain ⟨i0, hi, hi0, hi1, hi2⟩ := info_parts Try.infoU8
  refine wp_app _ (.tmp 4) (.tmp 6) 56 rfl w.heap.size 5 i0 (.int .u8 0) 1 1 Try.underlying56 hi hi0 hi1 hi2 rfl (by decide) _ _ _ rfl HO2'.out _ _ _ _ _ rfl (Sl.of_own HO3.out) (ints_one _ _) (by unfold maxLen; have := HT1L.out; have := HT2L.out; omega) (by have := HT1L.out; have := HT2L.out; omega) HBc.out.size ?_
  intro v4 wd hown hg hat
  have HLd := Lib.hid (HLc.out.grown hg (Ne.symm (own_bk_ne HO2'.out HLc.out (by decide)))); have HRd := Lib.hid (HRc.out.grown hg (Ne.symm (own_bk_ne HO2'.out HRc.out (by decide)))); have HBd := Lib.hid (grown_below HBc.out HO2'.out hg (Nat.le_refl _) HBc.out.size)
  have HO4 : Hid (OwnB w.heap.size (t1 ++ t2) w v4 wd) := ⟨by rw [List.length_append, List.map_append]; exact hown, HBd.out⟩
  obtain ⟨t3, ht3⟩ : ∃ x, t1 ++ t2 = x := ⟨_, rfl⟩
  rw [ht3] at HO4 HNM HNO
  obtain ⟨A4, c4, rfl, hsl, hcc, haa⟩ := own_facts HO4.out
  have HSJ := Lib.hid hsl; have HCJ := Lib.hid hcc; have HAJ := Lib.hid haa
  clear hown hg hat ht3 HLc HRc HBc HO2' HO3 hsl hcc haa hi hi0 hi1 hi2
  refine hK.out _ _ HLd.out (fun hHeld => ?_)
  clear hK K
  try simp only [Act.put, List.setIfInBounds_toArray, List.set_cons_zero, List.set_cons_succ, List.getElem_toArray, List.getElem_cons_zero, List.getElem_cons_succ]
  refine wpAnyH_ready (rs := [4]) (by kernel_rfl) (by simp) ?_
  refine AllReadyH.cons rfl (fun K hK => ?_) AllReadyH.nil
  go_simp
  (go_at_call 42; refine (hof_any wd A4 _ c4 t3 HSJ.out HNO.out HCJ.out HAJ.out).mono ?_; rintro e we ⟨rfl, hb⟩; have HLe := Lib.hid (HLd.out.later hb); have HRe := Lib.hid (HRd.out.later hb); have HBe := Lib.hid (below_then HBd.out hb); clear hb HLd HRd HBd)
  refine hK.out _ _ (HLe.out) (fun hHeld => ?_)
  clear hK K
  try simp only [Act.put, List.setIfInBounds_toArray, List.set_cons_zero, List.set_cons_succ, List.getElem_toArray, List.getElem_cons_zero, List.getElem_cons_succ]
  refine wpAnyH_ready (rs := [5]) (by kernel_rfl) (by simp) ?_
  refine AllReadyH.cons rfl (fun K hK => ?_) AllReadyH.nil
  rw [if_pos (by rfl)]
  refine wp_store_part _ _ _ rfl (z + 1) 0 _ (dl (ofI t3)) rfl rfl rfl _ ([]) (dl zeroD) ([]) (by simpa using HRe.out) rfl (by rw [dl_len, dl_len, (ofI_ok t3).len]; rfl) (hdg_size _ (ofI_ok t3)) (dl_one' _) ?_
  intro wf hp
  refine hK.out _ _ (HLe.out.grown hp.only (by intro h; injection h with h; omega)) (fun hHeld => ?_)
  clear hK K
  try simp only [Act.put, List.setIfInBounds_toArray, List.set_cons_zero, List.set_cons_succ, List.getElem_toArray, List.getElem_cons_zero, List.getElem_cons_succ]
  refine wpAnyH_done (by kernel_rfl) ?_ _
  clear hHeld
  have HRf : Hid (Bk wf (z + 1) 23 (dl (ofI t3))) := by show Bk _ _ _ _; have := hp.bk; simpa using this
  have HBf := Lib.hid (below_only HBe.out hp.only HBe.out.size (by rw [HZ.out]; exact Nat.le_succ _))
  have HD := Lib.hid (hdg_size _ (ofI_ok t3))
  clear hp
  go_wp2_with fail
  refine bodyPost_ret (results_cell_bk rfl _ _ (z + 1) 23 (dl (ofI t3)) _ rfl HRf.out Try.underlying23 rfl HD.out) rfl ?_
  exact ⟨by rw [HNM.out], HBf.out⟩
end Go.Proofs.Ytbclfjdamklbpaa
