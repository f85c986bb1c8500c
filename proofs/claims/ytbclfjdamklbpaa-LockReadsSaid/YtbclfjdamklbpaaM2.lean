/- Locks that are read: the walk of LockReads. -/
import Derived.Test.YtbclfjdamklbpaaM1
import Derived.Test.YtbclfjdamklbpaaLE
import Derived.Test.YtbclfjdamklbpaaS6
namespace Go.Proofs.Ytbclfjdamklbpaa
set_option linter.unusedSimpArgs false
set_option linter.unusedVariables false
open Go.RowKit Go.Maps

theorem decE_bad {e : Int} {L : LkT} (h : (decE e L).2 ≠ 0) : (decE e L).1 = lk0 := by
  unfold decE at h ⊢
  split at h
  · split at h
    · exact absurd rfl h
    · rename_i h1 h2; rw [if_pos h1, if_neg h2]
  · rename_i h1; rw [if_neg h1]
theorem decR_bad {bs : List Int} (h : (decR bs).2 ≠ 0) : (decR bs).1 = lk0 := by
  unfold decR at h ⊢
  split at h
  · rename_i h1
    rw [if_pos h1]
    unfold decRK at h ⊢
    split at h
    · rename_i h2
      rw [if_pos h2]
      exact decE_bad h
    · rename_i h2; rw [if_neg h2]
  · rename_i h1; rw [if_neg h1]
theorem decR_len {bs : List Int} (ho : ByOk bs) : (decR bs).1.ks.length ≤ 8 := by
  by_cases h : (decR bs).2 = 0
  · obtain ⟨_, _, _, _, e5⟩ := checkL_zero (dec_back ho h).2
    rcases e5 with e | e <;> omega
  · rw [decR_bad h]; simp [lk0]
set_option maxRecDepth 20000 in
set_option maxHeartbeats 4000000 in
theorem lreads_any (w : World) (A : Option Addr) (n c : Nat) (bs : List Int) (ho : ByOk bs) (hs : Sl w w.heap.size 1 A n (bs.map (.int .u8))) (hc : n ≤ c) :
    Calls Try.prog 8 #[.slice A n c] w fun e w' => e = .returned (.bool true) ∧ Below w.heap.size w w' := by
  have hmn := fun ts t => min_run (P := Try.prog) ts t n 300 300 rfl
  have hhd := run_headB A n c (min n 300) (by omega)
  have hsx := hs.head1 (k := min n 300) (Nat.min_le_left _ _)
  obtain ⟨m, hm⟩ : ∃ m, min n 300 = m := ⟨_, rfl⟩
  have hm3 : m ≤ 300 := by omega
  have hmc : m ≤ c := by omega
  rw [hm] at hhd hmn hsx
  obtain ⟨xs, hxs⟩ : ∃ x, bs.take m = x := ⟨_, rfl⟩
  have hxo : ByOk xs := by rw [← hxs]; exact ho.take m
  rw [hxs] at hsx
  have HSX := Lib.hid hsx; have HXO := Lib.hid hxo
  clear hm hxs hs ho hc hxo hsx
  have HMB : Hid (m ≤ 300 ∧ m ≤ c) := ⟨hm3, hmc⟩
  clear hm3 hmc
  go_enter Try.func8, Try.ntmps8
  go_wp2_with fail
  clear hmn hhd
  have HO0 : Hid (DsOk (decL xs).1.ks ∧ (decL xs).1.ks.length ≤ 8 ∧ ((decL xs).2 = 0 → lkB (decL xs).1.k.toNat (decL xs).1.h (decL xs).1.ks (decL xs).1.s.toNat (decL xs).1.c.toNat (decL xs).1.u.toNat = xs ∧ checkL (decL xs).1.k (decL xs).1.s (decL xs).1.c (decL xs).1.u (decL xs).1.ks.length = 0) ∨ True) := .inr trivial
  have HLN : Hid ((decL xs).1.ks.length ≤ 8) := by show _ ≤ 8; rw [dec_same]; exact decR_len HXO.out
  have HBK : Hid ((decL xs).2 = 0 → lkB (decL xs).1.k.toNat (decL xs).1.h (decL xs).1.ks (decL xs).1.s.toNat (decL xs).1.c.toNat (decL xs).1.u.toNat = xs ∧ checkL (decL xs).1.k (decL xs).1.s (decL xs).1.c (decL xs).1.u (decL xs).1.ks.length = 0) := by show _ → _; rw [dec_same]; exact dec_back HXO.out
  have HRD := Lib.hid (fun w' (hb : Below w.heap.size w w') => rldec_any w' A m c xs HXO.out (HSX.out.later hb) (by have := HMB.out; omega) HMB.out.2)
  have hld := ldec_any w A m c xs HXO.out HSX.out (by have := HMB.out; omega)
  rw [← dec_same] at HRD
  obtain ⟨⟨L, x⟩, hD⟩ : ∃ D, decL xs = D := ⟨_, rfl⟩
  rw [hD] at HLN HBK HRD hld
  have HLD := Lib.hid hld
  clear HO0 hD hld
  have HLN : Hid (L.ks.length ≤ 8) := HLN
  refine HLD.out.mono ?_
  rintro e w2 ⟨P, pc, rfl, hown, hko, hlh, hbn⟩
  have hown : w2.ownsRow w.heap.size 23 8 (.slice P L.ks.length pc) L.ks.length (cellsD L.ks) := hown
  have HKO : Hid (DsOk L.ks) := hko
  have HLH : Hid (DgOk L.h) := hlh
  obtain ⟨q, hq⟩ : ∃ q, L.ks.length = q := ⟨_, rfl⟩
  rw [show ((L, x) : LkT × Int).1.ks.length = q from hq]
  have HQ := Lib.hid hq
  rw [hq] at hown HLN
  have HO2 := Lib.hid hown; have HB2 := Lib.hid hbn
  have HSL := Lib.hid (lk_sz hlh (.slice P q pc))
  clear hown hko hlh hbn hq HLD
  go_wp2_with (with_reducible refine stop_store 26 _ _ rfl ?_)
  refine StopD.go ?_
  obtain ⟨gl, hgl⟩ : ∃ q, w2.heap.size = q := ⟨_, rfl⟩
  obtain ⟨wq, hwq⟩ : ∃ w', w2.alloc (.cells #[.int .i64 0, .int .u8 0, .int .u8 0, .int .u8 0, .int .u8 0, .int .u8 0, .int .u8 0, .int .u8 0, .int .u8 0, .slice none 0 0, .int .i64 0, .int .i64 0, .int .i64 0] 26) = w' := ⟨_, rfl⟩
  have hbn : Below w2.heap.size w2 wq := hwq ▸ below_new w2 _
  have kt : Bk wq gl 26 ([] ++ (zLk' ++ [])) := by rw [← hwq]; exact Bk.at_ w2 _ _ hgl rfl
  rw [hgl, hwq]
  refine wpList_store_part rfl 26 _ _ rfl gl 0 (.agg (lkC L (.slice P q pc)).toArray) (lkC L (.slice P q pc)) rfl rfl rfl 26 [] zLk' [] kt rfl (Eq.symm (show (lkC L (.slice P q pc)).length = 13 from (lkC_len HLH.out _))) HSL.out (lk_one _ _ _ _) ?_
  intro w3 hp
  have hbn : Below w2.heap.size w2 w3 := hbn.grown hp.only hbn.size (fun q' hq' => by injection hq' with hq'; omega)
  have HL3 : Hid (Bk w3 gl 26 (lkC L (.slice P q pc))) := by show Bk _ _ _ _; have := hp.bk; simpa using this
  have HSZgl := Lib.hid hgl
  clear hp kt hgl hwq
  have HO3 := Lib.hid (own_keep HO2.out hbn); have HB3 := Lib.hid (below_then HB2.out hbn)
  clear hbn HO2 HB2 HSZgl
  go_wp2_with fail
  refine (HRD.out w3 HB3.out).mono ?_
  rintro e w4 ⟨R, rc, rfl, hown, _, _, hbn⟩
  have hown : w4.ownsRow w3.heap.size 22 8 (.slice R L.ks.length rc) L.ks.length (cellsD L.ks) := hown
  rw [show ((L, x) : LkT × Int).1.ks.length = q from HQ.out]
  rw [HQ.out] at hown
  have HR4 := Lib.hid hown; have HO4 := Lib.hid (own_keep HO3.out hbn); have HB4 := Lib.hid (below_then HB3.out hbn); have HL4 := Lib.hid (HL3.out.later hbn)
  clear hown hbn HO3 HB3 HL3 HRD
  go_wp2_with (with_reducible refine stop_store 44 _ _ rfl ?_)
  refine StopD.go ?_
  obtain ⟨gr, hgr⟩ : ∃ q, w4.heap.size = q := ⟨_, rfl⟩
  obtain ⟨wq, hwq⟩ : ∃ w', w4.alloc (.cells #[.int .i64 0, .int .u8 0, .int .u8 0, .int .u8 0, .int .u8 0, .int .u8 0, .int .u8 0, .int .u8 0, .int .u8 0, .slice none 0 0, .int .i64 0, .int .i64 0, .int .i64 0] 44) = w' := ⟨_, rfl⟩
  have hbn : Below w4.heap.size w4 wq := hwq ▸ below_new w4 _
  have kt : Bk wq gr 44 ([] ++ (zLk' ++ [])) := by rw [← hwq]; exact Bk.at_ w4 _ _ hgr rfl
  rw [hgr, hwq]
  have HSR := Lib.hid (rlk_sz HLH.out (.slice R q rc))
  refine wpList_store_part rfl 44 _ _ rfl gr 0 (.agg (lkC L (.slice R q rc)).toArray) (lkC L (.slice R q rc)) rfl rfl rfl 44 [] zLk' [] kt rfl (by rw [lkC_len HLH.out]; rfl) HSR.out (lk_one _ _ _ _) ?_
  intro w5 hp
  have hbn : Below w4.heap.size w4 w5 := hbn.grown hp.only hbn.size (fun q' hq' => by injection hq' with hq'; omega)
  have HG5 : Hid (Bk w5 gr 44 (lkC L (.slice R q rc))) := by show Bk _ _ _ _; have := hp.bk; simpa using this
  have HR5 := Lib.hid (own_keep HR4.out hbn); have HO5 := Lib.hid (own_keep HO4.out hbn); have HB5 := Lib.hid (below_then HB4.out hbn); have HL5 := Lib.hid (HL4.out.later hbn)
  clear hp hbn kt hgr hwq HR4 HO4 HB4 HL4
  have HLK : Hid (∀ w', w'.ownsRow w.heap.size 23 8 (.slice P q pc) q (cellsD L.ks) → LkK w' L P q) := fun w' h => ⟨Sl.of_own h, HKO.out, HLH.out, by have := HLN.out; omega⟩
  go_upto_region 4 with fail
  refine wp_region_held_drew (S := fun w' => Bk w' gl 26 (lkC L (.slice P q pc)) ∧ Bk w' gr 44 (lkC L (.slice R q rc))) (by kernel_rfl) ⟨Bk.drew HL5.out, Bk.drew HG5.out⟩ (fun hHeld => ?_)
  have hbd : Below w5.heap.size w5 w5.drew := below_draws w5 w5.heap.size 1
  obtain ⟨wa, hwa⟩ : ∃ wa, w5.drew = wa := ⟨_, rfl⟩
  rw [hwa] at hbd hHeld ⊢
  have HRa := Lib.hid (own_keep HR5.out hbd); have HOa := Lib.hid (own_keep HO5.out hbd); have HBa := Lib.hid (below_then HB5.out hbd); have HLa := Lib.hid (HL5.out.later hbd); have HGa := Lib.hid (HG5.out.later hbd)
  clear hwa hbd HR5 HO5 HB5 HL5 HG5
  refine wpAnyH_ready (rs := [0]) (by kernel_rfl) (by simp) ?_
  refine AllReadyH.cons rfl (fun K hK => ?_) AllReadyH.nil
  go_simp
  (go_at_call 12; refine (ltold_any wa).mono ?_; rintro e wb ⟨rfl, hbn⟩; have HRb := Lib.hid (own_keep HRa.out hbn); have HOb := Lib.hid (own_keep HOa.out hbn); have HBb := Lib.hid (below_then HBa.out hbn); have HLb := Lib.hid (HLa.out.later hbn); have HGb := Lib.hid (HGa.out.later hbn); clear hbn HRa HOa HBa HLa HGa)
  refine hK.out _ _ (⟨HLb.out, HGb.out⟩) (fun hHeld => ?_)
  clear hK K
  try simp only [Act.put, List.setIfInBounds_toArray, List.set_cons_zero, List.set_cons_succ, List.getElem_toArray, List.getElem_cons_zero, List.getElem_cons_succ]
  refine wpAnyH_take (i := 1) (v := ?_) rfl (by kernel_rfl) (by kernel_rfl) (by kernel_rfl) (fun _ _ _ h => h) (Or.inl ⟨by rfl, ?_⟩) (by assumption) ?_
  rotate_left
  · intro w hSw
    (try dsimp only at hSw)
    go_simp
    try with_reducible rfl
  try simp only [Act.put, List.setIfInBounds_toArray, List.set_cons_zero, List.set_cons_succ, List.getElem_toArray, List.getElem_cons_zero, List.getElem_cons_succ]
  refine wpAnyH_take (i := 2) (v := ?_) rfl (by kernel_rfl) (by kernel_rfl) (by kernel_rfl) (fun _ _ _ h => h) (Or.inl ⟨by rfl, ?_⟩) (by assumption) ?_
  rotate_left
  · intro w hSw
    (try dsimp only at hSw)
    go_simp
    try with_reducible rfl
  try simp only [Act.put, List.setIfInBounds_toArray, List.set_cons_zero, List.set_cons_succ, List.getElem_toArray, List.getElem_cons_zero, List.getElem_cons_succ]
  refine wpAnyH_take (i := 3) (v := ?_) rfl (by kernel_rfl) (by kernel_rfl) (by kernel_rfl) (fun _ _ _ h => h) (Or.inl ⟨by rfl, ?_⟩) (by assumption) ?_
  rotate_left
  · intro w hSw
    (try dsimp only at hSw)
    go_simp
    try with_reducible rfl
  try simp only [Act.put, List.setIfInBounds_toArray, List.set_cons_zero, List.set_cons_succ, List.getElem_toArray, List.getElem_cons_zero, List.getElem_cons_succ]
  refine wpAnyH_take (i := 4) (v := ?_) rfl (by kernel_rfl) (by kernel_rfl) (by kernel_rfl) (fun _ _ _ h => h) (Or.inl ⟨by rfl, ?_⟩) (by assumption) ?_
  rotate_left
  · intro w hSw
    (try dsimp only at hSw)
    go_simp
    try with_reducible rfl
  try simp only [Act.put, List.setIfInBounds_toArray, List.set_cons_zero, List.set_cons_succ, List.getElem_toArray, List.getElem_cons_zero, List.getElem_cons_succ]
  refine wpAnyH_take (i := 5) (v := ?_) rfl (by kernel_rfl) (by kernel_rfl) (by kernel_rfl) (fun _ _ _ h => h) (Or.inl ⟨by rfl, ?_⟩) (by assumption) ?_
  rotate_left
  · intro w hSw
    (try dsimp only at hSw)
    go_simp
    try with_reducible rfl
  try simp only [Act.put, List.setIfInBounds_toArray, List.set_cons_zero, List.set_cons_succ, List.getElem_toArray, List.getElem_cons_zero, List.getElem_cons_succ]
  refine wpAnyH_take (i := 6) (v := ?_) rfl (by kernel_rfl) (by kernel_rfl) (by kernel_rfl) (fun _ _ _ h => h) (Or.inl ⟨by rfl, ?_⟩) (by assumption) ?_
  rotate_left
  · intro w hSw
    (try dsimp only at hSw)
    go_simp
    try with_reducible rfl
  try simp only [Act.put, List.setIfInBounds_toArray, List.set_cons_zero, List.set_cons_succ, List.getElem_toArray, List.getElem_cons_zero, List.getElem_cons_succ]
  refine wpAnyH_take (i := 7) (v := ?_) rfl (by kernel_rfl) (by kernel_rfl) (by kernel_rfl) (fun _ _ _ h => h) (Or.inl ⟨by rfl, ?_⟩) (by assumption) ?_
  rotate_left
  · intro w hSw
    (try dsimp only at hSw)
    go_simp
    try with_reducible rfl
  try simp only [Act.put, List.setIfInBounds_toArray, List.set_cons_zero, List.set_cons_succ, List.getElem_toArray, List.getElem_cons_zero, List.getElem_cons_succ]
  refine wpAnyH_take (i := 8) (v := .agg (List.toArray (lkC L (.slice P q pc)))) rfl (by kernel_rfl) (by kernel_rfl) (by kernel_rfl) (fun _ _ _ h => h) (yieldsIf_load_mid (by rfl) _ _ rfl _ _ rfl (lkC L (.slice P q pc)) _ (fun w hSw => (Bk.range (pre := []) (post := []) (by simpa using hSw.1) rfl)) Try.underlying26 rfl (HSL.out)) (by assumption) ?_
  try simp only [Act.put, List.setIfInBounds_toArray, List.set_cons_zero, List.set_cons_succ, List.getElem_toArray, List.getElem_cons_zero, List.getElem_cons_succ]
  refine wpAnyH_take (i := 10) (v := .agg (List.toArray (lkC L (.slice R q rc)))) rfl (by kernel_rfl) (by kernel_rfl) (by kernel_rfl) (fun _ _ _ h => h) (yieldsIf_load_mid (by rfl) _ _ rfl _ _ rfl (lkC L (.slice R q rc)) _ (fun w hSw => (Bk.range (pre := []) (post := []) (by simpa using hSw.2) rfl)) Try.underlying44 rfl (HSR.out)) (by assumption) ?_
  try simp only [Act.put, List.setIfInBounds_toArray, List.set_cons_zero, List.set_cons_succ, List.getElem_toArray, List.getElem_cons_zero, List.getElem_cons_succ]
  refine wpAnyH_ready (rs := [9]) (by kernel_rfl) (by simp) ?_
  refine AllReadyH.cons rfl (fun K hK => ?_) AllReadyH.nil
  go_simp
  (go_at_call 16; refine (lplain_any wb L P q pc (HLK.out _ HOb.out)).mono ?_; rintro e wc ⟨PP, ppc, rfl, hpl, hbn⟩; have HPc := Lib.hid hpl; have HRc := Lib.hid (own_keep HRb.out hbn); have HOc := Lib.hid (own_keep HOb.out hbn); have HBc := Lib.hid (below_then HBb.out hbn); have HLc := Lib.hid (HLb.out.later hbn); have HGc := Lib.hid (HGb.out.later hbn); clear hbn hpl HRb HOb HBb HLb HGb)
  refine hK.out _ _ (⟨HLc.out, HGc.out⟩) (fun hHeld => ?_)
  clear hK K
  try simp only [Act.put, List.setIfInBounds_toArray, List.set_cons_zero, List.set_cons_succ, List.getElem_toArray, List.getElem_cons_zero, List.getElem_cons_succ]
  refine wpAnyH_ready (rs := [11]) (by kernel_rfl) (by simp) ?_
  refine AllReadyH.cons rfl (fun K hK => ?_) AllReadyH.nil
  go_simp
  (go_at_call 30; refine (rlsame_any wc L PP R q ppc rc ⟨Sl.of_own HPc.out, HKO.out, HLH.out, by have := HLN.out; omega⟩ ⟨Sl.of_own HRc.out, HKO.out, HLH.out, by have := HLN.out; omega⟩).mono ?_; rintro e wd ⟨rfl, hbn⟩; have HOd := Lib.hid (own_keep HOc.out hbn); have HBd := Lib.hid (below_then HBc.out hbn); have HLd := Lib.hid (HLc.out.later hbn); have HGd := Lib.hid (HGc.out.later hbn); clear hbn HPc HRc HOc HBc HLc HGc)
  refine hK.out _ _ (⟨HLd.out, HGd.out⟩) (fun hHeld => ?_)
  clear hK K
  try simp only [Act.put, List.setIfInBounds_toArray, List.set_cons_zero, List.set_cons_succ, List.getElem_toArray, List.getElem_cons_zero, List.getElem_cons_succ]
  refine wpAnyH_take (i := 12) (v := ?_) rfl (by kernel_rfl) (by kernel_rfl) (by kernel_rfl) (fun _ _ _ h => h) (Or.inl ⟨by rfl, ?_⟩) (by assumption) ?_
  rotate_left
  · intro w hSw
    (try dsimp only at hSw)
    go_simp
    try with_reducible rfl
  try simp only [Act.put, List.setIfInBounds_toArray, List.set_cons_zero, List.set_cons_succ, List.getElem_toArray, List.getElem_cons_zero, List.getElem_cons_succ]
  refine wpAnyH_take (i := 13) (v := ?_) rfl (by kernel_rfl) (by kernel_rfl) (by kernel_rfl) (fun _ _ _ h => h) (Or.inl ⟨by rfl, ?_⟩) (by assumption) ?_
  rotate_left
  · intro w hSw
    (try dsimp only at hSw)
    go_simp
    try with_reducible rfl
  try simp only [Act.put, List.setIfInBounds_toArray, List.set_cons_zero, List.set_cons_succ, List.getElem_toArray, List.getElem_cons_zero, List.getElem_cons_succ]
  refine wpAnyH_done (by kernel_rfl) ?_ _
  clear hHeld
  by_cases hx : x = 0
  · subst hx
    obtain ⟨hb1, hb2⟩ := HBK.out rfl
    have HBY : Hid (encLk L q = xs) := by show _ = _; rw [encLk, if_pos (by rw [← HQ.out]; exact hb2)]; exact hb1
    have HCK : Hid (checkL L.k L.s L.c L.u q = 0) := by show _ = _; rw [← HQ.out]; exact hb2
    clear hb1 hb2 HBK
    go_wp2_with (with_reducible refine wpList_load_bk rfl 26 _ rfl gl rfl (lkC L (.slice P q pc)) 26 HLd.out _ Try.underlying26 rfl HSL.out ?_)
    have hen := lenc_any wd L P q pc (HLK.out _ HOd.out)
    unfold RetLe at hen
    rw [HBY.out, HCK.out] at hen
    have HEN := Lib.hid hen
    clear hen
    refine HEN.out.mono ?_
    rintro e we ⟨v, rfl, hown⟩
    obtain ⟨A2, c2, rfl⟩ := hown.form
    have hcv1 := conv_any we _ A2 xs.length c2 xs (Sl.of_own hown.1)
    have hcv2 := conv_any we _ A m c xs (HSX.out.later (below_then HBd.out hown.2))
    have HBe := Lib.hid (below_then HBd.out hown.2)
    clear hown HEN
    go_wp2_with fail
    go_ret
    exact ⟨rfl, HBe.out⟩
  · have hxn : (x != 0) = true := by simpa using hx
    clear hx HBK
    go_wp2_with fail
    go_ret
    exact ⟨rfl, HBd.out⟩
end Go.Proofs.Ytbclfjdamklbpaa
