/- The document's bytes of a state, of an act and of a payout. -/
import Derived.Test.YthibihjblodfmaaS4
import Derived.Test.YthibihjblodfmaaOC
namespace Go.Proofs.Ythibihjblodfmaa
open Go.RowKit

theorem RetB.cast {base : Nat} {xs ys : List Int} {w w' : World} {e : Ending} (h : RetB base xs w e w') (he : xs = ys) : RetB base ys w e w' := he ▸ h
theorem own_cat {w : World} {base s : Nat} {t : TypeId} {v : Value} {xs ys zs : List Int} {f : Int → Value} (h : w.ownsRow base t s v (xs.length + ys.length) (xs.map f ++ ys.map f)) (he : xs ++ ys = zs) : w.ownsRow base t s v zs.length (zs.map f) := by
  subst he; rw [List.length_append, List.map_append]; exact h
theorem lst_is {n : Nat} {x : List Int} (h : x.length = n) : numB n ++ x = lstB x := by rw [lstB, h]

theorem rtext_any (w : World) (s : ByteArray) (hn : s.size ≤ 1073741824) : Calls Try.prog 89 #[.string s] w (RetB w.heap.size (lstB (bytesOf s)) w) := by
  have e : numB s.size ++ bytesOf s = lstB (bytesOf s) := lst_is (bytesOf_len s)
  rw [← e]
  have HE := Lib.hid e
  have hcv := fun W => Lib.run_convert_string_bytes (P := Try.prog) W 9 23 5 s Try.underlying9 Try.underlying23 Try.underlying5
  clear e
  go_enter Try.func89, Try.ntmps89
  go_wp2_with fail
  have HS := Lib.hid (sl_bytes w 5 s (by omega))
  have HB := Lib.hid (below_bytes w 5 s)
  clear hcv
  refine (rBytes_any _ _ _ _ (bytesOf s) HS.out hn).mono ?_
  rintro e w2 ⟨v2, rfl, hown2, hb2⟩
  have HB2 := Lib.hid (below_then HB.out hb2); have HO2 := Lib.hid (own_base hown2 HB.out.size)
  clear hb2 hown2
  go_wp2_with fail
  go_ret
  exact ⟨_, rfl, HO2.out, HB2.out⟩
theorem rnum_num_any (w : World) (k : Int) (hk0 : Hid (-9223372036854775808 ≤ k)) (hk1 : Hid (k < 9223372036854775808)) : Calls Try.prog 90 #[.int .i64 k] w (RetB w.heap.size (numB (foldI k)) w) := by
  have hw : IntKind.i64.wrap k = k := IntWalk.i64_in _ ⟨hk0.out, by have := hk1.out; omega⟩
  have HF : Hid (foldI k < 18446744073709551616) := fold_lt hk0.out hk1.out
  go_enter Try.func90, Try.ntmps90
  go_wp2_with fail
  refine (rFold_any w k hk0 hk1).mono ?_
  rintro e w2 ⟨rfl, rfl⟩
  go_wp2_with fail
  refine (rNum_any w (foldI k) HF).mono ?_
  rintro e w2 ⟨v2, rfl, hown2, hb2⟩
  have HB2 := Lib.hid hb2; have HO2 := Lib.hid hown2
  clear hb2 hown2
  go_wp2_with fail
  go_ret
  exact ⟨_, rfl, HO2.out, HB2.out⟩

theorem stop_here {P : Program} {ops : Array Oper} {rest : List Oper} {a : Act} {w : World} {Q : Exit → Act → World → Prop} (h : StopD (wpList P ops Q rest a w)) : wpList P ops Q rest a w := h
set_option maxRecDepth 20000 in
set_option maxHeartbeats 2000000 in
theorem rbytesSt_any (w : World) (t : List Int) (ht : DgOk t) (n : Int) (A : Option Addr) (N C : Nat) (pos : List Int) (hs : Sl w w.heap.size 1 A N (pos.map (.int .u8))) (hN : N ≤ 1073741824)
    (hn0 : Hid (-9223372036854775808 ≤ n)) (hn1 : Hid (n < 9223372036854775808)) :
    Calls Try.prog 42 #[.agg (dl t).toArray, .int .i64 n, .slice A N C] w (RetB w.heap.size (stB t n pos) w) := by
  obtain ⟨i0, hi, hi0, hi1, hi2⟩ := info_parts Try.infoU8
  obtain ⟨X, hX⟩ : ∃ X, (dl t).toArray = X := ⟨_, rfl⟩
  obtain ⟨w1, hw1⟩ : ∃ w1, w.alloc (.cells X 22) = w1 := ⟨_, rfl⟩
  have hb1 : Below w.heap.size w w1 := hw1 ▸ below_new w _
  have kx : Bk w1 w.heap.size 22 (dl t) := hw1 ▸ Bk.new' w _ X (by rw [← hX])
  have HW := Lib.hid hw1; have HB1 := Lib.hid hb1; have HK1 := Lib.hid kx; have HS1 := Lib.hid (hs.later hb1); have HT := Lib.hid ht
  have HPL := Lib.hid hs.length
  have HG1 : Hid (w1.heap.size ≤ w1.heap.size) := Nat.le_refl _
  have HB01 : Hid (w.heap.size ≤ w1.heap.size) := hb1.size
  obtain ⟨x1, hx1⟩ : ∃ x, lstB (bytesOf ⟨#[115, 116, 97, 116, 101]⟩) = x := ⟨_, rfl⟩
  have HX1 := Lib.hid hx1
  have hl1 : x1.length ≤ 20 := by rw [← hx1]; (rw [txtState_is]; decide)
  clear hx1
  obtain ⟨x2, hx2⟩ : ∃ x, lstB t = x := ⟨_, rfl⟩
  have HX2 := Lib.hid hx2
  have hl2 : x2.length ≤ 18 := by rw [← hx2]; (have := lstB_len t; rw [ht.len] at this; omega)
  clear hx2
  obtain ⟨x3, hx3⟩ : ∃ x, numB (foldI n) = x := ⟨_, rfl⟩
  have HX3 := Lib.hid hx3
  have hl3 : x3.length ≤ 10 := by rw [← hx3]; exact numB_le _
  clear hx3
  obtain ⟨x4, hx4⟩ : ∃ x, lstB pos = x := ⟨_, rfl⟩
  have HX4 := Lib.hid hx4
  have hl4 : x4.length ≤ 1073741834 := by rw [← hx4]; (have := lstB_len pos; rw [HPL.out] at this; omega)
  clear hx4
  obtain ⟨e1, he1⟩ : ∃ e, x1 ++ x2 = e := ⟨_, rfl⟩
  have HE1 := Lib.hid he1
  have hm1 : e1.length ≤ 38 := by rw [← he1, List.length_append]; omega
  clear he1
  obtain ⟨e2, he2⟩ : ∃ e, e1 ++ x3 = e := ⟨_, rfl⟩
  have HE2 := Lib.hid he2
  have hm2 : e2.length ≤ 48 := by rw [← he2, List.length_append]; omega
  clear he2
  obtain ⟨e3, he3⟩ : ∃ e, e2 ++ x4 = e := ⟨_, rfl⟩
  have HE3 := Lib.hid he3
  have hm3 : e3.length ≤ 1073741900 := by rw [← he3, List.length_append]; omega
  clear he3
  have hfin : stB t n pos = e3 := by rw [← HE3.out, ← HE2.out, ← HE1.out, ← HX1.out, ← HX2.out, ← HX3.out, ← HX4.out, stB, txtState_is]; simp only [List.append_assoc]
  have HX2' : Hid (numB 8 ++ t = x2) := by show _ = _; rw [← HX2.out]; exact lst_is ht.len
  have HX4' : Hid (numB N ++ pos = x4) := by show _ = _; rw [← HX4.out]; exact lst_is HPL.out
  have HFIN := Lib.hid hfin
  rw [hX, hfin]
  clear hX hw1 hb1 kx hs ht hfin
  go_enter Try.func42, Try.ntmps42
  go_upto_region 1 with fail
  rw [HW.out]
  go_wp2_with fail
  refine wp_region_held_drew (S := fun w' => Bk w' w.heap.size 22 (dl t)) (by kernel_rfl) (Bk.drew HK1.out) (fun hHeld => ?_)
  refine wpAnyH_take (i := 1) (v := ?_) rfl (by kernel_rfl) (by kernel_rfl) (by kernel_rfl) (fun _ _ _ h => h) (Or.inl ⟨by rfl, ?_⟩) (by assumption) ?_
  rotate_left
  · intro w hSw
    (try dsimp only at hSw)
    go_simp
    try with_reducible rfl
  try simp only [Act.put, List.setIfInBounds_toArray, List.set_cons_zero, List.set_cons_succ, List.getElem_toArray, List.getElem_cons_zero, List.getElem_cons_succ]
  refine wpAnyH_ready (rs := [0]) (by kernel_rfl) (by simp) ?_
  refine AllReadyH.cons rfl (fun K hK => ?_) AllReadyH.nil
  go_simp
  (go_at_call 89; refine (rtext_any _ _ (by decide)).mono ?_; rintro e w2 hr; obtain ⟨v2, rfl, hown⟩ := RetB.cast hr HX1.out; have hb : Below w1.heap.size w1 w2 := (below_draws w1 _ 1).trans hown.2; obtain ⟨A2, c2, rfl⟩ := hown.form; have HP2 := Lib.hid hown.1; have HB2 := Lib.hid (below_then HB1.out hb); (try have HK2 := Lib.hid (HK1.out.later hb)); (try have HJ2 := Lib.hid (HJ1.out.later hb)); (try have HS2 := Lib.hid (HS1.out.below (hb.mono HG1.out))); (try have HO2 := Lib.hid (own_keep HO1.out hb)); have HG2 : Hid (w1.heap.size ≤ w2.heap.size) := Nat.le_trans HG1.out hb.size; clear hown hb hr)
  refine hK.out _ _ (HK2.out) (fun hHeld => ?_)
  clear hK K
  try simp only [Act.put, List.setIfInBounds_toArray, List.set_cons_zero, List.set_cons_succ, List.getElem_toArray, List.getElem_cons_zero, List.getElem_cons_succ]
  have HO2 := Lib.hid (own_base HP2.out (Nat.le_refl w1.heap.size))
  refine wpAnyH_ready (rs := [2]) (by kernel_rfl) (by simp) ?_
  refine AllReadyH.cons rfl (fun K hK => ?_) AllReadyH.nil
  go_simp
  (go_at_call 68; refine (rBytes_any _ (some ⟨w.heap.size, 0, none⟩) 8 8 t (sl_rg HT.out HK2.out.lt (Bk.range (pre := []) (post := []) (by simpa using HK2.out) rfl)) (by omega)).mono ?_; rintro e w3 hr; obtain ⟨v3, rfl, hown⟩ := RetB.cast hr HX2'.out; have hb : Below w2.heap.size w2 w3 := hown.2; obtain ⟨A3, c3, rfl⟩ := hown.form; have HP3 := Lib.hid hown.1; have HB3 := Lib.hid (below_then HB2.out hb); (try have HK3 := Lib.hid (HK2.out.later hb)); (try have HJ3 := Lib.hid (HJ2.out.later hb)); (try have HS3 := Lib.hid (HS2.out.below (hb.mono HG2.out))); (try have HO3 := Lib.hid (own_keep HO2.out hb)); have HG3 : Hid (w1.heap.size ≤ w3.heap.size) := Nat.le_trans HG2.out hb.size; clear hown hb hr)
  refine hK.out _ _ (HK3.out) (fun hHeld => ?_)
  clear hK K
  try simp only [Act.put, List.setIfInBounds_toArray, List.set_cons_zero, List.set_cons_succ, List.getElem_toArray, List.getElem_cons_zero, List.getElem_cons_succ]
  refine wpAnyH_ready (rs := [3]) (by kernel_rfl) (by simp) ?_
  refine AllReadyH.cons rfl (fun K hK => ?_) AllReadyH.nil
  rw [if_pos (by rfl)]
  refine wp_app _ (.tmp 8) (.tmp 10) 23 rfl w1.heap.size 5 i0 (.int .u8 0) 1 1 Try.underlying23 hi hi0 hi1 hi2 rfl (by decide) _ _ _ rfl HO3.out _ _ _ _ _ rfl (Sl.of_own HP3.out) (ints_one _ _) (by unfold maxLen; omega) (by omega) HG3.out ?_
  intro v4 w4 hown hg hat
  have ho := own_cat hown HE1.out
  obtain ⟨A4, c4, rfl⟩ := own_form ho
  have HO4 := Lib.hid ho
  have HB4 := Lib.hid (grown_below HB3.out (own_base HO3.out HB01.out) hg (Nat.le_refl _) HB3.out.size)
  have hgb : Below w1.heap.size w3 w4 := grown_below (Below.refl _ _) HO3.out hg (Nat.le_refl _) HG3.out
  try have HK4 := Lib.hid (HK3.out.grown hg (Ne.symm (own_bk_ne HO3.out HK3.out (by decide))))
  try have HJ4 := Lib.hid (HJ3.out.grown hg (Ne.symm (own_bk_ne HO3.out HJ3.out (by decide))))
  try have HS4 := Lib.hid (HS3.out.below hgb)
  have HG4 : Hid (w1.heap.size ≤ w4.heap.size) := Nat.le_trans HG3.out hg.size
  clear hown ho hg hat hgb
  refine hK.out _ _ HK4.out (fun hHeld => ?_)
  clear hK K
  try simp only [Act.put, List.setIfInBounds_toArray, List.set_cons_zero, List.set_cons_succ, List.getElem_toArray, List.getElem_cons_zero, List.getElem_cons_succ]
  refine wpAnyH_take (i := 4) (v := ?_) rfl (by kernel_rfl) (by kernel_rfl) (by kernel_rfl) (fun _ _ _ h => h) (Or.inl ⟨by rfl, ?_⟩) (by assumption) ?_
  rotate_left
  · intro w hSw
    (try dsimp only at hSw)
    go_simp
    try with_reducible rfl
  try simp only [Act.put, List.setIfInBounds_toArray, List.set_cons_zero, List.set_cons_succ, List.getElem_toArray, List.getElem_cons_zero, List.getElem_cons_succ]
  refine wpAnyH_done (by kernel_rfl) ?_ _
  clear hHeld
  go_wp2_with fail
  refine (rnum_num_any _ n hn0 hn1).mono ?_
  rintro e w5 hr
  obtain ⟨v5, rfl, hown⟩ := RetB.cast hr HX3.out
  have hb : Below w4.heap.size w4 w5 := hown.2
  obtain ⟨A5, c5, rfl⟩ := hown.form
  have HP5 := Lib.hid hown.1
  have HB5 := Lib.hid (below_then HB4.out hb)
  try have HK5 := Lib.hid (HK4.out.later hb)
  try have HJ5 := Lib.hid (HJ4.out.later hb)
  try have HS5 := Lib.hid (HS4.out.below (hb.mono HG4.out))
  try have HO5 := Lib.hid (own_keep HO4.out hb)
  have HG5 : Hid (w1.heap.size ≤ w5.heap.size) := Nat.le_trans HG4.out hb.size
  clear hown hb hr
  go_wp2_with (at_builtin; refine wpList_app _ rfl (.tmp 12) (.tmp 14) 23 rfl w1.heap.size 5 i0 (.int .u8 0) 1 1 Try.underlying23 hi hi0 hi1 hi2 rfl (by decide) _ _ _ rfl HO5.out _ _ _ _ _ rfl (Sl.of_own HP5.out) (ints_one _ _) (by unfold maxLen; omega) (by omega) HG5.out ?_; intro v6 w6 hown hg hat; refine stop_here ?_)
  refine StopD.go ?_
  have ho := own_cat hown HE2.out
  obtain ⟨A6, c6, rfl⟩ := own_form ho
  have HO6 := Lib.hid ho
  have HB6 := Lib.hid (grown_below HB5.out (own_base HO5.out HB01.out) hg (Nat.le_refl _) HB5.out.size)
  have hgb : Below w1.heap.size w5 w6 := grown_below (Below.refl _ _) HO5.out hg (Nat.le_refl _) HG5.out
  try have HK6 := Lib.hid (HK5.out.grown hg (Ne.symm (own_bk_ne HO5.out HK5.out (by decide))))
  try have HJ6 := Lib.hid (HJ5.out.grown hg (Ne.symm (own_bk_ne HO5.out HJ5.out (by decide))))
  try have HS6 := Lib.hid (HS5.out.below hgb)
  have HG6 : Hid (w1.heap.size ≤ w6.heap.size) := Nat.le_trans HG5.out hg.size
  clear hown ho hg hat hgb
  go_wp2_with fail
  refine (rBytes_any _ A N C pos (HS6.out.more HG6.out) hN).mono ?_
  rintro e w7 hr
  obtain ⟨v7, rfl, hown⟩ := RetB.cast hr HX4'.out
  have hb : Below w6.heap.size w6 w7 := hown.2
  obtain ⟨A7, c7, rfl⟩ := hown.form
  have HP7 := Lib.hid hown.1
  have HB7 := Lib.hid (below_then HB6.out hb)
  try have HK7 := Lib.hid (HK6.out.later hb)
  try have HJ7 := Lib.hid (HJ6.out.later hb)
  try have HS7 := Lib.hid (HS6.out.below (hb.mono HG6.out))
  try have HO7 := Lib.hid (own_keep HO6.out hb)
  have HG7 : Hid (w1.heap.size ≤ w7.heap.size) := Nat.le_trans HG6.out hb.size
  clear hown hb hr
  go_wp2_with (at_builtin; refine wpList_app _ rfl (.tmp 15) (.tmp 17) 23 rfl w1.heap.size 5 i0 (.int .u8 0) 1 1 Try.underlying23 hi hi0 hi1 hi2 rfl (by decide) _ _ _ rfl HO7.out _ _ _ _ _ rfl (Sl.of_own HP7.out) (ints_one _ _) (by unfold maxLen; omega) (by omega) HG7.out ?_; intro v8 w8 hown hg hat; refine stop_here ?_)
  refine StopD.go ?_
  have ho := own_cat hown HE3.out
  obtain ⟨A8, c8, rfl⟩ := own_form ho
  have HO8 := Lib.hid ho
  have HB8 := Lib.hid (grown_below HB7.out (own_base HO7.out HB01.out) hg (Nat.le_refl _) HB7.out.size)
  have hgb : Below w1.heap.size w7 w8 := grown_below (Below.refl _ _) HO7.out hg (Nat.le_refl _) HG7.out
  try have HK8 := Lib.hid (HK7.out.grown hg (Ne.symm (own_bk_ne HO7.out HK7.out (by decide))))
  try have HJ8 := Lib.hid (HJ7.out.grown hg (Ne.symm (own_bk_ne HO7.out HJ7.out (by decide))))
  try have HS8 := Lib.hid (HS7.out.below hgb)
  have HG8 : Hid (w1.heap.size ≤ w8.heap.size) := Nat.le_trans HG7.out hg.size
  clear hown ho hg hat hgb
  go_wp2_with fail
  go_ret
  exact ⟨_, rfl, own_base HO8.out HB01.out, HB8.out⟩

set_option maxRecDepth 20000 in
set_option maxHeartbeats 2000000 in
theorem rbytesAc_any (w : World) (t a : List Int) (ht : DgOk t) (ha : DgOk a) (n : Int) (A : Option Addr) (N C : Nat) (pos : List Int) (hs : Sl w w.heap.size 1 A N (pos.map (.int .u8))) (hN : N ≤ 1073741824)
    (hn0 : Hid (-9223372036854775808 ≤ n)) (hn1 : Hid (n < 9223372036854775808)) :
    Calls Try.prog 43 #[.agg (dl t).toArray, .int .i64 n, .agg (dl a).toArray, .slice A N C] w (RetB w.heap.size (acB t n a pos) w) := by
  obtain ⟨i0, hi, hi0, hi1, hi2⟩ := info_parts Try.infoU8
  obtain ⟨X, hX⟩ : ∃ X, (dl t).toArray = X := ⟨_, rfl⟩
  obtain ⟨Y, hY⟩ : ∃ Y, (dl a).toArray = Y := ⟨_, rfl⟩
  obtain ⟨w1, hw1⟩ : ∃ w1, (w.alloc (.cells X 22)).alloc (.cells Y 22) = w1 := ⟨_, rfl⟩
  have hb1 : Below w.heap.size w w1 := hw1 ▸ (below_new w _).alloc (by simp) _
  have kx : Bk w1 w.heap.size 22 (dl t) := hw1 ▸ (Bk.new' w _ X (by rw [← hX])).alloc _
  have ky : Bk w1 (w.heap.size + 1) 22 (dl a) := hw1 ▸ Bk.at_ _ _ Y (by simp) (by rw [← hY])
  have HW := Lib.hid hw1; have HB1 := Lib.hid hb1; have HK1 := Lib.hid kx; have HJ1 := Lib.hid ky; have HS1 := Lib.hid (hs.later hb1); have HT := Lib.hid ht; have HTA := Lib.hid ha
  have HPL := Lib.hid hs.length
  have HG1 : Hid (w1.heap.size ≤ w1.heap.size) := Nat.le_refl _
  have HB01 : Hid (w.heap.size ≤ w1.heap.size) := hb1.size
  obtain ⟨x1, hx1⟩ : ∃ x, lstB (bytesOf ⟨#[97, 99, 116]⟩) = x := ⟨_, rfl⟩
  have HX1 := Lib.hid hx1
  have hl1 : x1.length ≤ 20 := by rw [← hx1]; (rw [txtAct_is]; decide)
  clear hx1
  obtain ⟨x2, hx2⟩ : ∃ x, lstB t = x := ⟨_, rfl⟩
  have HX2 := Lib.hid hx2
  have hl2 : x2.length ≤ 18 := by rw [← hx2]; (have := lstB_len t; rw [ht.len] at this; omega)
  clear hx2
  obtain ⟨x3, hx3⟩ : ∃ x, numB (foldI n) = x := ⟨_, rfl⟩
  have HX3 := Lib.hid hx3
  have hl3 : x3.length ≤ 10 := by rw [← hx3]; exact numB_le _
  clear hx3
  obtain ⟨x5, hx5⟩ : ∃ x, lstB a = x := ⟨_, rfl⟩
  have HX5 := Lib.hid hx5
  have hl5 : x5.length ≤ 18 := by rw [← hx5]; (have := lstB_len a; rw [ha.len] at this; omega)
  clear hx5
  obtain ⟨x4, hx4⟩ : ∃ x, lstB pos = x := ⟨_, rfl⟩
  have HX4 := Lib.hid hx4
  have hl4 : x4.length ≤ 1073741834 := by rw [← hx4]; (have := lstB_len pos; rw [HPL.out] at this; omega)
  clear hx4
  obtain ⟨e1, he1⟩ : ∃ e, x1 ++ x2 = e := ⟨_, rfl⟩
  have HE1 := Lib.hid he1
  have hm1 : e1.length ≤ 38 := by rw [← he1, List.length_append]; omega
  clear he1
  obtain ⟨e2, he2⟩ : ∃ e, e1 ++ x3 = e := ⟨_, rfl⟩
  have HE2 := Lib.hid he2
  have hm2 : e2.length ≤ 48 := by rw [← he2, List.length_append]; omega
  clear he2
  obtain ⟨e3, he3⟩ : ∃ e, e2 ++ x5 = e := ⟨_, rfl⟩
  have HE3 := Lib.hid he3
  have hm3 : e3.length ≤ 78 := by rw [← he3, List.length_append]; omega
  clear he3
  obtain ⟨e4, he4⟩ : ∃ e, e3 ++ x4 = e := ⟨_, rfl⟩
  have HE4 := Lib.hid he4
  have hm4 : e4.length ≤ 1073741999 := by rw [← he4, List.length_append]; omega
  clear he4
  have hfin : acB t n a pos = e4 := by rw [← HE4.out, ← HE3.out, ← HE2.out, ← HE1.out, ← HX1.out, ← HX2.out, ← HX3.out, ← HX4.out, ← HX5.out, acB, txtAct_is]; simp only [List.append_assoc]
  have HX2' : Hid (numB 8 ++ t = x2) := by show _ = _; rw [← HX2.out]; exact lst_is ht.len
  have HX5' : Hid (numB 8 ++ a = x5) := by show _ = _; rw [← HX5.out]; exact lst_is ha.len
  have HX4' : Hid (numB N ++ pos = x4) := by show _ = _; rw [← HX4.out]; exact lst_is HPL.out
  rw [hX, hY, hfin]
  clear hX hY hw1 hb1 kx ky hs ht ha hfin
  go_enter Try.func43, Try.ntmps43
  go_upto_region 1 with fail
  rw [HW.out]
  go_wp2_with fail
  refine wp_region_held_drew (S := fun w' => Bk w' w.heap.size 22 (dl t)) (by kernel_rfl) (Bk.drew HK1.out) (fun hHeld => ?_)
  refine wpAnyH_take (i := 1) (v := ?_) rfl (by kernel_rfl) (by kernel_rfl) (by kernel_rfl) (fun _ _ _ h => h) (Or.inl ⟨by rfl, ?_⟩) (by assumption) ?_
  rotate_left
  · intro w hSw
    (try dsimp only at hSw)
    go_simp
    try with_reducible rfl
  try simp only [Act.put, List.setIfInBounds_toArray, List.set_cons_zero, List.set_cons_succ, List.getElem_toArray, List.getElem_cons_zero, List.getElem_cons_succ]
  refine wpAnyH_ready (rs := [0]) (by kernel_rfl) (by simp) ?_
  refine AllReadyH.cons rfl (fun K hK => ?_) AllReadyH.nil
  go_simp
  (go_at_call 89; refine (rtext_any _ _ (by decide)).mono ?_; rintro e w2 hr; obtain ⟨v2, rfl, hown⟩ := RetB.cast hr HX1.out; have hb : Below w1.heap.size w1 w2 := (below_draws w1 _ 1).trans hown.2; obtain ⟨A2, c2, rfl⟩ := hown.form; have HP2 := Lib.hid hown.1; have HB2 := Lib.hid (below_then HB1.out hb); (try have HK2 := Lib.hid (HK1.out.later hb)); (try have HJ2 := Lib.hid (HJ1.out.later hb)); (try have HS2 := Lib.hid (HS1.out.below (hb.mono HG1.out))); (try have HO2 := Lib.hid (own_keep HO1.out hb)); have HG2 : Hid (w1.heap.size ≤ w2.heap.size) := Nat.le_trans HG1.out hb.size; clear hown hb hr)
  refine hK.out _ _ (HK2.out) (fun hHeld => ?_)
  clear hK K
  try simp only [Act.put, List.setIfInBounds_toArray, List.set_cons_zero, List.set_cons_succ, List.getElem_toArray, List.getElem_cons_zero, List.getElem_cons_succ]
  have HO2 := Lib.hid (own_base HP2.out (Nat.le_refl w1.heap.size))
  refine wpAnyH_ready (rs := [2]) (by kernel_rfl) (by simp) ?_
  refine AllReadyH.cons rfl (fun K hK => ?_) AllReadyH.nil
  go_simp
  (go_at_call 68; refine (rBytes_any _ (some ⟨w.heap.size, 0, none⟩) 8 8 t (sl_rg HT.out HK2.out.lt (Bk.range (pre := []) (post := []) (by simpa using HK2.out) rfl)) (by omega)).mono ?_; rintro e w3 hr; obtain ⟨v3, rfl, hown⟩ := RetB.cast hr HX2'.out; have hb : Below w2.heap.size w2 w3 := hown.2; obtain ⟨A3, c3, rfl⟩ := hown.form; have HP3 := Lib.hid hown.1; have HB3 := Lib.hid (below_then HB2.out hb); (try have HK3 := Lib.hid (HK2.out.later hb)); (try have HJ3 := Lib.hid (HJ2.out.later hb)); (try have HS3 := Lib.hid (HS2.out.below (hb.mono HG2.out))); (try have HO3 := Lib.hid (own_keep HO2.out hb)); have HG3 : Hid (w1.heap.size ≤ w3.heap.size) := Nat.le_trans HG2.out hb.size; clear hown hb hr)
  refine hK.out _ _ (HK3.out) (fun hHeld => ?_)
  clear hK K
  try simp only [Act.put, List.setIfInBounds_toArray, List.set_cons_zero, List.set_cons_succ, List.getElem_toArray, List.getElem_cons_zero, List.getElem_cons_succ]
  refine wpAnyH_ready (rs := [3]) (by kernel_rfl) (by simp) ?_
  refine AllReadyH.cons rfl (fun K hK => ?_) AllReadyH.nil
  rw [if_pos (by rfl)]
  refine wp_app _ (.tmp 10) (.tmp 12) 23 rfl w1.heap.size 5 i0 (.int .u8 0) 1 1 Try.underlying23 hi hi0 hi1 hi2 rfl (by decide) _ _ _ rfl HO3.out _ _ _ _ _ rfl (Sl.of_own HP3.out) (ints_one _ _) (by unfold maxLen; omega) (by omega) HG3.out ?_
  intro v4 w4 hown hg hat
  have ho := own_cat hown HE1.out
  obtain ⟨A4, c4, rfl⟩ := own_form ho
  have HO4 := Lib.hid ho
  have HB4 := Lib.hid (grown_below HB3.out (own_base HO3.out HB01.out) hg (Nat.le_refl _) HB3.out.size)
  have hgb : Below w1.heap.size w3 w4 := grown_below (Below.refl _ _) HO3.out hg (Nat.le_refl _) HG3.out
  try have HK4 := Lib.hid (HK3.out.grown hg (Ne.symm (own_bk_ne HO3.out HK3.out (by decide))))
  try have HJ4 := Lib.hid (HJ3.out.grown hg (Ne.symm (own_bk_ne HO3.out HJ3.out (by decide))))
  try have HS4 := Lib.hid (HS3.out.below hgb)
  have HG4 : Hid (w1.heap.size ≤ w4.heap.size) := Nat.le_trans HG3.out hg.size
  clear hown ho hg hat hgb
  refine hK.out _ _ HK4.out (fun hHeld => ?_)
  clear hK K
  try simp only [Act.put, List.setIfInBounds_toArray, List.set_cons_zero, List.set_cons_succ, List.getElem_toArray, List.getElem_cons_zero, List.getElem_cons_succ]
  refine wpAnyH_take (i := 4) (v := ?_) rfl (by kernel_rfl) (by kernel_rfl) (by kernel_rfl) (fun _ _ _ h => h) (Or.inl ⟨by rfl, ?_⟩) (by assumption) ?_
  rotate_left
  · intro w hSw
    (try dsimp only at hSw)
    go_simp
    try with_reducible rfl
  try simp only [Act.put, List.setIfInBounds_toArray, List.set_cons_zero, List.set_cons_succ, List.getElem_toArray, List.getElem_cons_zero, List.getElem_cons_succ]
  refine wpAnyH_done (by kernel_rfl) ?_ _
  clear hHeld
  go_wp2_with fail
  refine wp_region_held_drew (S := fun w' => Bk w' w.heap.size 22 (dl t)) (by kernel_rfl) (Bk.drew HK4.out) (fun hHeld => ?_)
  refine wpAnyH_take (i := 0) (v := ?_) rfl (by kernel_rfl) (by kernel_rfl) (by kernel_rfl) (fun _ _ _ h => h) (Or.inl ⟨by rfl, ?_⟩) (by assumption) ?_
  rotate_left
  · intro w hSw
    (try dsimp only at hSw)
    go_simp
    try with_reducible rfl
  try simp only [Act.put, List.setIfInBounds_toArray, List.set_cons_zero, List.set_cons_succ, List.getElem_toArray, List.getElem_cons_zero]
  refine wpAnyH_take (i := 1) (v := ?_) rfl (by kernel_rfl) (by kernel_rfl) (by kernel_rfl) (fun _ _ _ h => h) (Or.inl ⟨by rfl, ?_⟩) (by assumption) ?_
  rotate_left
  · intro w hSw
    (try dsimp only at hSw)
    go_simp
    try with_reducible rfl
  try simp only [Act.put, List.setIfInBounds_toArray, List.set_cons_zero, List.set_cons_succ, List.getElem_toArray, List.getElem_cons_zero, List.getElem_cons_succ]
  refine wpAnyH_take (i := 4) (v := ?_) rfl (by kernel_rfl) (by kernel_rfl) (by kernel_rfl) (fun _ _ _ h => h) (Or.inl ⟨by rfl, ?_⟩) (by assumption) ?_
  rotate_left
  · intro w hSw
    (try dsimp only at hSw)
    go_simp
    try with_reducible rfl
  try simp only [Act.put, List.setIfInBounds_toArray, List.set_cons_zero, List.set_cons_succ, List.getElem_toArray, List.getElem_cons_zero, List.getElem_cons_succ]
  refine wpAnyH_ready (rs := [2]) (by kernel_rfl) (by simp) ?_
  refine AllReadyH.cons rfl (fun K hK => ?_) AllReadyH.nil
  go_simp
  (go_at_call 90; refine (rnum_num_any _ n hn0 hn1).mono ?_; rintro e w5 hr; obtain ⟨v5, rfl, hown⟩ := RetB.cast hr HX3.out; have hb : Below w4.heap.size w4 w5 := (below_draws w4 _ 1).trans hown.2; obtain ⟨A5, c5, rfl⟩ := hown.form; have HP5 := Lib.hid hown.1; have HB5 := Lib.hid (below_then HB4.out hb); (try have HK5 := Lib.hid (HK4.out.later hb)); (try have HJ5 := Lib.hid (HJ4.out.later hb)); (try have HS5 := Lib.hid (HS4.out.below (hb.mono HG4.out))); (try have HO5 := Lib.hid (own_keep HO4.out hb)); have HG5 : Hid (w1.heap.size ≤ w5.heap.size) := Nat.le_trans HG4.out hb.size; clear hown hb hr)
  refine hK.out _ _ (HK5.out) (fun hHeld => ?_)
  clear hK K
  try simp only [Act.put, List.setIfInBounds_toArray, List.set_cons_zero, List.set_cons_succ, List.getElem_toArray, List.getElem_cons_zero, List.getElem_cons_succ]
  refine wpAnyH_ready (rs := [3]) (by kernel_rfl) (by simp) ?_
  refine AllReadyH.cons rfl (fun K hK => ?_) AllReadyH.nil
  rw [if_pos (by rfl)]
  refine wp_app _ (.tmp 14) (.tmp 16) 23 rfl w1.heap.size 5 i0 (.int .u8 0) 1 1 Try.underlying23 hi hi0 hi1 hi2 rfl (by decide) _ _ _ rfl HO5.out _ _ _ _ _ rfl (Sl.of_own HP5.out) (ints_one _ _) (by unfold maxLen; omega) (by omega) HG5.out ?_
  intro v6 w6 hown hg hat
  have ho := own_cat hown HE2.out
  obtain ⟨A6, c6, rfl⟩ := own_form ho
  have HO6 := Lib.hid ho
  have HB6 := Lib.hid (grown_below HB5.out (own_base HO5.out HB01.out) hg (Nat.le_refl _) HB5.out.size)
  have hgb : Below w1.heap.size w5 w6 := grown_below (Below.refl _ _) HO5.out hg (Nat.le_refl _) HG5.out
  try have HK6 := Lib.hid (HK5.out.grown hg (Ne.symm (own_bk_ne HO5.out HK5.out (by decide))))
  try have HJ6 := Lib.hid (HJ5.out.grown hg (Ne.symm (own_bk_ne HO5.out HJ5.out (by decide))))
  try have HS6 := Lib.hid (HS5.out.below hgb)
  have HG6 : Hid (w1.heap.size ≤ w6.heap.size) := Nat.le_trans HG5.out hg.size
  clear hown ho hg hat hgb
  refine hK.out _ _ HK6.out (fun hHeld => ?_)
  clear hK K
  try simp only [Act.put, List.setIfInBounds_toArray, List.set_cons_zero, List.set_cons_succ, List.getElem_toArray, List.getElem_cons_zero, List.getElem_cons_succ]
  refine wpAnyH_ready (rs := [5]) (by kernel_rfl) (by simp) ?_
  refine AllReadyH.cons rfl (fun K hK => ?_) AllReadyH.nil
  go_simp
  (go_at_call 68; refine (rBytes_any _ (some ⟨w.heap.size + 1, 0, none⟩) 8 8 a (sl_rg HTA.out HJ6.out.lt (Bk.range (pre := []) (post := []) (by simpa using HJ6.out) rfl)) (by omega)).mono ?_; rintro e w7 hr; obtain ⟨v7, rfl, hown⟩ := RetB.cast hr HX5'.out; have hb : Below w6.heap.size w6 w7 := hown.2; obtain ⟨A7, c7, rfl⟩ := hown.form; have HP7 := Lib.hid hown.1; have HB7 := Lib.hid (below_then HB6.out hb); (try have HK7 := Lib.hid (HK6.out.later hb)); (try have HJ7 := Lib.hid (HJ6.out.later hb)); (try have HS7 := Lib.hid (HS6.out.below (hb.mono HG6.out))); (try have HO7 := Lib.hid (own_keep HO6.out hb)); have HG7 : Hid (w1.heap.size ≤ w7.heap.size) := Nat.le_trans HG6.out hb.size; clear hown hb hr)
  refine hK.out _ _ (HK7.out) (fun hHeld => ?_)
  clear hK K
  try simp only [Act.put, List.setIfInBounds_toArray, List.set_cons_zero, List.set_cons_succ, List.getElem_toArray, List.getElem_cons_zero, List.getElem_cons_succ]
  refine wpAnyH_ready (rs := [6]) (by kernel_rfl) (by simp) ?_
  refine AllReadyH.cons rfl (fun K hK => ?_) AllReadyH.nil
  rw [if_pos (by rfl)]
  refine wp_app _ (.tmp 17) (.tmp 19) 23 rfl w1.heap.size 5 i0 (.int .u8 0) 1 1 Try.underlying23 hi hi0 hi1 hi2 rfl (by decide) _ _ _ rfl HO7.out _ _ _ _ _ rfl (Sl.of_own HP7.out) (ints_one _ _) (by unfold maxLen; omega) (by omega) HG7.out ?_
  intro v8 w8 hown hg hat
  have ho := own_cat hown HE3.out
  obtain ⟨A8, c8, rfl⟩ := own_form ho
  have HO8 := Lib.hid ho
  have HB8 := Lib.hid (grown_below HB7.out (own_base HO7.out HB01.out) hg (Nat.le_refl _) HB7.out.size)
  have hgb : Below w1.heap.size w7 w8 := grown_below (Below.refl _ _) HO7.out hg (Nat.le_refl _) HG7.out
  try have HK8 := Lib.hid (HK7.out.grown hg (Ne.symm (own_bk_ne HO7.out HK7.out (by decide))))
  try have HJ8 := Lib.hid (HJ7.out.grown hg (Ne.symm (own_bk_ne HO7.out HJ7.out (by decide))))
  try have HS8 := Lib.hid (HS7.out.below hgb)
  have HG8 : Hid (w1.heap.size ≤ w8.heap.size) := Nat.le_trans HG7.out hg.size
  clear hown ho hg hat hgb
  refine hK.out _ _ HK8.out (fun hHeld => ?_)
  clear hK K
  try simp only [Act.put, List.setIfInBounds_toArray, List.set_cons_zero, List.set_cons_succ, List.getElem_toArray, List.getElem_cons_zero, List.getElem_cons_succ]
  refine wpAnyH_take (i := 7) (v := ?_) rfl (by kernel_rfl) (by kernel_rfl) (by kernel_rfl) (fun _ _ _ h => h) (Or.inl ⟨by rfl, ?_⟩) (by assumption) ?_
  rotate_left
  · intro w hSw
    (try dsimp only at hSw)
    go_simp
    try with_reducible rfl
  try simp only [Act.put, List.setIfInBounds_toArray, List.set_cons_zero, List.set_cons_succ, List.getElem_toArray, List.getElem_cons_zero, List.getElem_cons_succ]
  refine wpAnyH_done (by kernel_rfl) ?_ _
  clear hHeld
  go_wp2_with fail
  refine (rBytes_any _ A N C pos (HS8.out.more HG8.out) hN).mono ?_
  rintro e w9 hr
  obtain ⟨v9, rfl, hown⟩ := RetB.cast hr HX4'.out
  have hb : Below w8.heap.size w8 w9 := hown.2
  obtain ⟨A9, c9, rfl⟩ := hown.form
  have HP9 := Lib.hid hown.1
  have HB9 := Lib.hid (below_then HB8.out hb)
  try have HK9 := Lib.hid (HK8.out.later hb)
  try have HJ9 := Lib.hid (HJ8.out.later hb)
  try have HS9 := Lib.hid (HS8.out.below (hb.mono HG8.out))
  try have HO9 := Lib.hid (own_keep HO8.out hb)
  have HG9 : Hid (w1.heap.size ≤ w9.heap.size) := Nat.le_trans HG8.out hb.size
  clear hown hb hr
  go_wp2_with (at_builtin; refine wpList_app _ rfl (.tmp 21) (.tmp 23) 23 rfl w1.heap.size 5 i0 (.int .u8 0) 1 1 Try.underlying23 hi hi0 hi1 hi2 rfl (by decide) _ _ _ rfl HO9.out _ _ _ _ _ rfl (Sl.of_own HP9.out) (ints_one _ _) (by unfold maxLen; omega) (by omega) HG9.out ?_; intro v10 w10 hown hg hat; refine stop_here ?_)
  refine StopD.go ?_
  have ho := own_cat hown HE4.out
  obtain ⟨A10, c10, rfl⟩ := own_form ho
  have HO10 := Lib.hid ho
  have HB10 := Lib.hid (grown_below HB9.out (own_base HO9.out HB01.out) hg (Nat.le_refl _) HB9.out.size)
  have hgb : Below w1.heap.size w9 w10 := grown_below (Below.refl _ _) HO9.out hg (Nat.le_refl _) HG9.out
  try have HK10 := Lib.hid (HK9.out.grown hg (Ne.symm (own_bk_ne HO9.out HK9.out (by decide))))
  try have HJ10 := Lib.hid (HJ9.out.grown hg (Ne.symm (own_bk_ne HO9.out HJ9.out (by decide))))
  try have HS10 := Lib.hid (HS9.out.below hgb)
  have HG10 : Hid (w1.heap.size ≤ w10.heap.size) := Nat.le_trans HG9.out hg.size
  clear hown ho hg hat hgb
  go_wp2_with fail
  go_ret
  exact ⟨_, rfl, own_base HO10.out HB01.out, HB10.out⟩

set_option maxRecDepth 20000 in
set_option maxHeartbeats 2000000 in
theorem rbytesPy_any (w : World) (t : List Int) (ht : DgOk t) (A : Option Addr) (N C : Nat) (zs : List Int) (hs : Sl w w.heap.size 1 A N (zs.map (.int .i64))) (hzo : I64Ok zs) (hN : N ≤ 1000000) :
    Calls Try.prog 44 #[.agg (dl t).toArray, .slice A N C] w (RetB w.heap.size (pyB t zs) w) := by
  obtain ⟨i0, hi, hi0, hi1, hi2⟩ := info_parts Try.infoU8
  obtain ⟨X, hX⟩ : ∃ X, (dl t).toArray = X := ⟨_, rfl⟩
  obtain ⟨w1, hw1⟩ : ∃ w1, w.alloc (.cells X 22) = w1 := ⟨_, rfl⟩
  have hb1 : Below w.heap.size w w1 := hw1 ▸ below_new w _
  have kx : Bk w1 w.heap.size 22 (dl t) := hw1 ▸ Bk.new' w _ X (by rw [← hX])
  have HW := Lib.hid hw1; have HB1 := Lib.hid hb1; have HK1 := Lib.hid kx; have HS1 := Lib.hid (hs.later hb1); have HT := Lib.hid ht; have HPO := Lib.hid hzo
  have HPL := Lib.hid hs.length
  have HG1 : Hid (w1.heap.size ≤ w1.heap.size) := Nat.le_refl _
  have HB01 : Hid (w.heap.size ≤ w1.heap.size) := hb1.size
  have hNw : IntKind.u64.wrap (N : Int) = N := by rw [IntKind.wrap_u64]; omega
  obtain ⟨x1, hx1⟩ : ∃ x, lstB (bytesOf ⟨#[112, 97, 121]⟩) = x := ⟨_, rfl⟩
  have HX1 := Lib.hid hx1
  have hl1 : x1.length ≤ 20 := by rw [← hx1]; (rw [txtPay_is]; decide)
  clear hx1
  obtain ⟨x2, hx2⟩ : ∃ x, lstB t = x := ⟨_, rfl⟩
  have HX2 := Lib.hid hx2
  have hl2 : x2.length ≤ 18 := by rw [← hx2]; (have := lstB_len t; rw [ht.len] at this; omega)
  clear hx2
  obtain ⟨x3, hx3⟩ : ∃ x, numB N = x := ⟨_, rfl⟩
  have HX3 := Lib.hid hx3
  have hl3 : x3.length ≤ 10 := by rw [← hx3]; exact numB_le _
  clear hx3
  obtain ⟨e1, he1⟩ : ∃ e, x1 ++ x2 = e := ⟨_, rfl⟩
  have HE1 := Lib.hid he1
  have hm1 : e1.length ≤ 38 := by rw [← he1, List.length_append]; omega
  clear he1
  obtain ⟨e2, he2⟩ : ∃ e, e1 ++ x3 = e := ⟨_, rfl⟩
  have HE2 := Lib.hid he2
  have hm2 : e2.length ≤ 48 := by rw [← he2, List.length_append]; omega
  clear he2
  have HFIN : Hid (pyB t zs = e2 ++ pyT zs) := by show _ = _; rw [← HE2.out, ← HE1.out, ← HX1.out, ← HX2.out, ← HX3.out, pyB, txtPay_is, hs.length]; simp only [List.append_assoc]
  have HX2' : Hid (numB 8 ++ t = x2) := by show _ = _; rw [← HX2.out]; exact lst_is ht.len
  rw [hX]
  clear hX hw1 hb1 kx hs ht hzo
  go_enter Try.func44, Try.ntmps44
  go_upto_region 1 with fail
  rw [HW.out]
  go_wp2_with fail
  refine wp_region_held_drew (S := fun w' => Bk w' w.heap.size 22 (dl t)) (by kernel_rfl) (Bk.drew HK1.out) (fun hHeld => ?_)
  refine wpAnyH_take (i := 1) (v := ?_) rfl (by kernel_rfl) (by kernel_rfl) (by kernel_rfl) (fun _ _ _ h => h) (Or.inl ⟨by rfl, ?_⟩) (by assumption) ?_
  rotate_left
  · intro w hSw
    (try dsimp only at hSw)
    go_simp
    try with_reducible rfl
  try simp only [Act.put, List.setIfInBounds_toArray, List.set_cons_zero, List.set_cons_succ, List.getElem_toArray, List.getElem_cons_zero, List.getElem_cons_succ]
  refine wpAnyH_ready (rs := [0]) (by kernel_rfl) (by simp) ?_
  refine AllReadyH.cons rfl (fun K hK => ?_) AllReadyH.nil
  go_simp
  (go_at_call 89; refine (rtext_any _ _ (by decide)).mono ?_; rintro e w2 hr; obtain ⟨v2, rfl, hown⟩ := RetB.cast hr HX1.out; have hb : Below w1.heap.size w1 w2 := (below_draws w1 _ 1).trans hown.2; obtain ⟨A2, c2, rfl⟩ := hown.form; have HP2 := Lib.hid hown.1; have HB2 := Lib.hid (below_then HB1.out hb); (try have HK2 := Lib.hid (HK1.out.later hb)); (try have HJ2 := Lib.hid (HJ1.out.later hb)); (try have HS2 := Lib.hid (HS1.out.below (hb.mono HG1.out))); (try have HO2 := Lib.hid (own_keep HO1.out hb)); have HG2 : Hid (w1.heap.size ≤ w2.heap.size) := Nat.le_trans HG1.out hb.size; clear hown hb hr)
  refine hK.out _ _ (HK2.out) (fun hHeld => ?_)
  clear hK K
  try simp only [Act.put, List.setIfInBounds_toArray, List.set_cons_zero, List.set_cons_succ, List.getElem_toArray, List.getElem_cons_zero, List.getElem_cons_succ]
  have HO2 := Lib.hid (own_base HP2.out (Nat.le_refl w1.heap.size))
  refine wpAnyH_ready (rs := [2]) (by kernel_rfl) (by simp) ?_
  refine AllReadyH.cons rfl (fun K hK => ?_) AllReadyH.nil
  go_simp
  (go_at_call 68; refine (rBytes_any _ (some ⟨w.heap.size, 0, none⟩) 8 8 t (sl_rg HT.out HK2.out.lt (Bk.range (pre := []) (post := []) (by simpa using HK2.out) rfl)) (by omega)).mono ?_; rintro e w3 hr; obtain ⟨v3, rfl, hown⟩ := RetB.cast hr HX2'.out; have hb : Below w2.heap.size w2 w3 := hown.2; obtain ⟨A3, c3, rfl⟩ := hown.form; have HP3 := Lib.hid hown.1; have HB3 := Lib.hid (below_then HB2.out hb); (try have HK3 := Lib.hid (HK2.out.later hb)); (try have HJ3 := Lib.hid (HJ2.out.later hb)); (try have HS3 := Lib.hid (HS2.out.below (hb.mono HG2.out))); (try have HO3 := Lib.hid (own_keep HO2.out hb)); have HG3 : Hid (w1.heap.size ≤ w3.heap.size) := Nat.le_trans HG2.out hb.size; clear hown hb hr)
  refine hK.out _ _ (HK3.out) (fun hHeld => ?_)
  clear hK K
  try simp only [Act.put, List.setIfInBounds_toArray, List.set_cons_zero, List.set_cons_succ, List.getElem_toArray, List.getElem_cons_zero, List.getElem_cons_succ]
  refine wpAnyH_ready (rs := [3]) (by kernel_rfl) (by simp) ?_
  refine AllReadyH.cons rfl (fun K hK => ?_) AllReadyH.nil
  rw [if_pos (by rfl)]
  refine wp_app _ (.tmp 7) (.tmp 9) 23 rfl w1.heap.size 5 i0 (.int .u8 0) 1 1 Try.underlying23 hi hi0 hi1 hi2 rfl (by decide) _ _ _ rfl HO3.out _ _ _ _ _ rfl (Sl.of_own HP3.out) (ints_one _ _) (by unfold maxLen; omega) (by omega) HG3.out ?_
  intro v4 w4 hown hg hat
  have ho := own_cat hown HE1.out
  obtain ⟨A4, c4, rfl⟩ := own_form ho
  have HO4 := Lib.hid ho
  have HB4 := Lib.hid (grown_below HB3.out (own_base HO3.out HB01.out) hg (Nat.le_refl _) HB3.out.size)
  have hgb : Below w1.heap.size w3 w4 := grown_below (Below.refl _ _) HO3.out hg (Nat.le_refl _) HG3.out
  try have HK4 := Lib.hid (HK3.out.grown hg (Ne.symm (own_bk_ne HO3.out HK3.out (by decide))))
  try have HJ4 := Lib.hid (HJ3.out.grown hg (Ne.symm (own_bk_ne HO3.out HJ3.out (by decide))))
  try have HS4 := Lib.hid (HS3.out.below hgb)
  have HG4 : Hid (w1.heap.size ≤ w4.heap.size) := Nat.le_trans HG3.out hg.size
  clear hown ho hg hat hgb
  refine hK.out _ _ HK4.out (fun hHeld => ?_)
  clear hK K
  try simp only [Act.put, List.setIfInBounds_toArray, List.set_cons_zero, List.set_cons_succ, List.getElem_toArray, List.getElem_cons_zero, List.getElem_cons_succ]
  refine wpAnyH_take (i := 4) (v := ?_) rfl (by kernel_rfl) (by kernel_rfl) (by kernel_rfl) (fun _ _ _ h => h) (Or.inl ⟨by rfl, ?_⟩) (by assumption) ?_
  rotate_left
  · intro w hSw
    (try dsimp only at hSw)
    go_simp
    try with_reducible rfl
  try simp only [Act.put, List.setIfInBounds_toArray, List.set_cons_zero, List.set_cons_succ, List.getElem_toArray, List.getElem_cons_zero, List.getElem_cons_succ]
  refine wpAnyH_done (by kernel_rfl) ?_ _
  clear hHeld
  go_wp2_with fail
  refine (rNum_any _ N (by show _ < _; omega)).mono ?_
  rintro e w5 hr
  obtain ⟨v5, rfl, hown⟩ := RetB.cast hr HX3.out
  have hb : Below w4.heap.size w4 w5 := hown.2
  obtain ⟨A5, c5, rfl⟩ := hown.form
  have HP5 := Lib.hid hown.1
  have HB5 := Lib.hid (below_then HB4.out hb)
  try have HK5 := Lib.hid (HK4.out.later hb)
  try have HJ5 := Lib.hid (HJ4.out.later hb)
  try have HS5 := Lib.hid (HS4.out.below (hb.mono HG4.out))
  try have HO5 := Lib.hid (own_keep HO4.out hb)
  have HG5 : Hid (w1.heap.size ≤ w5.heap.size) := Nat.le_trans HG4.out hb.size
  clear hown hb hr
  go_wp2_with (at_builtin; refine wpList_app _ rfl (.tmp 11) (.tmp 15) 23 rfl w1.heap.size 5 i0 (.int .u8 0) 1 1 Try.underlying23 hi hi0 hi1 hi2 rfl (by decide) _ _ _ rfl HO5.out _ _ _ _ _ rfl (Sl.of_own HP5.out) (ints_one _ _) (by unfold maxLen; omega) (by omega) HG5.out ?_; intro v6 w6 hown hg hat; refine stop_here ?_)
  refine StopD.go ?_
  have ho := own_cat hown HE2.out
  obtain ⟨A6, c6, rfl⟩ := own_form ho
  have HO6 := Lib.hid ho
  have HB6 := Lib.hid (grown_below HB5.out (own_base HO5.out HB01.out) hg (Nat.le_refl _) HB5.out.size)
  have hgb : Below w1.heap.size w5 w6 := grown_below (Below.refl _ _) HO5.out hg (Nat.le_refl _) HG5.out
  try have HK6 := Lib.hid (HK5.out.grown hg (Ne.symm (own_bk_ne HO5.out HK5.out (by decide))))
  try have HJ6 := Lib.hid (HJ5.out.grown hg (Ne.symm (own_bk_ne HO5.out HJ5.out (by decide))))
  try have HS6 := Lib.hid (HS5.out.below hgb)
  have HG6 : Hid (w1.heap.size ≤ w6.heap.size) := Nat.le_trans HG5.out hg.size
  clear hown ho hg hat hgb
  go_wp2_with fail
  go_loopw [5, 6] (fun ov iv wr => ∃ (k : Nat) (e : List Int), k ≤ N ∧ iv = .int .i64 k ∧ Hid (e = e2 ++ pyT (zs.take k)) ∧ Hid (∃ A c, ov = .slice A e.length c) ∧ Hid (wr.ownsRow w1.heap.size 5 1 ov e.length (e.map (.int .u8))) ∧ Hid (Below w.heap.size w wr) ∧ Hid (Sl wr w1.heap.size 1 A N (zs.map (.int .i64))) ∧ Hid (w1.heap.size ≤ wr.heap.size)) (fun _ iv _ => N - (intOf iv).toNat)
  case atStart => exact ⟨0, e2, Nat.zero_le _, rfl, by show _ = _; simp [pyT], ⟨_, _, rfl⟩, HO6.out, HB6.out, HS6.out, HG6.out⟩
  case round =>
    obtain ⟨k, e, hk, rfl, HE, HF, HO, HB, HS, HG⟩ := hrel
    obtain ⟨A7, c7, rfl⟩ := HF.out
    have HO7 := HO; have HB7 := HB; have HS7 := HS; have HG7 := HG
    obtain ⟨w7, hw7⟩ : ∃ w7, w7 = wr := ⟨_, rfl⟩
    subst hw7
    by_cases hlt : k < N
    · obtain ⟨ad, z, rfl, hb, hz, hc⟩ := HS.out.at_ hlt
      have HZZ := Lib.hid hz
      have hzo := HPO.out z (List.mem_of_getElem? hz)
      have HZ0 : Hid (-9223372036854775808 ≤ z) := hzo.1
      have HZ1' : Hid (z < 9223372036854775808) := hzo.2
      have hki : (k : Int) < N := by omega
      have hel : e.length ≤ 100000000 := by
        rw [HE.out, List.length_append]; have := pyT_le (zs.take k); have : (zs.take k).length ≤ N := by rw [List.length_take, HPL.out]; omega
        omega
      obtain ⟨xz, hxz⟩ : ∃ x, numB (foldI z) = x := ⟨_, rfl⟩
      have HXz := Lib.hid hxz
      have hlz : xz.length ≤ 10 := by rw [← hxz]; exact numB_le _
      obtain ⟨ez, hez⟩ : ∃ e', e ++ xz = e' := ⟨_, rfl⟩
      have HEz := Lib.hid hez
      clear hz hzo hxz hez
      go_wp2_with fail
      refine (rnum_num_any _ z HZ0 HZ1').mono ?_
      rintro en w8 hr
      obtain ⟨v8, rfl, hown⟩ := RetB.cast hr HXz.out
      have hb : Below w7.heap.size w7 w8 := hown.2
      obtain ⟨A8, c8, rfl⟩ := hown.form
      have HP8 := Lib.hid hown.1
      have HB8 := Lib.hid (below_then HB7.out hb)
      try have HK8 := Lib.hid (HK7.out.later hb)
      try have HJ8 := Lib.hid (HJ7.out.later hb)
      try have HS8 := Lib.hid (HS7.out.below (hb.mono HG7.out))
      try have HO8 := Lib.hid (own_keep HO7.out hb)
      have HG8 : Hid (w1.heap.size ≤ w8.heap.size) := Nat.le_trans HG7.out hb.size
      clear hown hb hr
      go_wp2_with (at_builtin; refine wpList_app _ rfl (.tmp 23) (.tmp 28) 23 rfl w1.heap.size 5 i0 (.int .u8 0) 1 1 Try.underlying23 hi hi0 hi1 hi2 rfl (by decide) _ _ _ rfl HO8.out _ _ _ _ _ rfl (Sl.of_own HP8.out) (ints_one _ _) (by unfold maxLen; omega) (by omega) HG8.out ?_; intro v9 w9 hown hg hat; refine stop_here ?_)
      refine StopD.go ?_
      have ho := own_cat hown HEz.out
      obtain ⟨A9, c9, rfl⟩ := own_form ho
      have HO9 := Lib.hid ho
      have HB9 := Lib.hid (grown_below HB8.out (own_base HO8.out HB01.out) hg (Nat.le_refl _) HB8.out.size)
      have hgb : Below w1.heap.size w8 w9 := grown_below (Below.refl _ _) HO8.out hg (Nat.le_refl _) HG8.out
      try have HK9 := Lib.hid (HK8.out.grown hg (Ne.symm (own_bk_ne HO8.out HK8.out (by decide))))
      try have HJ9 := Lib.hid (HJ8.out.grown hg (Ne.symm (own_bk_ne HO8.out HJ8.out (by decide))))
      try have HS9 := Lib.hid (HS8.out.below hgb)
      have HG9 : Hid (w1.heap.size ≤ w9.heap.size) := Nat.le_trans HG8.out hg.size
      clear hown ho hg hat hgb
      go_wp2_with fail
      go_roundw
      case rel => exact ⟨k + 1, ez, by omega, by go_num, by show _ = _; rw [← HEz.out, HE.out, pyT_take HZZ.out, HXz.out, List.append_assoc], ⟨_, _, rfl⟩, HO9.out, HB9.out, HS9.out, HG9.out⟩
      case measure => simp [intOf]; omega
    · obtain rfl : k = N := by omega
      have hown := HO.out
      have he := HE.out
      rw [List.take_of_length_le (by rw [HPL.out]; omega), ← HFIN.out] at he
      have HEF := Lib.hid he
      clear hown he
      go_wp2_with fail
      go_ret
      exact ⟨_, rfl, own_base (by have := HO.out; rw [HEF.out] at this; rw [HEF.out]; exact this) HB01.out, HB.out⟩
end Go.Proofs.Ythibihjblodfmaa
