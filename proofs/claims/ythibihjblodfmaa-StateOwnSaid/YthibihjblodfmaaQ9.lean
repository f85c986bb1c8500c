/- The document's bytes of a thing. -/
import Derived.Test.YthibihjblodfmaaQ7
import Derived.Test.YthibihjblodfmaaQ8
namespace Go.Proofs.Ythibihjblodfmaa
open Go.RowKit

theorem stopP {p : Prop} (h : StopD p) : p := h
theorem join_own {w : World} {base : Nat} {e : TypeId} {v : Value} {xs ys : List Int} {n m : Nat} (h : w.ownsRow base e 1 v (n + m) (xs.map (.int .u8) ++ ys.map (.int .u8))) (hn : xs.length = n) (hm : ys.length = m) : w.ownsRow base e 1 v (xs ++ ys).length ((xs ++ ys).map (.int .u8)) := by
  rw [List.length_append, List.map_append, hn, hm]; exact h
theorem range_sl {w : World} {g o : Nat} {d : List Int} (hd : DgOk d) (h : w.rangeAt g o (dl d)) (hg : g < w.heap.size) : Sl w w.heap.size 1 (some ⟨g, o, none⟩) 8 (d.map (.int .u8)) :=
  ⟨by rw [List.length_map, hd.len], by omega, fun _ => ⟨_, rfl, hg, fun j u hu => by
    have e : (⟨g, o, none⟩ : Addr).add j = ⟨g, o + j, none⟩ := by unfold Addr.add; split <;> simp_all
    rw [e]; exact h j u hu⟩⟩
set_option maxRecDepth 20000 in
set_option maxHeartbeats 4000000 in
theorem rencode_any (w : World) (k n : Int) (t v : List Int) (ht : DgOk t) (hv : DgOk v) (A B : Option Addr) (N C M D : Nat) (o : Bool) (bs ss : List Int) (hbs : Sl w w.heap.size 1 A N (bs.map (.int .u8))) (hss : Sl w w.heap.size 1 B M (ss.map (.int .u8))) :
    Calls Try.prog 19 #[.agg (rtC k n t v (.slice A N C) (.slice B M D) o).toArray] w (RetEnc (rcheckT k n N M o) (encT k n t v bs ss) w) := by
  obtain ⟨i0, hi, hi0, hi1, hi2⟩ := info_parts Try.infoU8
  obtain ⟨X, hX⟩ : ∃ X, (rtC k n t v (.slice A N C) (.slice B M D) o).toArray = X := ⟨_, rfl⟩
  obtain ⟨w1, hw1⟩ : ∃ w1, w.alloc (.cells X 25) = w1 := ⟨_, rfl⟩
  have hb1 : Below w.heap.size w w1 := hw1 ▸ below_new w _
  have kx : Bk w1 w.heap.size 25 (rtC k n t v (.slice A N C) (.slice B M D) o) := hw1 ▸ Bk.new' w _ X (by rw [← hX])
  have HW := Lib.hid hw1; have HB := Lib.hid hb1; have HKX := Lib.hid kx; have HT := Lib.hid ht; have HV := Lib.hid hv; have HX1 := Lib.hid (hbs.later hb1); have HS1 := Lib.hid (hss.later hb1)
  have HTH : Hid ((Try.prog.info? 25).map (·.size) = some (rtC k n t v (.slice A N C) (.slice B M D) o).length) := by show _ = _; rw [rtC_len ht hv]; exact rt_size
  have HC := Lib.hid (rcheck_any w1 k n t v ht hv A B N C M D o)
  rw [hX]
  obtain ⟨ck, hck⟩ : ∃ ck, rcheckT k n N M o = ck := ⟨_, rfl⟩
  rw [hck] at HC ⊢
  by_cases hc : ck = 0
  · subst hc
    have hcc : (k = 0 ∨ k = 1) ∧ 0 ≤ n ∧ n ≤ 1099511627776 ∧ N ≤ 4096 ∧ M ≤ 4096 := by
      unfold rcheckT at hck
      by_cases h1 : k = 0 ∨ k = 1
      · rw [if_pos h1] at hck
        by_cases h2 : o = true
        · rw [if_pos h2] at hck; simp at hck
        · rw [if_neg h2] at hck
          by_cases h3 : 0 ≤ n ∧ n ≤ 1099511627776 ∧ N ≤ 4096 ∧ M ≤ 4096
          · exact ⟨h1, h3⟩
          · rw [if_neg h3] at hck; simp at hck
      · rw [if_neg h1] at hck; simp at hck
    obtain ⟨hk, hn0, hn1, hN, hM⟩ := hcc
    obtain ⟨kk, hkk, hkk1⟩ : ∃ kk : Nat, k = (kk : Int) ∧ kk ≤ 1 := ⟨k.toNat, by omega, by omega⟩
    obtain ⟨nn, hnn⟩ : ∃ nn : Nat, n = (nn : Int) := ⟨n.toNat, by omega⟩
    subst hkk hnn
    have hkw : IntKind.u64.wrap (kk : Int) = kk := by rw [IntKind.wrap_u64]; omega
    have hnw : IntKind.u64.wrap (nn : Int) = nn := by rw [IntKind.wrap_u64]; omega
    have HBL := Lib.hid hbs.length; have HSL := Lib.hid hss.length
    have HTL := Lib.hid ht.len; have HVL := Lib.hid hv.len
    have hlk := numB_len kk; have hl8 := numB_len 8; have hln := numB_len nn; have hlN := numB_len N; have hlM := numB_len M
    clear hX hw1 hb1 kx ht hv hbs hss hck hk hn0
    go_enter Try.func19, Try.ntmps19
    go_upto_region 1 with fail
    rw [HW.out]
    go_wp2_with (with_reducible refine wpList_load_bk rfl 25 _ rfl w.heap.size rfl (rtC kk nn t v (.slice A N C) (.slice B M D) o) 25 HKX.out _ Try.underlying25 rfl HTH.out ?_)
    refine HC.out.mono ?_
    rintro e w2 ⟨rfl, hb2⟩
    have HB2 := Lib.hid (below_then HB.out hb2); have HB12 := Lib.hid hb2
    have HK2 := Lib.hid (HKX.out.later hb2)
    clear hb2
    go_wp2_with fail
    refine wp_region_held_drew (S := fun w' => Bk w' w.heap.size 25 (rtC kk nn t v (.slice A N C) (.slice B M D) o)) (by kernel_rfl) (Bk.drew HK2.out) (fun hHeld => ?_)
    refine wpAnyH_take (i := 0) (v := ?_) rfl (by kernel_rfl) (by kernel_rfl) (by kernel_rfl) (fun _ _ _ h => h) (Or.inl ⟨by rfl, ?_⟩) (by assumption) ?_
    rotate_left
    · intro w hSw
      (try dsimp only at hSw)
      go_simp
      try with_reducible rfl
    try simp only [Act.put, List.setIfInBounds_toArray, List.set_cons_zero, List.set_cons_succ, List.getElem_toArray, List.getElem_cons_zero]
    refine wpAnyH_take (i := 1) (v := ?_) rfl (by kernel_rfl) (by kernel_rfl) (by kernel_rfl) (fun _ _ _ h => h) (Or.inl ⟨by rfl, ?_⟩) (by assumption) ?_
    rotate_left
    · intro w hSw
      have hcell := (rt_mem HT.out HV.out hSw).c0
      clear hSw
      go_simp
      try with_reducible rfl
    try simp only [Act.put, List.setIfInBounds_toArray, List.set_cons_zero, List.set_cons_succ, List.getElem_toArray, List.getElem_cons_zero, List.getElem_cons_succ]
    refine wpAnyH_take (i := 2) (v := ?_) rfl (by kernel_rfl) (by kernel_rfl) (by kernel_rfl) (fun _ _ _ h => h) (Or.inl ⟨by rfl, ?_⟩) (by assumption) ?_
    rotate_left
    · intro w hSw
      (try dsimp only at hSw)
      go_simp
      try with_reducible rfl
    try simp only [Act.put, List.setIfInBounds_toArray, List.set_cons_zero, List.set_cons_succ, List.getElem_toArray, List.getElem_cons_zero, List.getElem_cons_succ]
    refine wpAnyH_take (i := 4) (v := ?_) rfl (by kernel_rfl) (by kernel_rfl) (by kernel_rfl) (fun _ _ _ h => h) (Or.inl ⟨by rfl, ?_⟩) (by assumption) ?_
    rotate_left
    · intro w hSw
      (try dsimp only at hSw)
      go_simp
      try with_reducible rfl
    try simp only [Act.put, List.setIfInBounds_toArray, List.set_cons_zero, List.set_cons_succ, List.getElem_toArray, List.getElem_cons_zero, List.getElem_cons_succ]
    refine wpAnyH_take (i := 5) (v := ?_) rfl (by kernel_rfl) (by kernel_rfl) (by kernel_rfl) (fun _ _ _ h => h) (Or.inl ⟨by rfl, ?_⟩) (by assumption) ?_
    rotate_left
    · intro w hSw
      (try dsimp only at hSw)
      go_simp
      try with_reducible rfl
    try simp only [Act.put, List.setIfInBounds_toArray, List.set_cons_zero, List.set_cons_succ, List.getElem_toArray, List.getElem_cons_zero, List.getElem_cons_succ]
    refine wpAnyH_ready (rs := [3]) (by kernel_rfl) (by simp) ?_
    refine AllReadyH.cons rfl (fun K hK => ?_) AllReadyH.nil
    go_simp
    (go_at_call 67; refine (rNum_any _ kk (by show _ < _; omega)).mono ?_; rintro e w3 ⟨v3, rfl, hown3, hb3⟩; have HB13 := Lib.hid (HB12.out.trans (((below_draws w2 w2.heap.size 1).trans hb3).mono HB12.out.size)); have HK3 := Lib.hid (HK2.out.drew.later hb3); obtain ⟨e3, he3⟩ : ∃ e3, numB kk = e3 := ⟨_, rfl⟩; have hl3 : e3.length ≤ 10 := he3 ▸ hlk; rw [he3] at hown3; have HE3 := Lib.hid he3; have HO3 := Lib.hid (own_base hown3 HB12.out.size); clear hown3 hb3 he3)
    refine hK.out _ _ (HK3.out) (fun hHeld => ?_)
    clear hK K
    try simp only [Act.put, List.setIfInBounds_toArray, List.set_cons_zero, List.set_cons_succ, List.getElem_toArray, List.getElem_cons_zero, List.getElem_cons_succ]
    refine wpAnyH_ready (rs := [6]) (by kernel_rfl) (by simp) ?_
    refine AllReadyH.cons rfl (fun K hK => ?_) AllReadyH.nil
    go_simp
    (go_at_call 68; refine (rBytes_any _ _ 8 8 t (range_sl HT.out (rt_mem HT.out HV.out HK3.out).r1 HK3.out.lt) (by omega)).mono ?_; rintro e w4 ⟨v4, rfl, hown, hb⟩; have HB14 := Lib.hid (below_then HB13.out hb); have HK4 := Lib.hid (HK3.out.later hb); have HO4 := Lib.hid (own_keep HO3.out hb); obtain ⟨x4, hx4⟩ : ∃ x4, numB 8 ++ t = x4 := ⟨_, rfl⟩; rw [hx4] at hown; obtain ⟨A4, c4, rfl⟩ := own_form hown; have HP4 := Lib.hid hown; have HX4 := Lib.hid hx4; clear hown hb hx4)
    refine hK.out _ _ (HK4.out) (fun hHeld => ?_)
    clear hK K
    try simp only [Act.put, List.setIfInBounds_toArray, List.set_cons_zero, List.set_cons_succ, List.getElem_toArray, List.getElem_cons_zero, List.getElem_cons_succ]
    have hm4 : x4.length ≤ 18 := by have := HTL.out; rw [← HX4.out, List.length_append]; omega
    refine wpAnyH_ready (rs := [7]) (by kernel_rfl) (by simp) ?_
    refine AllReadyH.cons rfl (fun K hK => ?_) AllReadyH.nil
    rw [if_pos (by rfl)]
    refine wp_app _ (.tmp 14) (.tmp 17) 23 rfl w1.heap.size 5 i0 (.int .u8 0) 1 1 Try.underlying23 hi hi0 hi1 hi2 rfl (by decide) _ _ _ rfl HO4.out _ _ _ _ _ rfl (Sl.of_own HP4.out) (ints_one _ _) (by unfold maxLen; omega) (by omega) HB14.out.size ?_
    intro v5 w5 hown hg hat
    have HB15 := Lib.hid (grown_below HB14.out HO4.out hg (Nat.le_refl _) HB14.out.size)
    have HK5 := Lib.hid (HK4.out.grown hg (Ne.symm (own_bk_ne HO4.out HK4.out (by decide))))
    obtain ⟨e5, he5⟩ : ∃ e5, e3 ++ (x4) = e5 := ⟨_, rfl⟩
    have hl5 : e5.length ≤ 28 := by rw [← he5, List.length_append]; omega
    have ho := join_own hown rfl rfl
    rw [he5] at ho
    have HO5 := Lib.hid ho
    have HE5 := Lib.hid he5
    clear hown hg hat ho he5
    refine hK.out _ _ HK5.out (fun hHeld => ?_)
    clear hK K
    try simp only [Act.put, List.setIfInBounds_toArray, List.set_cons_zero, List.set_cons_succ, List.getElem_toArray, List.getElem_cons_zero, List.getElem_cons_succ]
    clear HB13 HK3 HO3 HP4
    refine wpAnyH_take (i := 8) (v := ?_) rfl (by kernel_rfl) (by kernel_rfl) (by kernel_rfl) (fun _ _ _ h => h) (Or.inl ⟨by rfl, ?_⟩) (by assumption) ?_
    rotate_left
    · intro w hSw
      (try dsimp only at hSw)
      go_simp
      try with_reducible rfl
    try simp only [Act.put, List.setIfInBounds_toArray, List.set_cons_zero, List.set_cons_succ, List.getElem_toArray, List.getElem_cons_zero, List.getElem_cons_succ]
    refine wpAnyH_done (by kernel_rfl) ?_ _
    clear hHeld
    have c9 := (rt_mem HT.out HV.out HK5.out).c9
    go_wp2_with fail
    refine (rNum_any _ nn (by show _ < _; omega)).mono ?_
    rintro e w6 ⟨v6, rfl, hown, hb⟩
    have HB16 := Lib.hid (below_then HB15.out hb)
    have HK6 := Lib.hid (HK5.out.later hb)
    have HO6 := Lib.hid (own_keep HO5.out hb)
    obtain ⟨x6, hx6⟩ : ∃ x6, numB nn = x6 := ⟨_, rfl⟩
    have hm6 : x6.length ≤ 10 := by rw [← hx6]; (try simp only [List.length_append]); have := HTL.out; have := HVL.out; have := HBL.out; have := HSL.out; omega
    rw [hx6] at hown
    obtain ⟨A6, c6, rfl⟩ := own_form hown
    have HP6 := Lib.hid hown
    have HX6 := Lib.hid hx6
    clear hown hx6
    clear hb
    go_wp2_with (at_builtin; refine wpList_app _ rfl (.tmp 19) (.tmp 23) 23 rfl w1.heap.size 5 i0 (.int .u8 0) 1 1 Try.underlying23 hi hi0 hi1 hi2 rfl (by decide) _ _ _ rfl HO6.out _ _ _ _ _ rfl (Sl.of_own HP6.out) (ints_one _ _) (by unfold maxLen; omega) (by omega) HB16.out.size ?_; intro v7 w7 hown hg hat; refine stopP ?_)
    refine StopD.go ?_
    have HB17 := Lib.hid (grown_below HB16.out HO6.out hg (Nat.le_refl _) HB16.out.size)
    have HK7 := Lib.hid (HK6.out.grown hg (Ne.symm (own_bk_ne HO6.out HK6.out (by decide))))
    obtain ⟨e7, he7⟩ : ∃ e7, e5 ++ (x6) = e7 := ⟨_, rfl⟩
    have hl7 : e7.length ≤ 38 := by rw [← he7, List.length_append]; omega
    have ho := join_own hown rfl rfl
    rw [he7] at ho
    have HO7 := Lib.hid ho
    have HE7 := Lib.hid he7
    clear hown hg hat ho he7
    have c0 := (rt_mem HT.out HV.out HK7.out).c0
    by_cases h1 : kk = 1
    · have h2 : ((kk : Int) == 1) = true := by simp [h1]
      clear h1
      go_wp2_with fail
      refine (rBytes_any _ _ 8 8 v (range_sl HV.out (rt_mem HT.out HV.out HK7.out).r10 HK7.out.lt) (by omega)).mono ?_
      rintro e w8 ⟨v8, rfl, hown, hb⟩
      have HB18 := Lib.hid (below_then HB17.out hb)
      have HK8 := Lib.hid (HK7.out.later hb)
      have HO8 := Lib.hid (own_keep HO7.out hb)
      obtain ⟨x8, hx8⟩ : ∃ x8, numB 8 ++ v = x8 := ⟨_, rfl⟩
      have hm8 : x8.length ≤ 18 := by rw [← hx8]; (try simp only [List.length_append]); have := HTL.out; have := HVL.out; have := HBL.out; have := HSL.out; omega
      rw [hx8] at hown
      obtain ⟨A8, c8, rfl⟩ := own_form hown
      have HP8 := Lib.hid hown
      have HX8 := Lib.hid hx8
      clear hown hx8
      clear hb
      go_wp2_with (at_builtin; refine wpList_app _ rfl (.tmp 28) (.tmp 31) 23 rfl w1.heap.size 5 i0 (.int .u8 0) 1 1 Try.underlying23 hi hi0 hi1 hi2 rfl (by decide) _ _ _ rfl HO8.out _ _ _ _ _ rfl (Sl.of_own HP8.out) (ints_one _ _) (by unfold maxLen; omega) (by omega) HB18.out.size ?_; intro v9 w9 hown hg hat; refine stopP ?_)
      refine StopD.go ?_
      have HB19 := Lib.hid (grown_below HB18.out HO8.out hg (Nat.le_refl _) HB18.out.size)
      have HK9 := Lib.hid (HK8.out.grown hg (Ne.symm (own_bk_ne HO8.out HK8.out (by decide))))
      obtain ⟨e9, he9⟩ : ∃ e9, e7 ++ (x8) = e9 := ⟨_, rfl⟩
      have hl9 : e9.length ≤ 56 := by rw [← he9, List.length_append]; omega
      have ho := join_own hown rfl rfl
      rw [he9] at ho
      have HO9 := Lib.hid ho
      have HE9 := Lib.hid he9
      clear hown hg hat ho he9
      have HEE : Hid (e9 ++ (numB N ++ bs) ++ (numB M ++ ss) = encT kk nn t v bs ss) := by
        show _ = _
        rw [← HE9.out, ← HX8.out, ← HE7.out, ← HX6.out, ← HE5.out, ← HX4.out, ← HE3.out, ← HBL.out, ← HSL.out]
        unfold encT
        rw [if_pos (by simpa using h2)]
        simp only [Int.toNat_natCast, List.append_assoc]
      go_wp2_with fail
      refine wp_region_held_drew (S := fun w' => Bk w' w.heap.size 25 (rtC kk nn t v (.slice A N C) (.slice B M D) o)) (by kernel_rfl) (Bk.drew HK9.out) (fun hHeld => ?_)
      refine wpAnyH_take (i := 0) (v := ?_) rfl (by kernel_rfl) (by kernel_rfl) (by kernel_rfl) (fun _ _ _ h => h) (Or.inl ⟨by rfl, ?_⟩) (by assumption) ?_
      rotate_left
      · intro w hSw
        (try dsimp only at hSw)
        go_simp
        try with_reducible rfl
      try simp only [Act.put, List.setIfInBounds_toArray, List.set_cons_zero, List.set_cons_succ, List.getElem_toArray, List.getElem_cons_zero]
      refine wpAnyH_take (i := 1) (v := ?_) rfl (by kernel_rfl) (by kernel_rfl) (by kernel_rfl) (fun _ _ _ h => h) (Or.inl ⟨by rfl, ?_⟩) (by assumption) ?_
      rotate_left
      · intro w hSw
        (try dsimp only at hSw)
        go_simp
        try with_reducible rfl
      try simp only [Act.put, List.setIfInBounds_toArray, List.set_cons_zero, List.set_cons_succ, List.getElem_toArray, List.getElem_cons_zero, List.getElem_cons_succ]
      refine wpAnyH_take (i := 2) (v := ?_) rfl (by kernel_rfl) (by kernel_rfl) (by kernel_rfl) (fun _ _ _ h => h) (Or.inl ⟨by rfl, ?_⟩) (by assumption) ?_
      rotate_left
      · intro w hSw
        have hcell := (rt_mem HT.out HV.out hSw).c18
        clear hSw
        go_simp
        try with_reducible rfl
      try simp only [Act.put, List.setIfInBounds_toArray, List.set_cons_zero, List.set_cons_succ, List.getElem_toArray, List.getElem_cons_zero, List.getElem_cons_succ]
      refine wpAnyH_take (i := 5) (v := ?_) rfl (by kernel_rfl) (by kernel_rfl) (by kernel_rfl) (fun _ _ _ h => h) (Or.inl ⟨by rfl, ?_⟩) (by assumption) ?_
      rotate_left
      · intro w hSw
        (try dsimp only at hSw)
        go_simp
        try with_reducible rfl
      try simp only [Act.put, List.setIfInBounds_toArray, List.set_cons_zero, List.set_cons_succ, List.getElem_toArray, List.getElem_cons_zero, List.getElem_cons_succ]
      refine wpAnyH_take (i := 6) (v := ?_) rfl (by kernel_rfl) (by kernel_rfl) (by kernel_rfl) (fun _ _ _ h => h) (Or.inl ⟨by rfl, ?_⟩) (by assumption) ?_
      rotate_left
      · intro w hSw
        have hcell := (rt_mem HT.out HV.out hSw).c19
        clear hSw
        go_simp
        try with_reducible rfl
      try simp only [Act.put, List.setIfInBounds_toArray, List.set_cons_zero, List.set_cons_succ, List.getElem_toArray, List.getElem_cons_zero, List.getElem_cons_succ]
      refine wpAnyH_ready (rs := [3]) (by kernel_rfl) (by simp) ?_
      refine AllReadyH.cons rfl (fun K hK => ?_) AllReadyH.nil
      go_simp
      (go_at_call 68; refine (rBytes_any _ A N C bs (HX1.out.later HB19.out).drew (by omega)).mono ?_; rintro e w10 ⟨v10, rfl, hown, hb⟩; have hb' := (below_draws w9 w9.heap.size 1).trans hb; have HB110 := Lib.hid (below_then HB19.out hb'); have HK10 := Lib.hid (HK9.out.later hb'); have HO10 := Lib.hid (own_keep HO9.out hb'); obtain ⟨x10, hx⟩ : ∃ x10, numB N ++ bs = x10 := ⟨_, rfl⟩; rw [hx] at hown; obtain ⟨A10, c10, rfl⟩ := own_form hown; have HP10 := Lib.hid hown; have HX10 := Lib.hid hx; clear hown hb hb' hx)
      refine hK.out _ _ (HK10.out) (fun hHeld => ?_)
      clear hK K
      try simp only [Act.put, List.setIfInBounds_toArray, List.set_cons_zero, List.set_cons_succ, List.getElem_toArray, List.getElem_cons_zero, List.getElem_cons_succ]
      have hm10 : x10.length ≤ 4106 := by have := HBL.out; rw [← HX10.out, List.length_append]; omega
      refine wpAnyH_ready (rs := [4]) (by kernel_rfl) (by simp) ?_
      refine AllReadyH.cons rfl (fun K hK => ?_) AllReadyH.nil
      rw [if_pos (by rfl)]
      refine wp_app _ (.tmp 33) (.tmp 36) 23 rfl w1.heap.size 5 i0 (.int .u8 0) 1 1 Try.underlying23 hi hi0 hi1 hi2 rfl (by decide) _ _ _ rfl HO10.out _ _ _ _ _ rfl (Sl.of_own HP10.out) (ints_one _ _) (by unfold maxLen; omega) (by omega) HB110.out.size ?_
      intro v11 w11 hown hg hat
      have HB111 := Lib.hid (grown_below HB110.out HO10.out hg (Nat.le_refl _) HB110.out.size)
      have HK11 := Lib.hid (HK10.out.grown hg (Ne.symm (own_bk_ne HO10.out HK10.out (by decide))))
      obtain ⟨e11, he11⟩ : ∃ e11, e9 ++ (x10) = e11 := ⟨_, rfl⟩
      have hl11 : e11.length ≤ 4200 := by rw [← he11, List.length_append]; omega
      have ho := join_own hown rfl rfl
      rw [he11] at ho
      have HO11 := Lib.hid ho
      have HE11 := Lib.hid he11
      clear hown hg hat ho he11
      refine hK.out _ _ HK11.out (fun hHeld => ?_)
      clear hK K
      try simp only [Act.put, List.setIfInBounds_toArray, List.set_cons_zero, List.set_cons_succ, List.getElem_toArray, List.getElem_cons_zero, List.getElem_cons_succ]
      refine wpAnyH_ready (rs := [7]) (by kernel_rfl) (by simp) ?_
      refine AllReadyH.cons rfl (fun K hK => ?_) AllReadyH.nil
      go_simp
      (go_at_call 68; refine (rBytes_any _ B M D ss (HS1.out.later HB111.out) (by omega)).mono ?_; rintro e w12 ⟨v12, rfl, hown, hb⟩; have HB112 := Lib.hid (below_then HB111.out hb); have HK12 := Lib.hid (HK11.out.later hb); have HO12 := Lib.hid (own_keep HO11.out hb); obtain ⟨x12, hx⟩ : ∃ x12, numB M ++ ss = x12 := ⟨_, rfl⟩; rw [hx] at hown; obtain ⟨A12, c12, rfl⟩ := own_form hown; have HP12 := Lib.hid hown; have HX12 := Lib.hid hx; clear hown hb hx)
      refine hK.out _ _ (HK12.out) (fun hHeld => ?_)
      clear hK K
      try simp only [Act.put, List.setIfInBounds_toArray, List.set_cons_zero, List.set_cons_succ, List.getElem_toArray, List.getElem_cons_zero, List.getElem_cons_succ]
      have hm12 : x12.length ≤ 4106 := by have := HSL.out; rw [← HX12.out, List.length_append]; omega
      refine wpAnyH_ready (rs := [8]) (by kernel_rfl) (by simp) ?_
      refine AllReadyH.cons rfl (fun K hK => ?_) AllReadyH.nil
      rw [if_pos (by rfl)]
      refine wp_app _ (.tmp 37) (.tmp 40) 23 rfl w1.heap.size 5 i0 (.int .u8 0) 1 1 Try.underlying23 hi hi0 hi1 hi2 rfl (by decide) _ _ _ rfl HO12.out _ _ _ _ _ rfl (Sl.of_own HP12.out) (ints_one _ _) (by unfold maxLen; omega) (by omega) HB112.out.size ?_
      intro v13 w13 hown hg hat
      have HB113 := Lib.hid (grown_below HB112.out HO12.out hg (Nat.le_refl _) HB112.out.size)
      have HK13 := Lib.hid (HK12.out.grown hg (Ne.symm (own_bk_ne HO12.out HK12.out (by decide))))
      obtain ⟨e13, he13⟩ : ∃ e13, e11 ++ (x12) = e13 := ⟨_, rfl⟩
      have hl13 : e13.length ≤ 9000 := by rw [← he13, List.length_append]; omega
      have ho := join_own hown rfl rfl
      rw [he13] at ho
      have HO13 := Lib.hid ho
      have HE13 := Lib.hid he13
      clear hown hg hat ho he13
      refine hK.out _ _ HK13.out (fun hHeld => ?_)
      clear hK K
      try simp only [Act.put, List.setIfInBounds_toArray, List.set_cons_zero, List.set_cons_succ, List.getElem_toArray, List.getElem_cons_zero, List.getElem_cons_succ]
      refine wpAnyH_take (i := 9) (v := ?_) rfl (by kernel_rfl) (by kernel_rfl) (by kernel_rfl) (fun _ _ _ h => h) (Or.inl ⟨by rfl, ?_⟩) (by assumption) ?_
      rotate_left
      · intro w hSw
        (try dsimp only at hSw)
        go_simp
        try with_reducible rfl
      try simp only [Act.put, List.setIfInBounds_toArray, List.set_cons_zero, List.set_cons_succ, List.getElem_toArray, List.getElem_cons_zero, List.getElem_cons_succ]
      refine wpAnyH_take (i := 10) (v := ?_) rfl (by kernel_rfl) (by kernel_rfl) (by kernel_rfl) (fun _ _ _ h => h) (Or.inl ⟨by rfl, ?_⟩) (by assumption) ?_
      rotate_left
      · intro w hSw
        (try dsimp only at hSw)
        go_simp
        try with_reducible rfl
      try simp only [Act.put, List.setIfInBounds_toArray, List.set_cons_zero, List.set_cons_succ, List.getElem_toArray, List.getElem_cons_zero, List.getElem_cons_succ]
      refine wpAnyH_done (by kernel_rfl) ?_ _
      clear hHeld
      have HOW := own_base HO13.out HB.out.size
      rw [← HE13.out, ← HE11.out, ← HX10.out, ← HX12.out, HEE.out] at HOW
      have HOW := Lib.hid HOW
      have HBE := Lib.hid (below_then HB.out HB113.out)
      go_wp2_with fail
      go_ret2
      refine ⟨HBE.out, _, rfl, ?_⟩
      rw [if_pos rfl]
      exact HOW.out
    · have h2 : ((kk : Int) == 1) = false := by simp; omega
      have HEE : Hid (e7 ++ (numB N ++ bs) ++ (numB M ++ ss) = encT kk nn t v bs ss) := by
        show _ = _
        rw [← HE7.out, ← HX6.out, ← HE5.out, ← HX4.out, ← HE3.out, ← HBL.out, ← HSL.out]
        unfold encT
        rw [if_neg (by omega)]
        simp only [Int.toNat_natCast, List.append_assoc]
      clear h1
      go_wp2_with fail
      refine wp_region_held_drew (S := fun w' => Bk w' w.heap.size 25 (rtC kk nn t v (.slice A N C) (.slice B M D) o)) (by kernel_rfl) (Bk.drew HK7.out) (fun hHeld => ?_)
      refine wpAnyH_take (i := 0) (v := ?_) rfl (by kernel_rfl) (by kernel_rfl) (by kernel_rfl) (fun _ _ _ h => h) (Or.inl ⟨by rfl, ?_⟩) (by assumption) ?_
      rotate_left
      · intro w hSw
        (try dsimp only at hSw)
        go_simp
        try with_reducible rfl
      try simp only [Act.put, List.setIfInBounds_toArray, List.set_cons_zero, List.set_cons_succ, List.getElem_toArray, List.getElem_cons_zero]
      refine wpAnyH_take (i := 1) (v := ?_) rfl (by kernel_rfl) (by kernel_rfl) (by kernel_rfl) (fun _ _ _ h => h) (Or.inl ⟨by rfl, ?_⟩) (by assumption) ?_
      rotate_left
      · intro w hSw
        (try dsimp only at hSw)
        go_simp
        try with_reducible rfl
      try simp only [Act.put, List.setIfInBounds_toArray, List.set_cons_zero, List.set_cons_succ, List.getElem_toArray, List.getElem_cons_zero, List.getElem_cons_succ]
      refine wpAnyH_take (i := 2) (v := ?_) rfl (by kernel_rfl) (by kernel_rfl) (by kernel_rfl) (fun _ _ _ h => h) (Or.inl ⟨by rfl, ?_⟩) (by assumption) ?_
      rotate_left
      · intro w hSw
        have hcell := (rt_mem HT.out HV.out hSw).c18
        clear hSw
        go_simp
        try with_reducible rfl
      try simp only [Act.put, List.setIfInBounds_toArray, List.set_cons_zero, List.set_cons_succ, List.getElem_toArray, List.getElem_cons_zero, List.getElem_cons_succ]
      refine wpAnyH_take (i := 5) (v := ?_) rfl (by kernel_rfl) (by kernel_rfl) (by kernel_rfl) (fun _ _ _ h => h) (Or.inl ⟨by rfl, ?_⟩) (by assumption) ?_
      rotate_left
      · intro w hSw
        (try dsimp only at hSw)
        go_simp
        try with_reducible rfl
      try simp only [Act.put, List.setIfInBounds_toArray, List.set_cons_zero, List.set_cons_succ, List.getElem_toArray, List.getElem_cons_zero, List.getElem_cons_succ]
      refine wpAnyH_take (i := 6) (v := ?_) rfl (by kernel_rfl) (by kernel_rfl) (by kernel_rfl) (fun _ _ _ h => h) (Or.inl ⟨by rfl, ?_⟩) (by assumption) ?_
      rotate_left
      · intro w hSw
        have hcell := (rt_mem HT.out HV.out hSw).c19
        clear hSw
        go_simp
        try with_reducible rfl
      try simp only [Act.put, List.setIfInBounds_toArray, List.set_cons_zero, List.set_cons_succ, List.getElem_toArray, List.getElem_cons_zero, List.getElem_cons_succ]
      refine wpAnyH_ready (rs := [3]) (by kernel_rfl) (by simp) ?_
      refine AllReadyH.cons rfl (fun K hK => ?_) AllReadyH.nil
      go_simp
      (go_at_call 68; refine (rBytes_any _ A N C bs (HX1.out.later HB17.out).drew (by omega)).mono ?_; rintro e w10 ⟨v10, rfl, hown, hb⟩; have hb' := (below_draws w7 w7.heap.size 1).trans hb; have HB110 := Lib.hid (below_then HB17.out hb'); have HK10 := Lib.hid (HK7.out.later hb'); have HO10 := Lib.hid (own_keep HO7.out hb'); obtain ⟨x10, hx⟩ : ∃ x10, numB N ++ bs = x10 := ⟨_, rfl⟩; rw [hx] at hown; obtain ⟨A10, c10, rfl⟩ := own_form hown; have HP10 := Lib.hid hown; have HX10 := Lib.hid hx; clear hown hb hb' hx)
      refine hK.out _ _ (HK10.out) (fun hHeld => ?_)
      clear hK K
      try simp only [Act.put, List.setIfInBounds_toArray, List.set_cons_zero, List.set_cons_succ, List.getElem_toArray, List.getElem_cons_zero, List.getElem_cons_succ]
      have hm10 : x10.length ≤ 4106 := by have := HBL.out; rw [← HX10.out, List.length_append]; omega
      refine wpAnyH_ready (rs := [4]) (by kernel_rfl) (by simp) ?_
      refine AllReadyH.cons rfl (fun K hK => ?_) AllReadyH.nil
      rw [if_pos (by rfl)]
      refine wp_app _ (.tmp 33) (.tmp 36) 23 rfl w1.heap.size 5 i0 (.int .u8 0) 1 1 Try.underlying23 hi hi0 hi1 hi2 rfl (by decide) _ _ _ rfl HO10.out _ _ _ _ _ rfl (Sl.of_own HP10.out) (ints_one _ _) (by unfold maxLen; omega) (by omega) HB110.out.size ?_
      intro v11 w11 hown hg hat
      have HB111 := Lib.hid (grown_below HB110.out HO10.out hg (Nat.le_refl _) HB110.out.size)
      have HK11 := Lib.hid (HK10.out.grown hg (Ne.symm (own_bk_ne HO10.out HK10.out (by decide))))
      obtain ⟨e11, he11⟩ : ∃ e11, e7 ++ (x10) = e11 := ⟨_, rfl⟩
      have hl11 : e11.length ≤ 4200 := by rw [← he11, List.length_append]; omega
      have ho := join_own hown rfl rfl
      rw [he11] at ho
      have HO11 := Lib.hid ho
      have HE11 := Lib.hid he11
      clear hown hg hat ho he11
      refine hK.out _ _ HK11.out (fun hHeld => ?_)
      clear hK K
      try simp only [Act.put, List.setIfInBounds_toArray, List.set_cons_zero, List.set_cons_succ, List.getElem_toArray, List.getElem_cons_zero, List.getElem_cons_succ]
      refine wpAnyH_ready (rs := [7]) (by kernel_rfl) (by simp) ?_
      refine AllReadyH.cons rfl (fun K hK => ?_) AllReadyH.nil
      go_simp
      (go_at_call 68; refine (rBytes_any _ B M D ss (HS1.out.later HB111.out) (by omega)).mono ?_; rintro e w12 ⟨v12, rfl, hown, hb⟩; have HB112 := Lib.hid (below_then HB111.out hb); have HK12 := Lib.hid (HK11.out.later hb); have HO12 := Lib.hid (own_keep HO11.out hb); obtain ⟨x12, hx⟩ : ∃ x12, numB M ++ ss = x12 := ⟨_, rfl⟩; rw [hx] at hown; obtain ⟨A12, c12, rfl⟩ := own_form hown; have HP12 := Lib.hid hown; have HX12 := Lib.hid hx; clear hown hb hx)
      refine hK.out _ _ (HK12.out) (fun hHeld => ?_)
      clear hK K
      try simp only [Act.put, List.setIfInBounds_toArray, List.set_cons_zero, List.set_cons_succ, List.getElem_toArray, List.getElem_cons_zero, List.getElem_cons_succ]
      have hm12 : x12.length ≤ 4106 := by have := HSL.out; rw [← HX12.out, List.length_append]; omega
      refine wpAnyH_ready (rs := [8]) (by kernel_rfl) (by simp) ?_
      refine AllReadyH.cons rfl (fun K hK => ?_) AllReadyH.nil
      rw [if_pos (by rfl)]
      refine wp_app _ (.tmp 37) (.tmp 40) 23 rfl w1.heap.size 5 i0 (.int .u8 0) 1 1 Try.underlying23 hi hi0 hi1 hi2 rfl (by decide) _ _ _ rfl HO12.out _ _ _ _ _ rfl (Sl.of_own HP12.out) (ints_one _ _) (by unfold maxLen; omega) (by omega) HB112.out.size ?_
      intro v13 w13 hown hg hat
      have HB113 := Lib.hid (grown_below HB112.out HO12.out hg (Nat.le_refl _) HB112.out.size)
      have HK13 := Lib.hid (HK12.out.grown hg (Ne.symm (own_bk_ne HO12.out HK12.out (by decide))))
      obtain ⟨e13, he13⟩ : ∃ e13, e11 ++ (x12) = e13 := ⟨_, rfl⟩
      have hl13 : e13.length ≤ 9000 := by rw [← he13, List.length_append]; omega
      have ho := join_own hown rfl rfl
      rw [he13] at ho
      have HO13 := Lib.hid ho
      have HE13 := Lib.hid he13
      clear hown hg hat ho he13
      refine hK.out _ _ HK13.out (fun hHeld => ?_)
      clear hK K
      try simp only [Act.put, List.setIfInBounds_toArray, List.set_cons_zero, List.set_cons_succ, List.getElem_toArray, List.getElem_cons_zero, List.getElem_cons_succ]
      refine wpAnyH_take (i := 9) (v := ?_) rfl (by kernel_rfl) (by kernel_rfl) (by kernel_rfl) (fun _ _ _ h => h) (Or.inl ⟨by rfl, ?_⟩) (by assumption) ?_
      rotate_left
      · intro w hSw
        (try dsimp only at hSw)
        go_simp
        try with_reducible rfl
      try simp only [Act.put, List.setIfInBounds_toArray, List.set_cons_zero, List.set_cons_succ, List.getElem_toArray, List.getElem_cons_zero, List.getElem_cons_succ]
      refine wpAnyH_take (i := 10) (v := ?_) rfl (by kernel_rfl) (by kernel_rfl) (by kernel_rfl) (fun _ _ _ h => h) (Or.inl ⟨by rfl, ?_⟩) (by assumption) ?_
      rotate_left
      · intro w hSw
        (try dsimp only at hSw)
        go_simp
        try with_reducible rfl
      try simp only [Act.put, List.setIfInBounds_toArray, List.set_cons_zero, List.set_cons_succ, List.getElem_toArray, List.getElem_cons_zero, List.getElem_cons_succ]
      refine wpAnyH_done (by kernel_rfl) ?_ _
      clear hHeld
      have HOW := own_base HO13.out HB.out.size
      rw [← HE13.out, ← HE11.out, ← HX10.out, ← HX12.out, HEE.out] at HOW
      have HOW := Lib.hid HOW
      have HBE := Lib.hid (below_then HB.out HB113.out)
      go_wp2_with fail
      go_ret2
      refine ⟨HBE.out, _, rfl, ?_⟩
      rw [if_pos rfl]
      exact HOW.out
  · have hc1 : (ck != 0) = true := by simp [hc]
    have HCC := Lib.hid hc
    clear hX hw1 hb1 kx ht hv hbs hss hck hc
    go_enter Try.func19, Try.ntmps19
    go_upto_region 1 with fail
    rw [HW.out]
    go_wp2_with (with_reducible refine wpList_load_bk rfl 25 _ rfl w.heap.size rfl (rtC k n t v (.slice A N C) (.slice B M D) o) 25 HKX.out _ Try.underlying25 rfl HTH.out ?_)
    refine HC.out.mono ?_
    rintro e w2 ⟨rfl, hb2⟩
    have HB2 := Lib.hid (below_then HB.out hb2)
    clear hb2
    go_wp2_with fail
    go_ret2
    refine ⟨HB2.out, .slice none 0 0, rfl, ?_⟩
    rw [if_neg HCC.out]
    exact World.ownsRow_nil _ _ _ _
end Go.Proofs.Ythibihjblodfmaa
