/- A lock's bytes, and its name: the document's. -/
import Derived.Test.YtbclfjdamklbpaaLO
namespace Go.Proofs.Ytbclfjdamklbpaa
set_option linter.unusedSimpArgs false
set_option linter.unusedVariables false
open Go.RowKit Go.Maps

/-- What stands while the document writes. -/
structure RbS (w0 w : World) (z : Nat) (l : List Value) (v : Value) (e : List Int) : Prop where
  lk : Bk w z 44 l
  ro : w.ownsRow w0.heap.size 5 1 v e.length (e.map (.int .u8))
  hb : Below w0.heap.size w0 w
section
variable {w0 w wn : World} {z : Nat} {l : List Value} {v v' : Value} {e : List Int}
theorem RbS.later (h : RbS w0 w z l v e) (hb : Below w.heap.size w wn) : RbS w0 wn z l v e := ⟨h.lk.later hb, own_keep h.ro hb, below_then h.hb hb⟩
theorem RbS.app (h : RbS w0 w z l v e) {y : List Int} (ho : wn.ownsRow w0.heap.size 5 1 v' (e.length + y.length) (e.map (.int .u8) ++ y.map (.int .u8))) (hg : w.grownBy wn v.ownBlock) : RbS w0 wn z l v' (e ++ y) :=
  ⟨h.lk.grown hg (Ne.symm (own_bk_ne h.ro h.lk (by decide))), by rw [List.length_append, List.map_append]; exact ho, grown_below h.hb h.ro hg (Nat.le_refl _) h.hb.size⟩
theorem RbS.form (h : RbS w0 w z l v e) : ∃ A c, v = .slice A e.length c := own_form h.ro
end
set_option maxRecDepth 20000 in
set_option maxHeartbeats 4000000 in
theorem rlbytes_any (w : World) (k s c u : Nat) (h : List Int) (ks : List (List Int)) (A : Option Addr) (N C : Nat) (hk : LkK w ⟨k, h, ks, s, c, u⟩ A N) (b1 : k < 4611686018427387904) (b2 : s < 4611686018427387904) (b3 : c < 4611686018427387904) (b4 : u < 4611686018427387904) :
    Calls Try.prog 36 #[.agg (lkC ⟨k, h, ks, s, c, u⟩ (.slice A N C)).toArray] w (RetB w.heap.size (lkB k h ks s c u) w) := by
  have hh : DgOk h := hk.h
  have HK0 := Lib.hid hk
  have HKL : Hid (ks.length = N) := hk.k.dgs hk.ko
  have HKO : Hid (DsOk ks) := hk.ko
  obtain ⟨l, hl⟩ : ∃ x, lkC ⟨k, h, ks, s, c, u⟩ (.slice A N C) = x := ⟨_, rfl⟩
  obtain ⟨X, hX⟩ : ∃ X, l.toArray = X := ⟨_, rfl⟩
  obtain ⟨z, hz⟩ : ∃ z, w.heap.size = z := ⟨_, rfl⟩
  obtain ⟨w1, hw1⟩ : ∃ w1, w.alloc (.cells X 44) = w1 := ⟨_, rfl⟩
  have hb1 : Below w.heap.size w w1 := hw1 ▸ below_new w _
  have kx : Bk w1 z 44 l := hw1 ▸ Bk.at_ w _ X hz (by rw [← hX])
  have HLM : Hid (∀ w' g', Bk w' g' 44 l → LkM w' g' ⟨k, h, ks, s, c, u⟩ (.slice A N C)) := fun w' g' h' => by rw [← hl] at h'; exact lk_mem hh h'
  have HW := Lib.hid hw1; have HHO := Lib.hid hh; have HZ := Lib.hid hz
  have HR1 : Hid (RbS w w1 z l (.slice none 0 0) []) := ⟨kx, World.ownsRow_nil _ _ _ _, hb1⟩
  have hn1 : N ≤ 1000 := hk.n
  have HBD : Hid (k < 4611686018427387904 ∧ s < 4611686018427387904 ∧ c < 4611686018427387904 ∧ u < 4611686018427387904 ∧ N ≤ 1000) := ⟨b1, b2, b3, b4, hn1⟩
  rw [hl, hX]
  clear hl hX hw1 hb1 kx hh hk hz b1 b2 b3 b4 hn1
  have hbd := HBD.out
  have u1 := u64_nat (k := k) (by omega); have u2 := u64_nat (k := N) (by omega); have u3 := u64_nat (k := s) (by omega); have u4 := u64_nat (k := c) (by omega); have u5 := u64_nat (k := u) (by omega)
  obtain ⟨x1, hx1⟩ : ∃ x, numB k = x := ⟨_, rfl⟩
  obtain ⟨x2, hx2⟩ : ∃ x, lstB h = x := ⟨_, rfl⟩
  obtain ⟨x3, hx3⟩ : ∃ x, numB N = x := ⟨_, rfl⟩
  obtain ⟨x4, hx4⟩ : ∃ x, numB s = x := ⟨_, rfl⟩
  obtain ⟨x5, hx5⟩ : ∃ x, numB c = x := ⟨_, rfl⟩
  obtain ⟨x6, hx6⟩ : ∃ x, numB u = x := ⟨_, rfl⟩
  have L1 : Hid (x1.length ≤ 10) := by show _ ≤ 10; rw [← hx1]; exact numB_le _
  have L2 : Hid (x2.length ≤ 18) := by show _ ≤ 18; rw [← hx2]; have := lstB_len h; have := HHO.out.len; omega
  have L3 : Hid (x3.length ≤ 10) := by show _ ≤ 10; rw [← hx3]; exact numB_le _
  have L4 : Hid (x4.length ≤ 10) := by show _ ≤ 10; rw [← hx4]; exact numB_le _
  have L5 : Hid (x5.length ≤ 10) := by show _ ≤ 10; rw [← hx5]; exact numB_le _
  have L6 : Hid (x6.length ≤ 10) := by show _ ≤ 10; rw [← hx6]; exact numB_le _
  have N1 := Lib.hid (fun w' => rNum_any w' k (by show k < _; omega)); have N3 := Lib.hid (fun w' => rNum_any w' N (by show N < _; omega)); have N4 := Lib.hid (fun w' => rNum_any w' s (by show s < _; omega)); have N5 := Lib.hid (fun w' => rNum_any w' c (by show c < _; omega)); have N6 := Lib.hid (fun w' => rNum_any w' u (by show u < _; omega))
  have N2 : Hid (∀ w', Bk w' z 44 l → Calls Try.prog 60 #[.slice (some ⟨z, 1, none⟩) 8 8] w' (RetB w'.heap.size x2 w')) := fun w' hb => by
    rw [← hx2, lstB, HHO.out.len]
    exact rBytes_any w' (some ⟨z, 1, none⟩) 8 8 h (sl_rg HHO.out hb.lt (HLM.out _ _ hb).r1) (by omega)
  rw [hx1] at N1; rw [hx3] at N3; rw [hx4] at N4; rw [hx5] at N5; rw [hx6] at N6
  have HFIN : Hid (lkB k h ks s c u = ((((x1 ++ x2) ++ x3) ++ ksB ks) ++ x4) ++ x5 ++ x6) := by
    show _ = _
    rw [lkB, lkHd, HKL.out, ← hx1, ← hx2, ← hx3, ← hx4, ← hx5, ← hx6]
    simp [nsB, List.append_assoc]
  clear hx1 hx2 hx3 hx4 hx5 hx6
  go_enter Try.func36, Try.ntmps36
  go_upto_region 1 with fail
  rw [HW.out, HZ.out]
  refine wp_region_held_drew (S := fun w' => Bk w' z 44 l) (by kernel_rfl) (Bk.drew HR1.out.lk) (fun hHeld => ?_)
  have hbd2 : Below w1.heap.size w1 w1.drew := below_draws w1 w1.heap.size 1
  obtain ⟨wa, hwa⟩ : ∃ wa, w1.drew = wa := ⟨_, rfl⟩
  rw [hwa] at hbd2 hHeld ⊢
  have HRa := Lib.hid (HR1.out.later hbd2)
  clear hwa hbd2 HR1
  refine wpAnyH_take (i := 0) (v := ?_) rfl (by kernel_rfl) (by kernel_rfl) (by kernel_rfl) (fun _ _ _ h => h) (Or.inl ⟨by rfl, ?_⟩) (by assumption) ?_
  rotate_left
  · intro w hSw
    (try dsimp only at hSw)
    go_simp
    try with_reducible rfl
  try simp only [Act.put, List.setIfInBounds_toArray, List.set_cons_zero, List.set_cons_succ, List.getElem_toArray, List.getElem_cons_zero, List.getElem_cons_succ]
  refine wpAnyH_take (i := 4) (v := ?_) rfl (by kernel_rfl) (by kernel_rfl) (by kernel_rfl) (fun _ _ _ h => h) (Or.inl ⟨by rfl, ?_⟩) (by assumption) ?_
  rotate_left
  · intro w hSw
    (try dsimp only at hSw)
    go_simp
    try with_reducible rfl
  try simp only [Act.put, List.setIfInBounds_toArray, List.set_cons_zero, List.set_cons_succ, List.getElem_toArray, List.getElem_cons_zero, List.getElem_cons_succ]
  refine wpAnyH_take (i := 1) (v := ?_) rfl (by kernel_rfl) (by kernel_rfl) (by kernel_rfl) (fun _ _ _ h => h) (Or.inl ⟨by rfl, ?_⟩) (by assumption) ?_
  rotate_left
  · intro w hSw
    have hcell := (HLM.out _ _ hSw).c0
    clear hSw
    go_simp
    try with_reducible rfl
  try simp only [Act.put, List.setIfInBounds_toArray, List.set_cons_zero, List.set_cons_succ, List.getElem_toArray, List.getElem_cons_zero, List.getElem_cons_succ]
  refine wpAnyH_take (i := 5) (v := ?_) rfl (by kernel_rfl) (by kernel_rfl) (by kernel_rfl) (fun _ _ _ h => h) (Or.inl ⟨by rfl, ?_⟩) (by assumption) ?_
  rotate_left
  · intro w hSw
    (try dsimp only at hSw)
    go_simp
    try with_reducible rfl
  try simp only [Act.put, List.setIfInBounds_toArray, List.set_cons_zero, List.set_cons_succ, List.getElem_toArray, List.getElem_cons_zero, List.getElem_cons_succ]
  refine wpAnyH_take (i := 2) (v := ?_) rfl (by kernel_rfl) (by kernel_rfl) (by kernel_rfl) (fun _ _ _ h => h) (Or.inl ⟨by rfl, ?_⟩) (by assumption) ?_
  rotate_left
  · intro w hSw
    (try dsimp only at hSw)
    go_simp
    try with_reducible rfl
  try simp only [Act.put, List.setIfInBounds_toArray, List.set_cons_zero, List.set_cons_succ, List.getElem_toArray, List.getElem_cons_zero, List.getElem_cons_succ]
  refine wpAnyH_ready (rs := [3]) (by kernel_rfl) (by simp) ?_
  refine AllReadyH.cons rfl (fun K hK => ?_) AllReadyH.nil
  go_simp
  (go_at_call 61; refine (N1.out wa).mono ?_; rintro e wb ⟨v2, rfl, hown⟩; have HRb : Hid (RbS w wb z l v2 x1) := ⟨(HRa.out.later hown.2).lk, own_base hown.1 HRa.out.hb.size, (HRa.out.later hown.2).hb⟩; clear hown HRa)
  refine hK.out _ _ (HRb.out.lk) (fun hHeld => ?_)
  clear hK K
  try simp only [Act.put, List.setIfInBounds_toArray, List.set_cons_zero, List.set_cons_succ, List.getElem_toArray, List.getElem_cons_zero, List.getElem_cons_succ]
  obtain ⟨A2, c2, hv2⟩ := HRb.out.form
  subst hv2
  refine wpAnyH_ready (rs := [6]) (by kernel_rfl) (by simp) ?_
  refine AllReadyH.cons rfl (fun K hK => ?_) AllReadyH.nil
  go_simp
  (go_at_call 60; refine (N2.out wb HRb.out.lk).mono ?_; rintro e wc ⟨v3, rfl, hown⟩; obtain ⟨A3, c3, rfl⟩ := hown.form; have HRc := Lib.hid (HRb.out.later hown.2); have HPc := Lib.hid hown.1; clear hown HRb)
  refine hK.out _ _ (HRc.out.lk) (fun hHeld => ?_)
  clear hK K
  try simp only [Act.put, List.setIfInBounds_toArray, List.set_cons_zero, List.set_cons_succ, List.getElem_toArray, List.getElem_cons_zero, List.getElem_cons_succ]
  refine wpAnyH_ready (rs := [7]) (by kernel_rfl) (by simp) ?_
  refine AllReadyH.cons rfl (fun K hK => ?_) AllReadyH.nil
  rw [if_pos (by rfl)]
  obtain ⟨i0, hi, hi0, hi1, hi2⟩ := info_parts Try.infoU8
  refine wp_app _ (.tmp 8) (.tmp 11) 56 rfl w.heap.size 5 i0 (.int .u8 0) 1 1 Try.underlying56 hi hi0 hi1 hi2 rfl (by decide) _ _ _ rfl HRc.out.ro _ _ _ _ _ rfl (Sl.of_own HPc.out) (ints_one _ _) (by unfold maxLen; have := L1.out; have := L2.out; omega) (by have := L1.out; have := L2.out; omega) HRc.out.hb.size ?_
  intro v9 wd hown hg hat
  have HRd := Lib.hid (HRc.out.app hown hg)
  clear hown hg hat hi hi0 hi1 hi2 i0
  refine hK.out _ _ HRd.out.lk (fun hHeld => ?_)
  clear hK K
  try simp only [Act.put, List.setIfInBounds_toArray, List.set_cons_zero, List.set_cons_succ, List.getElem_toArray, List.getElem_cons_zero, List.getElem_cons_succ]
  clear HRc HPc
  refine wpAnyH_take (i := 8) (v := ?_) rfl (by kernel_rfl) (by kernel_rfl) (by kernel_rfl) (fun _ _ _ h => h) (Or.inl ⟨by rfl, ?_⟩) (by assumption) ?_
  rotate_left
  · intro w hSw
    (try dsimp only at hSw)
    go_simp
    try with_reducible rfl
  try simp only [Act.put, List.setIfInBounds_toArray, List.set_cons_zero, List.set_cons_succ, List.getElem_toArray, List.getElem_cons_zero, List.getElem_cons_succ]
  refine wpAnyH_done (by kernel_rfl) ?_ _
  clear hHeld
  obtain ⟨e1, he1⟩ : ∃ e, x1 ++ x2 = e := ⟨_, rfl⟩
  have E1 : Hid (e1.length ≤ 28) := by show _ ≤ 28; rw [← he1, List.length_append]; have := L1.out; have := L2.out; omega
  rw [he1] at HRd HFIN
  obtain ⟨A4, c4, hv4⟩ := HRd.out.form
  subst hv4
  clear he1
  have c9 := (HLM.out _ _ HRd.out.lk).c9
  go_wp2_with fail
  clear c9
  refine (N3.out wd).mono ?_
  rintro e w5 ⟨v5, rfl, hown⟩
  obtain ⟨A5, c5, rfl⟩ := hown.form
  have HR5 := Lib.hid (HRd.out.later hown.2); have HP5 := Lib.hid hown.1
  clear hown HRd
  go_wp2_with (at_builtin; refine stop_here ?_)
  refine StopD.go ?_
  obtain ⟨i0, hi, hi0, hi1, hi2⟩ := info_parts Try.infoU8
  refine wpList_app _ rfl (.tmp 13) (.tmp 18) 56 rfl w.heap.size 5 i0 (.int .u8 0) 1 1 Try.underlying56 hi hi0 hi1 hi2 rfl (by decide) _ _ _ rfl HR5.out.ro _ _ _ _ _ rfl (Sl.of_own HP5.out) (ints_one _ _) (by unfold maxLen; have := E1.out; have := L3.out; omega) (by have := E1.out; have := L3.out; omega) HR5.out.hb.size ?_
  intro v9 w6 hown hg hat
  have HR6 := Lib.hid (HR5.out.app hown hg)
  clear hown hg hat hi hi0 hi1 hi2 i0
  clear HR5 HP5
  obtain ⟨e2, he2⟩ : ∃ e, e1 ++ x3 = e := ⟨_, rfl⟩
  have E2 : Hid (e2.length ≤ 38) := by show _ ≤ 38; rw [← he2, List.length_append]; have := E1.out; have := L3.out; omega
  rw [he2] at HR6 HFIN
  clear he2
  go_wp2_with fail
  go_loopw [3, 4] (fun ov iv wr => ∃ (j : Nat) (e : List Int) (v : Value), j ≤ N ∧ iv = .int .i64 j ∧ v = ov ∧ Hid (e = e2 ++ ksB (ks.take j)) ∧ Hid (RbS w wr z l v e)) (fun _ iv _ => N - (intOf iv).toNat)
  case atStart => exact ⟨0, e2, _, Nat.zero_le _, rfl, rfl, by show _ = _; simp [ksB], HR6⟩
  case round =>
    clear HR6
    obtain ⟨j, e, v, hj, rfl, hv, HE, HRr⟩ := hrel
    subst hv
    obtain ⟨A9, d9, h9⟩ := HRr.out.form
    subst h9
    have c9 := (HLM.out _ _ HRr.out.lk).c9
    have HEL9 : Hid (e.length ≤ 18038) := by
      show _ ≤ 18038
      have h1 := ksB_le (ks.take j) (HKO.out.take j)
      have h2 : (ks.take j).length ≤ 1000 := by rw [List.length_take]; have := HBD.out; omega
      have h3 := E2.out
      rw [HE.out, List.length_append]; omega
    by_cases hlt : j < N
    · have hji : (j : Int) < N := by omega
      have hj0 : (0 : Int) ≤ j := by omega
      obtain ⟨x, hx⟩ : ∃ x, ks[j]? = some x := ⟨ks[j]'(by rw [HKL.out]; omega), List.getElem?_eq_getElem _⟩
      have hxo : DgOk x := HKO.out x (List.mem_of_getElem? hx)
      have hsl := (HK0.out.later HRr.out.hb).k
      obtain ⟨b, o, rfl, hbl, _⟩ := hsl.spot (by omega) (by omega)
      have hrg := sl_dgl hsl HK0.out.ko hx
      obtain ⟨y, hy⟩ : ∃ y, lstB x = y := ⟨_, rfl⟩
      have HY : Hid (y.length ≤ 18) := by show _ ≤ 18; rw [← hy]; have := lstB_len x; have := hxo.len; omega
      have HEN : Hid (e ++ y = e2 ++ ksB (ks.take (j + 1))) := by show _ = _; rw [ksB_snoc hx, HE.out, List.append_assoc, hy]
      have hnb := rBytes_any wr (some ⟨b, o + j * 8, none⟩) 8 8 x (sl_rg hxo hbl hrg) (by omega)
      rw [show numB 8 ++ x = y by rw [← hy, lstB, hxo.len]] at hnb
      have HNB := Lib.hid hnb
      clear hx hxo hsl hbl hrg hy hnb
      go_wp2_with fail
      clear c9
      refine HNB.out.mono ?_
      rintro e9 w7 ⟨v7, rfl, hown⟩
      obtain ⟨A7, c7, rfl⟩ := hown.form
      have HR7 := Lib.hid (HRr.out.later hown.2); have HP7 := Lib.hid hown.1
      clear hown HRr HNB
      go_wp2_with (at_builtin; refine stop_here ?_)
      refine StopD.go ?_
      obtain ⟨i0, hi, hi0, hi1, hi2⟩ := info_parts Try.infoU8
      refine wpList_app _ rfl (.tmp 27) (.tmp 33) 56 rfl w.heap.size 5 i0 (.int .u8 0) 1 1 Try.underlying56 hi hi0 hi1 hi2 rfl (by decide) _ _ _ rfl HR7.out.ro _ _ _ _ _ rfl (Sl.of_own HP7.out) (ints_one _ _) (by unfold maxLen; have := HEL9.out; have := HY.out; omega) (by have := HEL9.out; have := HY.out; omega) HR7.out.hb.size ?_
      intro v9 w8 hown hg hat
      have HR8 := Lib.hid (HR7.out.app hown hg)
      clear hown hg hat hi hi0 hi1 hi2 i0
      clear HR7 HP7
      obtain ⟨en, hen⟩ : ∃ q, e ++ y = q := ⟨_, rfl⟩
      rw [hen] at HR8 HEN
      clear hen
      go_wp2_with fail
      go_roundw
      case rel => exact ⟨j + 1, en, _, hlt, by go_num, rfl, HEN, HR8⟩
      case measure => simp [intOf] <;> omega
    · have hji : ¬ ((j : Int) < N) := by omega
      have he : e2 ++ ksB ks = e := by rw [HE.out, List.take_of_length_le (by rw [HKL.out]; omega)]
      rw [he] at HFIN
      clear HE he
      go_upto_region 7 with fail
      clear c9
      refine wp_region_held_drew (S := fun w' => Bk w' z 44 l) (by kernel_rfl) (Bk.drew HRr.out.lk) (fun hHeld => ?_)
      have hbd2 : Below wr.heap.size wr wr.drew := below_draws wr wr.heap.size 1
      obtain ⟨wa, hwa⟩ : ∃ wa, wr.drew = wa := ⟨_, rfl⟩
      rw [hwa] at hbd2 hHeld ⊢
      have HRa := Lib.hid (HRr.out.later hbd2)
      clear hwa hbd2 HRr
      refine wpAnyH_take (i := 0) (v := ?_) rfl (by kernel_rfl) (by kernel_rfl) (by kernel_rfl) (fun _ _ _ h => h) (Or.inl ⟨by rfl, ?_⟩) (by assumption) ?_
      rotate_left
      · intro w hSw
        (try dsimp only at hSw)
        go_simp
        try with_reducible rfl
      try simp only [Act.put, List.setIfInBounds_toArray, List.set_cons_zero, List.set_cons_succ, List.getElem_toArray, List.getElem_cons_zero, List.getElem_cons_succ]
      refine wpAnyH_take (i := 1) (v := ?_) rfl (by kernel_rfl) (by kernel_rfl) (by kernel_rfl) (fun _ _ _ h => h) (Or.inl ⟨by rfl, ?_⟩) (by assumption) ?_
      rotate_left
      · intro w hSw
        (try dsimp only at hSw)
        go_simp
        try with_reducible rfl
      try simp only [Act.put, List.setIfInBounds_toArray, List.set_cons_zero, List.set_cons_succ, List.getElem_toArray, List.getElem_cons_zero, List.getElem_cons_succ]
      refine wpAnyH_take (i := 6) (v := ?_) rfl (by kernel_rfl) (by kernel_rfl) (by kernel_rfl) (fun _ _ _ h => h) (Or.inl ⟨by rfl, ?_⟩) (by assumption) ?_
      rotate_left
      · intro w hSw
        (try dsimp only at hSw)
        go_simp
        try with_reducible rfl
      try simp only [Act.put, List.setIfInBounds_toArray, List.set_cons_zero, List.set_cons_succ, List.getElem_toArray, List.getElem_cons_zero, List.getElem_cons_succ]
      refine wpAnyH_take (i := 2) (v := ?_) rfl (by kernel_rfl) (by kernel_rfl) (by kernel_rfl) (fun _ _ _ h => h) (Or.inl ⟨by rfl, ?_⟩) (by assumption) ?_
      rotate_left
      · intro w hSw
        have hcell := (HLM.out _ _ hSw).c10
        clear hSw
        go_simp
        try with_reducible rfl
      try simp only [Act.put, List.setIfInBounds_toArray, List.set_cons_zero, List.set_cons_succ, List.getElem_toArray, List.getElem_cons_zero, List.getElem_cons_succ]
      refine wpAnyH_take (i := 7) (v := ?_) rfl (by kernel_rfl) (by kernel_rfl) (by kernel_rfl) (fun _ _ _ h => h) (Or.inl ⟨by rfl, ?_⟩) (by assumption) ?_
      rotate_left
      · intro w hSw
        have hcell := (HLM.out _ _ hSw).c11
        clear hSw
        go_simp
        try with_reducible rfl
      try simp only [Act.put, List.setIfInBounds_toArray, List.set_cons_zero, List.set_cons_succ, List.getElem_toArray, List.getElem_cons_zero, List.getElem_cons_succ]
      refine wpAnyH_take (i := 3) (v := ?_) rfl (by kernel_rfl) (by kernel_rfl) (by kernel_rfl) (fun _ _ _ h => h) (Or.inl ⟨by rfl, ?_⟩) (by assumption) ?_
      rotate_left
      · intro w hSw
        (try dsimp only at hSw)
        go_simp
        try with_reducible rfl
      try simp only [Act.put, List.setIfInBounds_toArray, List.set_cons_zero, List.set_cons_succ, List.getElem_toArray, List.getElem_cons_zero, List.getElem_cons_succ]
      refine wpAnyH_take (i := 8) (v := ?_) rfl (by kernel_rfl) (by kernel_rfl) (by kernel_rfl) (fun _ _ _ h => h) (Or.inl ⟨by rfl, ?_⟩) (by assumption) ?_
      rotate_left
      · intro w hSw
        (try dsimp only at hSw)
        go_simp
        try with_reducible rfl
      try simp only [Act.put, List.setIfInBounds_toArray, List.set_cons_zero, List.set_cons_succ, List.getElem_toArray, List.getElem_cons_zero, List.getElem_cons_succ]
      refine wpAnyH_ready (rs := [4]) (by kernel_rfl) (by simp) ?_
      refine AllReadyH.cons rfl (fun K hK => ?_) AllReadyH.nil
      go_simp
      (go_at_call 61; refine (N4.out wa).mono ?_; rintro e9 wb ⟨v3, rfl, hown⟩; obtain ⟨A3, c3, rfl⟩ := hown.form; have HRb := Lib.hid (HRa.out.later hown.2); have HPb := Lib.hid hown.1; clear hown HRa)
      refine hK.out _ _ (HRb.out.lk) (fun hHeld => ?_)
      clear hK K
      try simp only [Act.put, List.setIfInBounds_toArray, List.set_cons_zero, List.set_cons_succ, List.getElem_toArray, List.getElem_cons_zero, List.getElem_cons_succ]
      refine wpAnyH_ready (rs := [5]) (by kernel_rfl) (by simp) ?_
      refine AllReadyH.cons rfl (fun K hK => ?_) AllReadyH.nil
      rw [if_pos (by rfl)]
      obtain ⟨i0, hi, hi0, hi1, hi2⟩ := info_parts Try.infoU8
      refine wp_app _ (.tmp 35) (.tmp 39) 56 rfl w.heap.size 5 i0 (.int .u8 0) 1 1 Try.underlying56 hi hi0 hi1 hi2 rfl (by decide) _ _ _ rfl HRb.out.ro _ _ _ _ _ rfl (Sl.of_own HPb.out) (ints_one _ _) (by unfold maxLen; have := HEL9.out; have := L4.out; omega) (by have := HEL9.out; have := L4.out; omega) HRb.out.hb.size ?_
      intro v9 wc hown hg hat
      have HRc := Lib.hid (HRb.out.app hown hg)
      clear hown hg hat hi hi0 hi1 hi2 i0
      refine hK.out _ _ HRc.out.lk (fun hHeld => ?_)
      clear hK K
      try simp only [Act.put, List.setIfInBounds_toArray, List.set_cons_zero, List.set_cons_succ, List.getElem_toArray, List.getElem_cons_zero, List.getElem_cons_succ]
      clear HRb HPb
      obtain ⟨f1, hf1⟩ : ∃ q, e ++ x4 = q := ⟨_, rfl⟩
      have F1 : Hid (f1.length ≤ 18048) := by show _ ≤ 18048; rw [← hf1, List.length_append]; have := HEL9.out; have := L4.out; omega
      rw [hf1] at HRc HFIN
      obtain ⟨A6, c6, hv6⟩ := HRc.out.form
      subst hv6
      clear hf1
      refine wpAnyH_ready (rs := [9]) (by kernel_rfl) (by simp) ?_
      refine AllReadyH.cons rfl (fun K hK => ?_) AllReadyH.nil
      go_simp
      (go_at_call 61; refine (N5.out wc).mono ?_; rintro e9 wd ⟨v3, rfl, hown⟩; obtain ⟨A3', c3', rfl⟩ := hown.form; have HRd := Lib.hid (HRc.out.later hown.2); have HPd := Lib.hid hown.1; clear hown HRc)
      refine hK.out _ _ (HRd.out.lk) (fun hHeld => ?_)
      clear hK K
      try simp only [Act.put, List.setIfInBounds_toArray, List.set_cons_zero, List.set_cons_succ, List.getElem_toArray, List.getElem_cons_zero, List.getElem_cons_succ]
      refine wpAnyH_ready (rs := [10]) (by kernel_rfl) (by simp) ?_
      refine AllReadyH.cons rfl (fun K hK => ?_) AllReadyH.nil
      rw [if_pos (by rfl)]
      obtain ⟨i0, hi, hi0, hi1, hi2⟩ := info_parts Try.infoU8
      refine wp_app _ (.tmp 40) (.tmp 44) 56 rfl w.heap.size 5 i0 (.int .u8 0) 1 1 Try.underlying56 hi hi0 hi1 hi2 rfl (by decide) _ _ _ rfl HRd.out.ro _ _ _ _ _ rfl (Sl.of_own HPd.out) (ints_one _ _) (by unfold maxLen; have := F1.out; have := L5.out; omega) (by have := F1.out; have := L5.out; omega) HRd.out.hb.size ?_
      intro v9 we hown hg hat
      have HRe := Lib.hid (HRd.out.app hown hg)
      clear hown hg hat hi hi0 hi1 hi2 i0
      refine hK.out _ _ HRe.out.lk (fun hHeld => ?_)
      clear hK K
      try simp only [Act.put, List.setIfInBounds_toArray, List.set_cons_zero, List.set_cons_succ, List.getElem_toArray, List.getElem_cons_zero, List.getElem_cons_succ]
      clear HRd HPd
      obtain ⟨f2, hf2⟩ : ∃ q, f1 ++ x5 = q := ⟨_, rfl⟩
      have F2 : Hid (f2.length ≤ 18058) := by show _ ≤ 18058; rw [← hf2, List.length_append]; have := F1.out; have := L5.out; omega
      rw [hf2] at HRe HFIN
      obtain ⟨A7, c7, hv7⟩ := HRe.out.form
      subst hv7
      clear hf2
      refine wpAnyH_take (i := 11) (v := ?_) rfl (by kernel_rfl) (by kernel_rfl) (by kernel_rfl) (fun _ _ _ h => h) (Or.inl ⟨by rfl, ?_⟩) (by assumption) ?_
      rotate_left
      · intro w hSw
        (try dsimp only at hSw)
        go_simp
        try with_reducible rfl
      try simp only [Act.put, List.setIfInBounds_toArray, List.set_cons_zero, List.set_cons_succ, List.getElem_toArray, List.getElem_cons_zero, List.getElem_cons_succ]
      refine wpAnyH_done (by kernel_rfl) ?_ _
      clear hHeld
      have c12 := (HLM.out _ _ HRe.out.lk).c12
      go_wp2_with fail
      clear c12
      refine (N6.out we).mono ?_
      rintro e9 wf ⟨v8, rfl, hown⟩
      obtain ⟨A8, c8, rfl⟩ := hown.form
      have HRf := Lib.hid (HRe.out.later hown.2); have HPf := Lib.hid hown.1
      clear hown HRe
      go_wp2_with (at_builtin; refine stop_here ?_)
      refine StopD.go ?_
      obtain ⟨i0, hi, hi0, hi1, hi2⟩ := info_parts Try.infoU8
      refine wpList_app _ rfl (.tmp 46) (.tmp 50) 56 rfl w.heap.size 5 i0 (.int .u8 0) 1 1 Try.underlying56 hi hi0 hi1 hi2 rfl (by decide) _ _ _ rfl HRf.out.ro _ _ _ _ _ rfl (Sl.of_own HPf.out) (ints_one _ _) (by unfold maxLen; have := F2.out; have := L6.out; omega) (by have := F2.out; have := L6.out; omega) HRf.out.hb.size ?_
      intro v9 wg hown hg hat
      have HRg := Lib.hid (HRf.out.app hown hg)
      clear hown hg hat hi hi0 hi1 hi2 i0
      clear HRf HPf
      obtain ⟨vv, hvv⟩ : ∃ q, v9 = q := ⟨_, rfl⟩
      subst hvv
      go_wp2_with fail
      go_ret
      refine ⟨v9, rfl, ?_, HRg.out.hb⟩
      rw [HFIN.out]; exact HRg.out.ro
end Go.Proofs.Ytbclfjdamklbpaa
