/- The document's bytes and name of a transaction. -/
import Derived.Test.YtbpmomedhdmloaaGreatDoorD2
import Derived.Test.YtbpmomedhdmloaaGreatDoorBM
namespace Go.Proofs.YtbpmomedhdmloaaGreatDoor
set_option linter.unusedSimpArgs false
set_option linter.unusedVariables false
open Go.RowKit Go.Maps

/-- What stands while the document writes. -/
structure RyS (ty : TypeId) (w0 w : World) (z : Nat) (l : List Value) (v : Value) (e : List Int) : Prop where
  lk : Bk w z ty l
  ro : w.ownsRow w0.heap.size 5 1 v e.length (e.map (.int .u8))
  hb : Below w0.heap.size w0 w
section
variable {ty : TypeId} {w0 w wn : World} {z : Nat} {l : List Value} {v v' : Value} {e : List Int}
theorem RyS.later (h : RyS ty w0 w z l v e) (hb : Below w.heap.size w wn) : RyS ty w0 wn z l v e := ⟨h.lk.later hb, own_keep h.ro hb, below_then h.hb hb⟩
theorem RyS.app (hne : 5 ≠ ty) (h : RyS ty w0 w z l v e) {y : List Int} (ho : wn.ownsRow w0.heap.size 5 1 v' (e.length + y.length) (e.map (.int .u8) ++ y.map (.int .u8))) (hg : w.grownBy wn v.ownBlock) : RyS ty w0 wn z l v' (e ++ y) :=
  ⟨h.lk.grown hg (Ne.symm (own_bk_ne h.ro h.lk hne)), by rw [List.length_append, List.map_append]; exact ho, grown_below h.hb h.ro hg (Nat.le_refl _) h.hb.size⟩
theorem RyS.form (h : RyS ty w0 w z l v e) : ∃ A c, v = .slice A e.length c := own_form h.ro
end
theorem rnum_anyb {d : List Int} (h : DgOk d) (w : World) : Calls Tryz.prog 42 #[.agg (dl d).toArray] w fun e w' => e = .returned (.int .u64 ((numN d : Nat) : Int)) ∧ Below w.heap.size w w' := by
  have h1 := rnum_any d h w
  rw [numN_eq h] at h1
  exact h1
set_option maxRecDepth 20000 in
set_option maxHeartbeats 8000000 in
theorem rhead25_any (w : World) (cs : List Value) (t : TxT) (ht : Txg w cs t) (hl : t.b.length ≤ 1073741000) :
    Calls Tryz.prog 99 #[.agg cs.toArray] w (RetB w.heap.size (unsB t) w) := by
  obtain ⟨⟨A, B, N, C, M, D, rfl, s1, s2, _, _⟩, ok⟩ := ht
  obtain ⟨l, hl0⟩ : ∃ x, txC t (.slice A N C) (.slice B M D) = x := ⟨_, rfl⟩
  obtain ⟨X, hX⟩ : ∃ X, l.toArray = X := ⟨_, rfl⟩
  obtain ⟨z, hz⟩ : ∃ z, w.heap.size = z := ⟨_, rfl⟩
  obtain ⟨w1, hw1⟩ : ∃ w1, w.alloc (.cells X 74) = w1 := ⟨_, rfl⟩
  have hb1 : Below w.heap.size w w1 := hw1 ▸ below_new w _
  have kx : Bk w1 z 74 l := hw1 ▸ Bk.at_ w _ X hz (by rw [← hX])
  have HM : Hid (∀ w' g', Bk w' g' 74 l → TxM w' g' 0 t (.slice A N C) (.slice B M D)) := fun w' g' k => by rw [← hl0] at k; exact tx_mem ok.f k
  have HM10 : Hid (∀ w' g', Bk w' g' 74 l → w'.cell? ⟨g', 10, none⟩ = some (.int .i64 t.k)) := fun w' g' k => by have := (HM.out w' g' k).c10; simpa using this
  have HM8 : Hid (∀ w' g', Bk w' g' 74 l → w'.cell? ⟨g', 8, none⟩ = some (.int .i64 t.n)) := fun w' g' k => by have := (HM.out w' g' k).c8; simpa using this
  have HM9 : Hid (∀ w' g', Bk w' g' 74 l → w'.cell? ⟨g', 9, none⟩ = some (.int .i64 t.e)) := fun w' g' k => by have := (HM.out w' g' k).c9; simpa using this
  have HM11 : Hid (∀ w' g', Bk w' g' 74 l → w'.cell? ⟨g', 11, none⟩ = some (.slice A N C)) := fun w' g' k => by have := (HM.out w' g' k).c11; simpa using this
  have e1 := s1.length
  have HW := Lib.hid hw1; have HZ := Lib.hid hz; have HOK := Lib.hid ok; have HS0 := Lib.hid s1; have HLE := Lib.hid (show N ≤ 1073741000 by omega)
  have HR1 : Hid (RyS 74 w w1 z l (.slice none 0 0) []) := ⟨kx, World.ownsRow_nil _ _ _ _, hb1⟩
  have hu1 := u64N_eq t.k; have hu2 := u64N_eq t.n; have hu3 := u64N_eq t.e
  rw [hl0, hX]
  have N1 := Lib.hid (fun w' => rNum_any w' (u64N t.k) (u64N_lt t.k)); have N2 := Lib.hid (fun w' => rNum_any w' (numN t.f) (numN_lt ok.f)); have N3 := Lib.hid (fun w' => rNum_any w' (u64N t.n) (u64N_lt t.n)); have N4 := Lib.hid (fun w' => rNum_any w' (u64N t.e) (u64N_lt t.e))
  have N5 : Hid (∀ w', Below w.heap.size w w' → Calls Tryz.prog 58 #[.slice A N C] w' (RetB w'.heap.size (lstB t.b) w')) := fun w' hb => by
    have := rBytes_any w' A N C t.b (HS0.out.later hb) (by have := HLE.out; omega)
    rw [lstB, e1]; exact this
  have HD : Hid (∀ w', Calls Tryz.prog 42 #[.agg (dl t.f).toArray] w' fun e w'' => e = .returned (.int .u64 ((numN t.f : Nat) : Int)) ∧ Below w'.heap.size w' w'') := fun w' => rnum_anyb ok.f w'
  obtain ⟨k1, hk1⟩ : ∃ k, u64N t.k = k := ⟨_, rfl⟩
  obtain ⟨k2, hk2⟩ : ∃ k, numN t.f = k := ⟨_, rfl⟩
  obtain ⟨k3, hk3⟩ : ∃ k, u64N t.n = k := ⟨_, rfl⟩
  obtain ⟨k4, hk4⟩ : ∃ k, u64N t.e = k := ⟨_, rfl⟩
  obtain ⟨x1, hx1⟩ : ∃ x, numB k1 = x := ⟨_, rfl⟩
  obtain ⟨x2, hx2⟩ : ∃ x, numB k2 = x := ⟨_, rfl⟩
  obtain ⟨x3, hx3⟩ : ∃ x, numB k3 = x := ⟨_, rfl⟩
  obtain ⟨x4, hx4⟩ : ∃ x, numB k4 = x := ⟨_, rfl⟩
  obtain ⟨x5, hx5⟩ : ∃ x, lstB t.b = x := ⟨_, rfl⟩
  have L1 : Hid (x1.length ≤ 10) := by show _ ≤ 10; rw [← hx1]; exact numB_le _
  have L2 : Hid (x2.length ≤ 10) := by show _ ≤ 10; rw [← hx2]; exact numB_le _
  have L3 : Hid (x3.length ≤ 10) := by show _ ≤ 10; rw [← hx3]; exact numB_le _
  have L4 : Hid (x4.length ≤ 10) := by show _ ≤ 10; rw [← hx4]; exact numB_le _
  have L5 : Hid (x5.length ≤ 1073741010) := by show _ ≤ 1073741010; rw [← hx5]; have := lstB_lenb t.b; omega
  have HFIN : Hid (unsB t = (((x1 ++ x2) ++ x3) ++ x4) ++ x5) := by
    show _ = _
    rw [unsB, hk1, hk2, hk3, hk4, hx1, hx2, hx3, hx4, hx5]
  rw [hk1, hx1] at N1; rw [hk2, hx2] at N2; rw [hk3, hx3] at N3; rw [hk4, hx4] at N4; rw [hx5] at N5
  rw [hk2] at HD
  rw [hk1] at hu1; rw [hk3] at hu2; rw [hk4] at hu3
  clear hl0 hX hz hw1 hb1 kx s1 s2 ok hl e1 hk1 hk2 hk3 hk4 hx1 hx2 hx3 hx4 hx5
  go_enter Tryz.func99, Tryz.ntmps99
  go_upto_region 1 with fail
  rw [HW.out, HZ.out]
  refine wp_region_held_drew (S := fun w' => Bk w' z 74 l) (by kernel_rfl) (Bk.drew HR1.out.lk) (fun hHeld => ?_)
  have hbd2 : Below w1.heap.size w1 w1.drew := below_draws w1 w1.heap.size 1
  obtain ⟨wa, hwa⟩ : ∃ wa, w1.drew = wa := ⟨_, rfl⟩
  rw [hwa] at hbd2 hHeld ⊢
  have HRa := Lib.hid (HR1.out.later hbd2)
  clear hwa hbd2 HR1
  refine wpAnyH_take (i := 0) (v := ?_) rfl (by kernel_rfl) (by kernel_rfl) (by kernel_rfl) (fun _ _ _ h => h) (Or.inl ⟨by rfl, ?_⟩) (by assumption) ?_
  rotate_left
  · intro w hSw
    (try dsimp only at hSw)
    go_simp
    try with_reducible rfl
  try simp only [Act.put, List.setIfInBounds_toArray, List.set_cons_zero, List.set_cons_succ, List.getElem_toArray, List.getElem_cons_zero, List.getElem_cons_succ]
  refine wpAnyH_take (i := 4) (v := ?_) rfl (by kernel_rfl) (by kernel_rfl) (by kernel_rfl) (fun _ _ _ h => h) (Or.inl ⟨by rfl, ?_⟩) (by assumption) ?_
  rotate_left
  · intro w hSw
    (try dsimp only at hSw)
    go_simp
    try with_reducible rfl
  try simp only [Act.put, List.setIfInBounds_toArray, List.set_cons_zero, List.set_cons_succ, List.getElem_toArray, List.getElem_cons_zero, List.getElem_cons_succ]
  refine wpAnyH_take (i := 1) (v := ?_) rfl (by kernel_rfl) (by kernel_rfl) (by kernel_rfl) (fun _ _ _ h => h) (Or.inl ⟨by rfl, ?_⟩) (by assumption) ?_
  rotate_left
  · intro w hSw
    have hcell := HM10.out _ _ hSw
    clear hSw
    go_simp
    try with_reducible rfl
  try simp only [Act.put, List.setIfInBounds_toArray, List.set_cons_zero, List.set_cons_succ, List.getElem_toArray, List.getElem_cons_zero, List.getElem_cons_succ]
  refine wpAnyH_take (i := 5) (v := .agg (List.toArray (dl t.f))) rfl (by kernel_rfl) (by kernel_rfl) (by kernel_rfl) (fun _ _ _ h => h) (yieldsIf_load_mid (by rfl) _ _ rfl _ _ rfl (dl t.f) _ (fun w hSw => (HM.out _ _ hSw).r0) Tryz.underlying22 rfl (rdg_szd HOK.out.f)) (by assumption) ?_
  try simp only [Act.put, List.setIfInBounds_toArray, List.set_cons_zero, List.set_cons_succ, List.getElem_toArray, List.getElem_cons_zero, List.getElem_cons_succ]
  refine wpAnyH_take (i := 2) (v := ?_) rfl (by kernel_rfl) (by kernel_rfl) (by kernel_rfl) (fun _ _ _ h => h) (Or.inl ⟨by rfl, ?_⟩) (by assumption) ?_
  rotate_left
  · intro w hSw
    (try dsimp only at hSw)
    go_simp
    try with_reducible rfl
  try simp only [Act.put, List.setIfInBounds_toArray, List.set_cons_zero, List.set_cons_succ, List.getElem_toArray, List.getElem_cons_zero, List.getElem_cons_succ]
  refine wpAnyH_ready (rs := [3]) (by kernel_rfl) (by simp) ?_
  refine AllReadyH.cons rfl (fun K hK => ?_) AllReadyH.nil
  go_simp
  (refine (N1.out wa).mono ?_; rintro e wb ⟨v2, rfl, hown⟩; have HRb : Hid (RyS 74 w wb z l v2 x1) := ⟨(HRa.out.later hown.2).lk, own_base hown.1 HRa.out.hb.size, (HRa.out.later hown.2).hb⟩; clear hown HRa)
  refine hK.out _ _ (HRb.out.lk) (fun hHeld => ?_)
  clear hK K
  try simp only [Act.put, List.setIfInBounds_toArray, List.set_cons_zero, List.set_cons_succ, List.getElem_toArray, List.getElem_cons_zero, List.getElem_cons_succ]
  obtain ⟨A2, c2, hv2⟩ := HRb.out.form
  subst hv2
  refine wpAnyH_ready (rs := [6]) (by kernel_rfl) (by simp) ?_
  refine AllReadyH.cons rfl (fun K hK => ?_) AllReadyH.nil
  go_simp
  (refine (HD.out wb).mono ?_; rintro e wc ⟨rfl, hbn⟩; have HRc := Lib.hid (HRb.out.later hbn); clear hbn HRb)
  refine hK.out _ _ (HRc.out.lk) (fun hHeld => ?_)
  clear hK K
  try simp only [Act.put, List.setIfInBounds_toArray, List.set_cons_zero, List.set_cons_succ, List.getElem_toArray, List.getElem_cons_zero, List.getElem_cons_succ]
  refine wpAnyH_ready (rs := [7]) (by kernel_rfl) (by simp) ?_
  refine AllReadyH.cons rfl (fun K hK => ?_) AllReadyH.nil
  go_simp
  (refine (N2.out wc).mono ?_; rintro e wd ⟨v3, rfl, hown⟩; obtain ⟨A3, c3, rfl⟩ := hown.form; have HRd := Lib.hid (HRc.out.later hown.2); have HPd := Lib.hid hown.1; clear hown HRc)
  refine hK.out _ _ (HRd.out.lk) (fun hHeld => ?_)
  clear hK K
  try simp only [Act.put, List.setIfInBounds_toArray, List.set_cons_zero, List.set_cons_succ, List.getElem_toArray, List.getElem_cons_zero, List.getElem_cons_succ]
  refine wpAnyH_ready (rs := [8]) (by kernel_rfl) (by simp) ?_
  refine AllReadyH.cons rfl (fun K hK => ?_) AllReadyH.nil
  rw [if_pos (by rfl)]
  obtain ⟨i0, hi, hi0, hi1, hi2⟩ := info_parts Tryz.infoU8
  refine wp_app _ (.tmp 7) (.tmp 11) 60 rfl w.heap.size 5 i0 (.int .u8 0) 1 1 Tryz.underlying60 hi hi0 hi1 hi2 rfl (by decide) _ _ _ rfl HRd.out.ro _ _ _ _ _ rfl (Sl.of_own HPd.out) (ints_one _ _) (by unfold maxLen; have := L1.out; have := L2.out; omega) (by have := L1.out; have := L2.out; omega) HRd.out.hb.size ?_
  intro v9 we hown hg hat
  have HRe := Lib.hid (RyS.app (by decide) HRd.out hown hg)
  clear hown hg hat hi hi0 hi1 hi2 i0
  refine hK.out _ _ HRe.out.lk (fun hHeld => ?_)
  clear hK K
  try simp only [Act.put, List.setIfInBounds_toArray, List.set_cons_zero, List.set_cons_succ, List.getElem_toArray, List.getElem_cons_zero, List.getElem_cons_succ]
  clear HRd HPd
  refine wpAnyH_take (i := 9) (v := ?_) rfl (by kernel_rfl) (by kernel_rfl) (by kernel_rfl) (fun _ _ _ h => h) (Or.inl ⟨by rfl, ?_⟩) (by assumption) ?_
  rotate_left
  · intro w hSw
    (try dsimp only at hSw)
    go_simp
    try with_reducible rfl
  try simp only [Act.put, List.setIfInBounds_toArray, List.set_cons_zero, List.set_cons_succ, List.getElem_toArray, List.getElem_cons_zero, List.getElem_cons_succ]
  refine wpAnyH_done (by kernel_rfl) ?_ _
  clear hHeld
  obtain ⟨e1, he1⟩ : ∃ e, x1 ++ x2 = e := ⟨_, rfl⟩
  have E1 : Hid (e1.length ≤ 20) := by show _ ≤ 20; rw [← he1, List.length_append]; have := L1.out; have := L2.out; omega
  rw [he1] at HRe HFIN
  obtain ⟨A4, c4, hv4⟩ := HRe.out.form
  subst hv4
  clear he1
  go_wp2_with fail
  refine wp_region_held_drew (S := fun w' => Bk w' z 74 l) (by kernel_rfl) (Bk.drew HRe.out.lk) (fun hHeld => ?_)
  have hbd2 : Below we.heap.size we we.drew := below_draws we we.heap.size 1
  obtain ⟨wf, hwf⟩ : ∃ wa, we.drew = wa := ⟨_, rfl⟩
  rw [hwf] at hbd2 hHeld ⊢
  have HRf := Lib.hid (HRe.out.later hbd2)
  clear hwf hbd2 HRe
  refine wpAnyH_take (i := 0) (v := ?_) rfl (by kernel_rfl) (by kernel_rfl) (by kernel_rfl) (fun _ _ _ h => h) (Or.inl ⟨by rfl, ?_⟩) (by assumption) ?_
  rotate_left
  · intro w hSw
    (try dsimp only at hSw)
    go_simp
    try with_reducible rfl
  try simp only [Act.put, List.setIfInBounds_toArray, List.set_cons_zero, List.set_cons_succ, List.getElem_toArray, List.getElem_cons_zero, List.getElem_cons_succ]
  refine wpAnyH_take (i := 1) (v := ?_) rfl (by kernel_rfl) (by kernel_rfl) (by kernel_rfl) (fun _ _ _ h => h) (Or.inl ⟨by rfl, ?_⟩) (by assumption) ?_
  rotate_left
  · intro w hSw
    (try dsimp only at hSw)
    go_simp
    try with_reducible rfl
  try simp only [Act.put, List.setIfInBounds_toArray, List.set_cons_zero, List.set_cons_succ, List.getElem_toArray, List.getElem_cons_zero, List.getElem_cons_succ]
  refine wpAnyH_take (i := 6) (v := ?_) rfl (by kernel_rfl) (by kernel_rfl) (by kernel_rfl) (fun _ _ _ h => h) (Or.inl ⟨by rfl, ?_⟩) (by assumption) ?_
  rotate_left
  · intro w hSw
    (try dsimp only at hSw)
    go_simp
    try with_reducible rfl
  try simp only [Act.put, List.setIfInBounds_toArray, List.set_cons_zero, List.set_cons_succ, List.getElem_toArray, List.getElem_cons_zero, List.getElem_cons_succ]
  refine wpAnyH_take (i := 2) (v := ?_) rfl (by kernel_rfl) (by kernel_rfl) (by kernel_rfl) (fun _ _ _ h => h) (Or.inl ⟨by rfl, ?_⟩) (by assumption) ?_
  rotate_left
  · intro w hSw
    have hcell := HM8.out _ _ hSw
    clear hSw
    go_simp
    try with_reducible rfl
  try simp only [Act.put, List.setIfInBounds_toArray, List.set_cons_zero, List.set_cons_succ, List.getElem_toArray, List.getElem_cons_zero, List.getElem_cons_succ]
  refine wpAnyH_take (i := 7) (v := ?_) rfl (by kernel_rfl) (by kernel_rfl) (by kernel_rfl) (fun _ _ _ h => h) (Or.inl ⟨by rfl, ?_⟩) (by assumption) ?_
  rotate_left
  · intro w hSw
    have hcell := HM9.out _ _ hSw
    clear hSw
    go_simp
    try with_reducible rfl
  try simp only [Act.put, List.setIfInBounds_toArray, List.set_cons_zero, List.set_cons_succ, List.getElem_toArray, List.getElem_cons_zero, List.getElem_cons_succ]
  refine wpAnyH_take (i := 3) (v := ?_) rfl (by kernel_rfl) (by kernel_rfl) (by kernel_rfl) (fun _ _ _ h => h) (Or.inl ⟨by rfl, ?_⟩) (by assumption) ?_
  rotate_left
  · intro w hSw
    (try dsimp only at hSw)
    go_simp
    try with_reducible rfl
  try simp only [Act.put, List.setIfInBounds_toArray, List.set_cons_zero, List.set_cons_succ, List.getElem_toArray, List.getElem_cons_zero, List.getElem_cons_succ]
  refine wpAnyH_take (i := 8) (v := ?_) rfl (by kernel_rfl) (by kernel_rfl) (by kernel_rfl) (fun _ _ _ h => h) (Or.inl ⟨by rfl, ?_⟩) (by assumption) ?_
  rotate_left
  · intro w hSw
    (try dsimp only at hSw)
    go_simp
    try with_reducible rfl
  try simp only [Act.put, List.setIfInBounds_toArray, List.set_cons_zero, List.set_cons_succ, List.getElem_toArray, List.getElem_cons_zero, List.getElem_cons_succ]
  refine wpAnyH_ready (rs := [4]) (by kernel_rfl) (by simp) ?_
  refine AllReadyH.cons rfl (fun K hK => ?_) AllReadyH.nil
  go_simp
  (refine (N3.out wf).mono ?_; rintro e wg ⟨v3, rfl, hown⟩; obtain ⟨A3, c3, rfl⟩ := hown.form; have HRg := Lib.hid (HRf.out.later hown.2); have HPg := Lib.hid hown.1; clear hown HRf)
  refine hK.out _ _ (HRg.out.lk) (fun hHeld => ?_)
  clear hK K
  try simp only [Act.put, List.setIfInBounds_toArray, List.set_cons_zero, List.set_cons_succ, List.getElem_toArray, List.getElem_cons_zero, List.getElem_cons_succ]
  refine wpAnyH_ready (rs := [5]) (by kernel_rfl) (by simp) ?_
  refine AllReadyH.cons rfl (fun K hK => ?_) AllReadyH.nil
  rw [if_pos (by rfl)]
  obtain ⟨i0, hi, hi0, hi1, hi2⟩ := info_parts Tryz.infoU8
  refine wp_app _ (.tmp 13) (.tmp 17) 60 rfl w.heap.size 5 i0 (.int .u8 0) 1 1 Tryz.underlying60 hi hi0 hi1 hi2 rfl (by decide) _ _ _ rfl HRg.out.ro _ _ _ _ _ rfl (Sl.of_own HPg.out) (ints_one _ _) (by unfold maxLen; have := E1.out; have := L3.out; omega) (by have := E1.out; have := L3.out; omega) HRg.out.hb.size ?_
  intro v9 wh hown hg hat
  have HRh := Lib.hid (RyS.app (by decide) HRg.out hown hg)
  clear hown hg hat hi hi0 hi1 hi2 i0
  refine hK.out _ _ HRh.out.lk (fun hHeld => ?_)
  clear hK K
  try simp only [Act.put, List.setIfInBounds_toArray, List.set_cons_zero, List.set_cons_succ, List.getElem_toArray, List.getElem_cons_zero, List.getElem_cons_succ]
  clear HRg HPg
  obtain ⟨e2, he2⟩ : ∃ e, e1 ++ x3 = e := ⟨_, rfl⟩
  have E2 : Hid (e2.length ≤ 30) := by show _ ≤ 30; rw [← he2, List.length_append]; have := E1.out; have := L3.out; omega
  rw [he2] at HRh HFIN
  obtain ⟨A5, c5, hv5⟩ := HRh.out.form
  subst hv5
  clear he2
  refine wpAnyH_ready (rs := [9]) (by kernel_rfl) (by simp) ?_
  refine AllReadyH.cons rfl (fun K hK => ?_) AllReadyH.nil
  go_simp
  (refine (N4.out wh).mono ?_; rintro e wi ⟨v3, rfl, hown⟩; obtain ⟨A3, c3, rfl⟩ := hown.form; have HRi := Lib.hid (HRh.out.later hown.2); have HPi := Lib.hid hown.1; clear hown HRh)
  refine hK.out _ _ (HRi.out.lk) (fun hHeld => ?_)
  clear hK K
  try simp only [Act.put, List.setIfInBounds_toArray, List.set_cons_zero, List.set_cons_succ, List.getElem_toArray, List.getElem_cons_zero, List.getElem_cons_succ]
  refine wpAnyH_ready (rs := [10]) (by kernel_rfl) (by simp) ?_
  refine AllReadyH.cons rfl (fun K hK => ?_) AllReadyH.nil
  rw [if_pos (by rfl)]
  obtain ⟨i0, hi, hi0, hi1, hi2⟩ := info_parts Tryz.infoU8
  refine wp_app _ (.tmp 18) (.tmp 22) 60 rfl w.heap.size 5 i0 (.int .u8 0) 1 1 Tryz.underlying60 hi hi0 hi1 hi2 rfl (by decide) _ _ _ rfl HRi.out.ro _ _ _ _ _ rfl (Sl.of_own HPi.out) (ints_one _ _) (by unfold maxLen; have := E2.out; have := L4.out; omega) (by have := E2.out; have := L4.out; omega) HRi.out.hb.size ?_
  intro v9 wj hown hg hat
  have HRj := Lib.hid (RyS.app (by decide) HRi.out hown hg)
  clear hown hg hat hi hi0 hi1 hi2 i0
  refine hK.out _ _ HRj.out.lk (fun hHeld => ?_)
  clear hK K
  try simp only [Act.put, List.setIfInBounds_toArray, List.set_cons_zero, List.set_cons_succ, List.getElem_toArray, List.getElem_cons_zero, List.getElem_cons_succ]
  clear HRi HPi
  obtain ⟨e3, he3⟩ : ∃ e, e2 ++ x4 = e := ⟨_, rfl⟩
  have E3 : Hid (e3.length ≤ 40) := by show _ ≤ 40; rw [← he3, List.length_append]; have := E2.out; have := L4.out; omega
  rw [he3] at HRj HFIN
  obtain ⟨A6, c6, hv6⟩ := HRj.out.form
  subst hv6
  clear he3
  refine wpAnyH_take (i := 11) (v := ?_) rfl (by kernel_rfl) (by kernel_rfl) (by kernel_rfl) (fun _ _ _ h => h) (Or.inl ⟨by rfl, ?_⟩) (by assumption) ?_
  rotate_left
  · intro w hSw
    (try dsimp only at hSw)
    go_simp
    try with_reducible rfl
  try simp only [Act.put, List.setIfInBounds_toArray, List.set_cons_zero, List.set_cons_succ, List.getElem_toArray, List.getElem_cons_zero, List.getElem_cons_succ]
  refine wpAnyH_done (by kernel_rfl) ?_ _
  clear hHeld
  have h11 := HM11.out _ _ HRj.out.lk
  go_wp2_with fail
  clear h11
  refine (N5.out wj HRj.out.hb).mono ?_
  rintro e wk ⟨v5, rfl, hown⟩
  obtain ⟨A7, c7, rfl⟩ := hown.form
  have HRk := Lib.hid (HRj.out.later hown.2); have HPk := Lib.hid hown.1
  clear hown HRj
  go_wp2_with (at_builtin; refine stop_here2 ?_)
  refine StopD.go ?_
  obtain ⟨i0, hi, hi0, hi1, hi2⟩ := info_parts Tryz.infoU8
  refine wpList_app _ rfl (.tmp 24) (.tmp 27) 60 rfl w.heap.size 5 i0 (.int .u8 0) 1 1 Tryz.underlying60 hi hi0 hi1 hi2 rfl (by decide) _ _ _ rfl HRk.out.ro _ _ _ _ _ rfl (Sl.of_own HPk.out) (ints_one _ _) (by unfold maxLen; have := E3.out; have := L5.out; omega) (by have := E3.out; have := L5.out; omega) HRk.out.hb.size ?_
  intro v9 wl hown hg hat
  have HRl := Lib.hid (RyS.app (by decide) HRk.out hown hg)
  clear hown hg hat hi hi0 hi1 hi2 i0
  clear HRk HPk
  go_wp2_with fail
  go_ret
  refine ⟨_, rfl, ?_, HRl.out.hb⟩
  rw [HFIN.out]
  exact HRl.out.ro
end Go.Proofs.YtbpmomedhdmloaaGreatDoor
