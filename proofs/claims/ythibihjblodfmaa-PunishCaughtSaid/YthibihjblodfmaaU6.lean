/- What two of the document's things show; that both say the same. -/
import Derived.Test.YthibihjblodfmaaU5
import Derived.Test.YthibihjblodfmaaU4
namespace Go.Proofs.Ythibihjblodfmaa
open Go.RowKit Go.Maps

def rtwR (tb : List Int) (A B : RtT) (ver : Bool) : Int :=
  if rchk A ≠ 0 then rchk A else if rchk B ≠ 0 then rchk B else if A.k ≠ B.k then 11 else if eqL A.t tb = false ∨ eqL B.t tb = false then 6
  else if A.n ≠ B.n ∨ eqL (ratT A.k A.v) (ratT B.k B.v) = false then 18 else if eqL (rdgR A) (rdgR B) = true then 7 else if ver = false then 16 else 0
theorem rcell_k {w : World} {cs : List Value} {R : RtT} {g : Nat} (h : Rth w cs R) (hb : Bk w g 25 cs) : RtM w g R.k R.n R.t R.v (cs.getD 18 undef) (cs.getD 19 undef) R.o := by
  obtain ⟨⟨A, B, N, C, M, D, rfl, h2, h3⟩, a, b, _⟩ := h
  have hm := rt_mem a b hb
  have e18 : (rtC R.k R.n R.t R.v (.slice A N C) (.slice B M D) R.o).getD 18 undef = .slice A N C := by
    have := hm.c18; rw [hb.cell] at this; rw [List.getD_eq_getElem?_getD, this]; rfl
  have e19 : (rtC R.k R.n R.t R.v (.slice A N C) (.slice B M D) R.o).getD 19 undef = .slice B M D := by
    have := hm.c19; rw [hb.cell] at this; rw [List.getD_eq_getElem?_getD, this]; rfl
  rw [e18, e19]; exact hm
theorem rcell_n {w w' : World} {cs : List Value} {R : RtT} {g : Nat} (h : Rth w cs R) (hb : Bk w' g 25 cs) : w'.cell? ⟨g, 9, none⟩ = some (.int .i64 R.n) := by
  obtain ⟨⟨A, B, N, C, M, D, rfl, h2, h3⟩, a, b, _⟩ := h
  exact (rt_mem a b hb).c9
set_option maxRecDepth 20000 in
set_option maxHeartbeats 8000000 in
theorem rtwice_any (w : World) (tb : List Int) (htb : DgOk tb) (ca cb : List Value) (A B : RtT) (ha : Rth w ca A) (hb : Rth w cb B) (ver : Bool) :
    Calls Try.prog 36 #[.agg (dl tb).toArray, .agg ca.toArray, .agg cb.toArray, .bool ver] w fun e w' => e = .returned (.int .i64 (rtwR tb A B ver)) ∧ Below w.heap.size w w' := by
  obtain ⟨X1, hX1⟩ : ∃ X, (dl tb).toArray = X := ⟨_, rfl⟩
  obtain ⟨X3, hX3⟩ : ∃ X, ca.toArray = X := ⟨_, rfl⟩
  obtain ⟨X4, hX4⟩ : ∃ X, cb.toArray = X := ⟨_, rfl⟩
  obtain ⟨z, hz⟩ : ∃ z, w.heap.size = z := ⟨_, rfl⟩
  obtain ⟨w1, hw1⟩ : ∃ w1, ((w.alloc (.cells X1 22)).alloc (.cells X3 25)).alloc (.cells X4 25) = w1 := ⟨_, rfl⟩
  have hb1 : Below w.heap.size w w1 := hw1 ▸ ((below_new w _).alloc (by simp) _).alloc (by simp <;> omega) _
  have k1 : Bk w1 z 22 (dl tb) := hw1 ▸ ((Bk.at_ w _ X1 hz (by rw [← hX1])).alloc _).alloc _
  have k3 : Bk w1 (z + 1) 25 ca := hw1 ▸ (Bk.at_ _ _ X3 (by simp [hz]) (by rw [← hX3])).alloc _
  have k4 : Bk w1 (z + 2) 25 cb := hw1 ▸ Bk.at_ _ _ X4 (by simp [hz]) (by rw [← hX4])
  have HW := Lib.hid hw1; have HBB1 := Lib.hid hb1; have H01 := Lib.hid k1; have H11 := Lib.hid k3; have H21 := Lib.hid k4
  have HA1 := Lib.hid (ha.later hb1); have HB1 := Lib.hid (hb.later hb1); have HTO := Lib.hid htb
  have HQA : Hid (∀ w', Bk w' (z + 1) 25 ca → w'.cell? ⟨z + 1, 9, none⟩ = some (.int .i64 A.n)) := fun w' h' => rcell_n ha h'
  have HQB : Hid (∀ w', Bk w' (z + 2) 25 cb → w'.cell? ⟨z + 2, 9, none⟩ = some (.int .i64 B.n)) := fun w' h' => rcell_n hb h'
  have HDA := Lib.hid (rdgR_ok A); have HDB := Lib.hid (rdgR_ok B)
  have heqA := fun W => rdg_eq_run A.t tb ha.ht htb W
  have heqB := fun W => rdg_eq_run B.t tb hb.ht htb W
  have hat := fun W => rdg_eq_run _ _ (ratT_ok (k := A.k) ha.hv) (ratT_ok (k := B.k) hb.hv) W
  have hdg := fun W => rdg_eq_run _ _ (rdgR_ok A) (rdgR_ok B) W
  have zt := Lib.hid (rdg_sz htb); have zA := Lib.hid (rdg_sz ha.ht); have zB := Lib.hid (rdg_sz hb.ht)
  obtain ⟨E, hE⟩ : ∃ E, rtwR tb A B ver = E := ⟨_, rfl⟩
  rw [hX1, hX3, hX4, hE]
  unfold rtwR at hE
  obtain ⟨e1, he1⟩ : ∃ e, rchk A = e := ⟨_, rfl⟩
  obtain ⟨e2, he2⟩ : ∃ e, rchk B = e := ⟨_, rfl⟩
  obtain ⟨b1, hb1'⟩ : ∃ b, eqL A.t tb = b := ⟨_, rfl⟩
  obtain ⟨b2, hb2⟩ : ∃ b, eqL B.t tb = b := ⟨_, rfl⟩
  obtain ⟨b3, hb3⟩ : ∃ b, eqL (ratT A.k A.v) (ratT B.k B.v) = b := ⟨_, rfl⟩
  obtain ⟨b4, hb4⟩ : ∃ b, eqL (rdgR A) (rdgR B) = b := ⟨_, rfl⟩
  rw [he1, he2, hb1', hb2, hb3, hb4] at hE
  rw [hb1'] at heqA
  rw [hb2] at heqB
  rw [hb3] at hat
  rw [hb4] at hdg
  have HCA := Lib.hid (fun w' (h' : Rth w' ca A) => rthCheck h'); have HCB := Lib.hid (fun w' (h' : Rth w' cb B) => rthCheck h')
  rw [he1] at HCA
  rw [he2] at HCB
  clear hX1 hX3 hX4 hw1 hb1 k1 k3 k4 ha hb htb he1 he2 hb1' hb2 hb3 hb4
  go_enter Try.func36, Try.ntmps36
  go_upto_region 1 with fail
  rw [HW.out]
  go_wp2_with (with_reducible refine wpList_load_bk rfl 25 _ rfl (z + 1) rfl ca 25 H11.out _ Try.underlying25 rfl HA1.out.info ?_)
  refine (HCA.out w1 HA1.out).mono ?_
  rintro e w2 ⟨rfl, hbn⟩
  have HBB2 := Lib.hid (below_then HBB1.out hbn)
  have H02 := Lib.hid (H01.out.later hbn)
  have H12 := Lib.hid (H11.out.later hbn)
  have H22 := Lib.hid (H21.out.later hbn)
  have HA2 := Lib.hid (HA1.out.later hbn)
  have HB2 := Lib.hid (HB1.out.later hbn)
  clear hbn
  by_cases c1 : e1 = 0
  · have d1 : (e1 != 0) = false := by simp [c1]
    rw [if_neg (by simpa using c1)] at hE
    have HE := Lib.hid hE
    clear c1 hE
    go_wp2_with (with_reducible refine wpList_load_bk rfl 25 _ rfl (z + 2) rfl cb 25 H22.out _ Try.underlying25 rfl HB2.out.info ?_)
    refine (HCB.out w2 HB2.out).mono ?_
    rintro e w3 ⟨rfl, hbn⟩
    have HBB3 := Lib.hid (below_then HBB2.out hbn)
    have H03 := Lib.hid (H02.out.later hbn)
    have H13 := Lib.hid (H12.out.later hbn)
    have H23 := Lib.hid (H22.out.later hbn)
    have HA3 := Lib.hid (HA2.out.later hbn)
    have HB3 := Lib.hid (HB2.out.later hbn)
    clear hbn
    have hE := HE.out
    clear HE
    have hma := rcell_k HA3.out H13.out; have hmb := rcell_k HB3.out H23.out
    have ca0 := hma.c0; have cb0 := hmb.c0; have ca9 := hma.c9; have cb9 := hmb.c9; have ra := hma.r1; have rb := hmb.r1
    clear hma hmb
    by_cases c2 : e2 = 0
    · have d2 : (e2 != 0) = false := by simp [c2]
      rw [if_neg (by simpa using c2)] at hE
      clear c2
      by_cases c3 : A.k = B.k
      · have d3 : (A.k != B.k) = false := by simp [c3]
        rw [if_neg (by simpa using c3)] at hE
        by_cases c4 : b1 = false ∨ b2 = false
        · rw [if_pos c4] at hE
          have HE : Hid (E = 6) := hE.symm
          clear hE c3
          cases b1
          ·
            go_wp2_with (first
              | ((with_reducible refine wpList_load_midG ?_ 22 _ rfl (z + 1) 1 rfl (dl A.t) _ ra Try.underlying22 rfl zA.out ?_); rfl)
              | ((with_reducible refine wpList_load_midG ?_ 22 _ rfl (z + 2) 1 rfl (dl B.t) _ rb Try.underlying22 rfl zB.out ?_); rfl)
              | ((with_reducible refine wpList_load_bkG ?_ 22 _ rfl z rfl (dl tb) 22 H03.out _ Try.underlying22 rfl zt.out ?_); rfl))
            go_ret
            exact ⟨by rw [HE.out]; rfl, HBB3.out⟩
          · obtain rfl : b2 = false := by simpa using c4
            go_wp2_with (first
              | ((with_reducible refine wpList_load_midG ?_ 22 _ rfl (z + 1) 1 rfl (dl A.t) _ ra Try.underlying22 rfl zA.out ?_); rfl)
              | ((with_reducible refine wpList_load_midG ?_ 22 _ rfl (z + 2) 1 rfl (dl B.t) _ rb Try.underlying22 rfl zB.out ?_); rfl)
              | ((with_reducible refine wpList_load_bkG ?_ 22 _ rfl z rfl (dl tb) 22 H03.out _ Try.underlying22 rfl zt.out ?_); rfl))
            go_ret
            exact ⟨by rw [HE.out]; rfl, HBB3.out⟩
        · obtain ⟨rfl, rfl⟩ : b1 = true ∧ b2 = true := by cases b1 <;> cases b2 <;> simp_all
          rw [if_neg c4] at hE
          have HE := Lib.hid hE
          clear hE c4 c3
          go_wp2_with (first
            | ((with_reducible refine wpList_load_midG ?_ 22 _ rfl (z + 1) 1 rfl (dl A.t) _ ra Try.underlying22 rfl zA.out ?_); rfl)
            | ((with_reducible refine wpList_load_midG ?_ 22 _ rfl (z + 2) 1 rfl (dl B.t) _ rb Try.underlying22 rfl zB.out ?_); rfl)
            | ((with_reducible refine wpList_load_bkG ?_ 22 _ rfl z rfl (dl tb) 22 H03.out _ Try.underlying22 rfl zt.out ?_); rfl))
          clear ra rb ca0 cb0 ca9 cb9
          by_cases c5 : A.n = B.n
          · have d5 : (A.n != B.n) = false := by simp [c5]
            have hE := HE.out
            clear HE
            refine wp_region_held_drew (S := fun w' => Bk w' (z + 1) 25 ca ∧ Bk w' (z + 2) 25 cb) (by kernel_rfl) ⟨Bk.drew H13.out, Bk.drew H23.out⟩ (fun hHeld => ?_)
            refine wpAnyH_take (i := 0) (v := ?_) rfl (by kernel_rfl) (by kernel_rfl) (by kernel_rfl) (fun _ _ _ h => h) (Or.inl ⟨by rfl, ?_⟩) (by assumption) ?_
            rotate_left
            · intro w hSw
              (try dsimp only at hSw)
              go_simp
              try with_reducible rfl
            try simp only [Act.put, List.setIfInBounds_toArray, List.set_cons_zero, List.set_cons_succ, List.getElem_toArray, List.getElem_cons_zero, List.getElem_cons_succ]
            refine wpAnyH_take (i := 2) (v := ?_) rfl (by kernel_rfl) (by kernel_rfl) (by kernel_rfl) (fun _ _ _ h => h) (Or.inl ⟨by rfl, ?_⟩) (by assumption) ?_
            rotate_left
            · intro w hSw
              (try dsimp only at hSw)
              go_simp
              try with_reducible rfl
            try simp only [Act.put, List.setIfInBounds_toArray, List.set_cons_zero, List.set_cons_succ, List.getElem_toArray, List.getElem_cons_zero, List.getElem_cons_succ]
            refine wpAnyH_take (i := 1) (v := ?_) rfl (by kernel_rfl) (by kernel_rfl) (by kernel_rfl) (fun _ _ _ h => h) (Or.inl ⟨by rfl, ?_⟩) (by assumption) ?_
            rotate_left
            · intro w hSw
              have hcell := (HQA.out w hSw.1)
              clear hSw
              go_simp
              try with_reducible rfl
            try simp only [Act.put, List.setIfInBounds_toArray, List.set_cons_zero, List.set_cons_succ, List.getElem_toArray, List.getElem_cons_zero, List.getElem_cons_succ]
            refine wpAnyH_take (i := 3) (v := ?_) rfl (by kernel_rfl) (by kernel_rfl) (by kernel_rfl) (fun _ _ _ h => h) (Or.inl ⟨by rfl, ?_⟩) (by assumption) ?_
            rotate_left
            · intro w hSw
              have hcell := (HQB.out w hSw.2)
              clear hSw
              go_simp
              try with_reducible rfl
            try simp only [Act.put, List.setIfInBounds_toArray, List.set_cons_zero, List.set_cons_succ, List.getElem_toArray, List.getElem_cons_zero, List.getElem_cons_succ]
            refine wpAnyH_take (i := 4) (v := ?_) rfl (by kernel_rfl) (by kernel_rfl) (by kernel_rfl) (fun _ _ _ h => h) (Or.inl ⟨by rfl, ?_⟩) (by assumption) ?_
            rotate_left
            · intro w hSw
              (try dsimp only at hSw)
              go_simp
              try with_reducible rfl
            try simp only [Act.put, List.setIfInBounds_toArray, List.set_cons_zero, List.set_cons_succ, List.getElem_toArray, List.getElem_cons_zero, List.getElem_cons_succ]
            refine wpAnyH_take (i := 5) (v := ?_) rfl (by kernel_rfl) (by kernel_rfl) (by kernel_rfl) (fun _ _ _ h => h) (Or.inl ⟨by rfl, ?_⟩) (by assumption) ?_
            rotate_left
            · intro w hSw
              (try dsimp only at hSw)
              go_simp
              try with_reducible rfl
            try simp only [Act.put, List.setIfInBounds_toArray, List.set_cons_zero, List.set_cons_succ, List.getElem_toArray, List.getElem_cons_zero, List.getElem_cons_succ]
            refine wpAnyH_take (i := 6) (v := .agg (List.toArray (ca))) rfl (by kernel_rfl) (by kernel_rfl) (by kernel_rfl) (fun _ _ _ h => h) (yieldsIf_load_mid (by rfl) _ _ rfl _ _ rfl (ca) _ (fun w hSw => (Bk.range (pre := []) (post := []) (by simpa using hSw.1) rfl)) Try.underlying25 rfl (HA3.out.info)) (by assumption) ?_
            try simp only [Act.put, List.setIfInBounds_toArray, List.set_cons_zero, List.set_cons_succ, List.getElem_toArray, List.getElem_cons_zero, List.getElem_cons_succ]
            refine wpAnyH_take (i := 8) (v := .agg (List.toArray (cb))) rfl (by kernel_rfl) (by kernel_rfl) (by kernel_rfl) (fun _ _ _ h => h) (yieldsIf_load_mid (by rfl) _ _ rfl _ _ rfl (cb) _ (fun w hSw => (Bk.range (pre := []) (post := []) (by simpa using hSw.2) rfl)) Try.underlying25 rfl (HB3.out.info)) (by assumption) ?_
            try simp only [Act.put, List.setIfInBounds_toArray, List.set_cons_zero, List.set_cons_succ, List.getElem_toArray, List.getElem_cons_zero, List.getElem_cons_succ]
            refine wpAnyH_ready (rs := [7]) (by kernel_rfl) (by simp) ?_
            refine AllReadyH.cons rfl (fun K hK => ?_) AllReadyH.nil
            go_simp
            (go_at_call 32; refine (rthAt (HA3.out.later (below_draws w3 _ 1))).mono ?_; rintro e w4 ⟨rfl, hbn⟩; have hbn := (below_draws w3 _ 1).trans hbn; have HBB4 := Lib.hid (below_then HBB3.out hbn); have H14 := Lib.hid (H13.out.later hbn); have H24 := Lib.hid (H23.out.later hbn); have HA4 := Lib.hid (HA3.out.later hbn); have HB4 := Lib.hid (HB3.out.later hbn); clear hbn)
            refine hK.out _ _ (⟨H14.out, H24.out⟩) (fun hHeld => ?_)
            clear hK K
            try simp only [Act.put, List.setIfInBounds_toArray, List.set_cons_zero, List.set_cons_succ, List.getElem_toArray, List.getElem_cons_zero, List.getElem_cons_succ]
            refine wpAnyH_ready (rs := [9]) (by kernel_rfl) (by simp) ?_
            refine AllReadyH.cons rfl (fun K hK => ?_) AllReadyH.nil
            go_simp
            (go_at_call 32; refine (rthAt HB4.out).mono ?_; rintro e w5 ⟨rfl, hbn⟩; have HBB5 := Lib.hid (below_then HBB4.out hbn); have H15 := Lib.hid (H14.out.later hbn); have H25 := Lib.hid (H24.out.later hbn); have HA5 := Lib.hid (HA4.out.later hbn); have HB5 := Lib.hid (HB4.out.later hbn); clear hbn)
            refine hK.out _ _ (⟨H15.out, H25.out⟩) (fun hHeld => ?_)
            clear hK K
            try simp only [Act.put, List.setIfInBounds_toArray, List.set_cons_zero, List.set_cons_succ, List.getElem_toArray, List.getElem_cons_zero, List.getElem_cons_succ]
            refine wpAnyH_take (i := 10) (v := ?_) rfl (by kernel_rfl) (by kernel_rfl) (by kernel_rfl) (fun _ _ _ h => h) (Or.inl ⟨by rfl, ?_⟩) (by assumption) ?_
            rotate_left
            · intro w hSw
              (try dsimp only at hSw)
              go_simp
              try with_reducible rfl
            try simp only [Act.put, List.setIfInBounds_toArray, List.set_cons_zero, List.set_cons_succ, List.getElem_toArray, List.getElem_cons_zero, List.getElem_cons_succ]
            refine wpAnyH_take (i := 11) (v := ?_) rfl (by kernel_rfl) (by kernel_rfl) (by kernel_rfl) (fun _ _ _ h => h) (Or.inl ⟨by rfl, ?_⟩) (by assumption) ?_
            rotate_left
            · intro w hSw
              (try dsimp only at hSw)
              go_simp
              try with_reducible rfl
            try simp only [Act.put, List.setIfInBounds_toArray, List.set_cons_zero, List.set_cons_succ, List.getElem_toArray, List.getElem_cons_zero, List.getElem_cons_succ]
            refine wpAnyH_done (by kernel_rfl) ?_ _
            clear hHeld
            cases b3
            · rw [if_pos (Or.inr rfl)] at hE
              have HE : Hid (E = 18) := hE.symm
              clear hE c5
              go_wp2_with fail
              go_ret
              exact ⟨by rw [HE.out]; rfl, HBB5.out⟩
            · rw [if_neg (by simp [c5])] at hE
              clear c5
              have HE := Lib.hid hE
              clear hE
              go_wp2_with fail
              refine wp_region_held_drew (S := fun w' => Bk w' (z + 1) 25 ca ∧ Bk w' (z + 2) 25 cb) (by kernel_rfl) ⟨Bk.drew H15.out, Bk.drew H25.out⟩ (fun hHeld => ?_)
              refine wpAnyH_take (i := 0) (v := .agg (List.toArray (ca))) rfl (by kernel_rfl) (by kernel_rfl) (by kernel_rfl) (fun _ _ _ h => h) (yieldsIf_load_mid (by rfl) _ _ rfl _ _ rfl (ca) _ (fun w hSw => (Bk.range (pre := []) (post := []) (by simpa using hSw.1) rfl)) Try.underlying25 rfl (HA5.out.info)) (by assumption) ?_
              try simp only [Act.put, List.setIfInBounds_toArray, List.set_cons_zero, List.set_cons_succ, List.getElem_toArray, List.getElem_cons_zero, List.getElem_cons_succ]
              refine wpAnyH_take (i := 2) (v := .agg (List.toArray (cb))) rfl (by kernel_rfl) (by kernel_rfl) (by kernel_rfl) (fun _ _ _ h => h) (yieldsIf_load_mid (by rfl) _ _ rfl _ _ rfl (cb) _ (fun w hSw => (Bk.range (pre := []) (post := []) (by simpa using hSw.2) rfl)) Try.underlying25 rfl (HB5.out.info)) (by assumption) ?_
              try simp only [Act.put, List.setIfInBounds_toArray, List.set_cons_zero, List.set_cons_succ, List.getElem_toArray, List.getElem_cons_zero, List.getElem_cons_succ]
              refine wpAnyH_ready (rs := [1]) (by kernel_rfl) (by simp) ?_
              refine AllReadyH.cons rfl (fun K hK => ?_) AllReadyH.nil
              go_simp
              (go_at_call 34; refine (rthDigest (HA5.out.later (below_draws w5 _ 1))).mono ?_; rintro e w6 ⟨rfl, hbn⟩; have hbn := (below_draws w5 _ 1).trans hbn; have HBB6 := Lib.hid (below_then HBB5.out hbn); have H16 := Lib.hid (H15.out.later hbn); have H26 := Lib.hid (H25.out.later hbn); have HA6 := Lib.hid (HA5.out.later hbn); have HB6 := Lib.hid (HB5.out.later hbn); clear hbn)
              refine hK.out _ _ (⟨H16.out, H26.out⟩) (fun hHeld => ?_)
              clear hK K
              try simp only [Act.put, List.setIfInBounds_toArray, List.set_cons_zero, List.set_cons_succ, List.getElem_toArray, List.getElem_cons_zero, List.getElem_cons_succ]
              refine wpAnyH_ready (rs := [3]) (by kernel_rfl) (by simp) ?_
              refine AllReadyH.cons rfl (fun K hK => ?_) AllReadyH.nil
              go_simp
              (go_at_call 34; refine (rthDigest HB6.out).mono ?_; rintro e w7 ⟨rfl, hbn⟩; have HBB7 := Lib.hid (below_then HBB6.out hbn); have H17 := Lib.hid (H16.out.later hbn); have H27 := Lib.hid (H26.out.later hbn); clear hbn)
              refine hK.out _ _ (⟨H17.out, H27.out⟩) (fun hHeld => ?_)
              clear hK K
              try simp only [Act.put, List.setIfInBounds_toArray, List.set_cons_zero, List.set_cons_succ, List.getElem_toArray, List.getElem_cons_zero, List.getElem_cons_succ]
              refine wpAnyH_take (i := 4) (v := ?_) rfl (by kernel_rfl) (by kernel_rfl) (by kernel_rfl) (fun _ _ _ h => h) (Or.inl ⟨by rfl, ?_⟩) (by assumption) ?_
              rotate_left
              · intro w hSw
                (try dsimp only at hSw)
                go_simp
                try with_reducible rfl
              try simp only [Act.put, List.setIfInBounds_toArray, List.set_cons_zero, List.set_cons_succ, List.getElem_toArray, List.getElem_cons_zero, List.getElem_cons_succ]
              refine wpAnyH_done (by kernel_rfl) ?_ _
              clear hHeld
              have hE := HE.out
              clear HE
              cases b4
              · rw [if_neg (by simp)] at hE
                cases ver
                · rw [if_pos rfl] at hE
                  have HE : Hid (E = 16) := hE.symm
                  clear hE
                  go_wp2_with fail
                  go_ret
                  exact ⟨by rw [HE.out]; rfl, HBB7.out⟩
                · rw [if_neg (by simp)] at hE
                  have HE : Hid (E = 0) := hE.symm
                  clear hE
                  go_wp2_with fail
                  go_ret
                  exact ⟨by rw [HE.out]; rfl, HBB7.out⟩
              · rw [if_pos rfl] at hE
                have HE : Hid (E = 7) := hE.symm
                clear hE
                go_wp2_with fail
                go_ret
                exact ⟨by rw [HE.out]; rfl, HBB7.out⟩
          · have d5 : (A.n != B.n) = true := by simpa using c5
            have hE := HE.out
            clear HE
            rw [if_pos (Or.inl c5)] at hE
            have HE : Hid (E = 18) := hE.symm
            clear hE c5
            refine wp_region_held_drew (S := fun w' => Bk w' (z + 1) 25 ca ∧ Bk w' (z + 2) 25 cb) (by kernel_rfl) ⟨Bk.drew H13.out, Bk.drew H23.out⟩ (fun hHeld => ?_)
            refine wpAnyH_take (i := 0) (v := ?_) rfl (by kernel_rfl) (by kernel_rfl) (by kernel_rfl) (fun _ _ _ h => h) (Or.inl ⟨by rfl, ?_⟩) (by assumption) ?_
            rotate_left
            · intro w hSw
              (try dsimp only at hSw)
              go_simp
              try with_reducible rfl
            try simp only [Act.put, List.setIfInBounds_toArray, List.set_cons_zero, List.set_cons_succ, List.getElem_toArray, List.getElem_cons_zero, List.getElem_cons_succ]
            refine wpAnyH_take (i := 2) (v := ?_) rfl (by kernel_rfl) (by kernel_rfl) (by kernel_rfl) (fun _ _ _ h => h) (Or.inl ⟨by rfl, ?_⟩) (by assumption) ?_
            rotate_left
            · intro w hSw
              (try dsimp only at hSw)
              go_simp
              try with_reducible rfl
            try simp only [Act.put, List.setIfInBounds_toArray, List.set_cons_zero, List.set_cons_succ, List.getElem_toArray, List.getElem_cons_zero, List.getElem_cons_succ]
            refine wpAnyH_take (i := 1) (v := ?_) rfl (by kernel_rfl) (by kernel_rfl) (by kernel_rfl) (fun _ _ _ h => h) (Or.inl ⟨by rfl, ?_⟩) (by assumption) ?_
            rotate_left
            · intro w hSw
              have hcell := (HQA.out w hSw.1)
              clear hSw
              go_simp
              try with_reducible rfl
            try simp only [Act.put, List.setIfInBounds_toArray, List.set_cons_zero, List.set_cons_succ, List.getElem_toArray, List.getElem_cons_zero, List.getElem_cons_succ]
            refine wpAnyH_take (i := 3) (v := ?_) rfl (by kernel_rfl) (by kernel_rfl) (by kernel_rfl) (fun _ _ _ h => h) (Or.inl ⟨by rfl, ?_⟩) (by assumption) ?_
            rotate_left
            · intro w hSw
              have hcell := (HQB.out w hSw.2)
              clear hSw
              go_simp
              try with_reducible rfl
            try simp only [Act.put, List.setIfInBounds_toArray, List.set_cons_zero, List.set_cons_succ, List.getElem_toArray, List.getElem_cons_zero, List.getElem_cons_succ]
            refine wpAnyH_take (i := 4) (v := ?_) rfl (by kernel_rfl) (by kernel_rfl) (by kernel_rfl) (fun _ _ _ h => h) (Or.inl ⟨by rfl, ?_⟩) (by assumption) ?_
            rotate_left
            · intro w hSw
              (try dsimp only at hSw)
              go_simp
              try with_reducible rfl
            try simp only [Act.put, List.setIfInBounds_toArray, List.set_cons_zero, List.set_cons_succ, List.getElem_toArray, List.getElem_cons_zero, List.getElem_cons_succ]
            refine wpAnyH_take (i := 5) (v := ?_) rfl (by kernel_rfl) (by kernel_rfl) (by kernel_rfl) (fun _ _ _ h => h) (Or.inl ⟨by rfl, ?_⟩) (by assumption) ?_
            rotate_left
            · intro w hSw
              (try dsimp only at hSw)
              go_simp
              try with_reducible rfl
            try simp only [Act.put, List.setIfInBounds_toArray, List.set_cons_zero, List.set_cons_succ, List.getElem_toArray, List.getElem_cons_zero, List.getElem_cons_succ]
            refine wpAnyH_take (i := 6) (v := undef) rfl (by kernel_rfl) (by kernel_rfl) (by kernel_rfl) (fun _ _ _ h => h) (Or.inr ⟨by rfl, rfl⟩) (by assumption) ?_
            try simp only [Act.put, List.setIfInBounds_toArray, List.set_cons_zero, List.set_cons_succ, List.getElem_toArray, List.getElem_cons_zero, List.getElem_cons_succ]
            refine wpAnyH_take (i := 7) (v := undef) rfl (by kernel_rfl) (by kernel_rfl) (by kernel_rfl) (fun _ _ _ h => h) (Or.inr ⟨by rfl, rfl⟩) (by assumption) ?_
            try simp only [Act.put, List.setIfInBounds_toArray, List.set_cons_zero, List.set_cons_succ, List.getElem_toArray, List.getElem_cons_zero, List.getElem_cons_succ]
            refine wpAnyH_take (i := 8) (v := undef) rfl (by kernel_rfl) (by kernel_rfl) (by kernel_rfl) (fun _ _ _ h => h) (Or.inr ⟨by rfl, rfl⟩) (by assumption) ?_
            try simp only [Act.put, List.setIfInBounds_toArray, List.set_cons_zero, List.set_cons_succ, List.getElem_toArray, List.getElem_cons_zero, List.getElem_cons_succ]
            refine wpAnyH_take (i := 9) (v := undef) rfl (by kernel_rfl) (by kernel_rfl) (by kernel_rfl) (fun _ _ _ h => h) (Or.inr ⟨by rfl, rfl⟩) (by assumption) ?_
            try simp only [Act.put, List.setIfInBounds_toArray, List.set_cons_zero, List.set_cons_succ, List.getElem_toArray, List.getElem_cons_zero, List.getElem_cons_succ]
            refine wpAnyH_take (i := 10) (v := undef) rfl (by kernel_rfl) (by kernel_rfl) (by kernel_rfl) (fun _ _ _ h => h) (Or.inr ⟨by rfl, rfl⟩) (by assumption) ?_
            try simp only [Act.put, List.setIfInBounds_toArray, List.set_cons_zero, List.set_cons_succ, List.getElem_toArray, List.getElem_cons_zero, List.getElem_cons_succ]
            refine wpAnyH_take (i := 11) (v := ?_) rfl (by kernel_rfl) (by kernel_rfl) (by kernel_rfl) (fun _ _ _ h => h) (Or.inl ⟨by rfl, ?_⟩) (by assumption) ?_
            rotate_left
            · intro w hSw
              (try dsimp only at hSw)
              go_simp
              try with_reducible rfl
            try simp only [Act.put, List.setIfInBounds_toArray, List.set_cons_zero, List.set_cons_succ, List.getElem_toArray, List.getElem_cons_zero, List.getElem_cons_succ]
            refine wpAnyH_done (by kernel_rfl) ?_ _
            clear hHeld
            have HBB3d := Lib.hid (HBB3.out.trans (below_draws w3 w.heap.size 1))
            go_wp2_with fail
            go_ret
            exact ⟨by rw [HE.out]; rfl, HBB3d.out⟩
      · have d3 : (A.k != B.k) = true := by simpa using c3
        rw [if_pos c3] at hE
        have HE : Hid (E = 11) := hE.symm
        clear c3 hE
        go_wp2_with fail
        go_ret
        exact ⟨by rw [HE.out]; rfl, HBB3.out⟩
    · have d2 : (e2 != 0) = true := by simpa using c2
      rw [if_pos c2] at hE
      have HE : Hid (E = e2) := hE.symm
      clear c2 hE
      go_wp2_with fail
      go_ret
      exact ⟨by rw [HE.out]; rfl, HBB3.out⟩
  · have d1 : (e1 != 0) = true := by simpa using c1
    rw [if_pos c1] at hE
    have HE : Hid (E = e1) := hE.symm
    clear c1 hE
    go_wp2_with fail
    go_ret
    exact ⟨by rw [HE.out]; rfl, HBB2.out⟩
/-- The document's thing as the program's. -/
def toT (R : RtT) : Tg := if R.k = 0 then ⟨R.k, R.n, if R.o then 1 else 0, R.t, zeroD, zeroD, R.bs, [], R.ss⟩ else ⟨R.k, 0, R.n, zeroD, R.t, R.v, if R.o then [0] else [], R.bs, R.ss⟩
theorem toT_k (R : RtT) : (toT R).k = R.k := by unfold toT; split <;> rfl
theorem toT_ss (R : RtT) : (toT R).ss = R.ss := by unfold toT; split <;> rfl
theorem toT_check (R : RtT) : checkT (toT R).k (toT R).n (toT R).m (toT R).t (toT R).u (toT R).v (toT R).ps (toT R).qs (toT R).ss = rchk R := by
  unfold toT rchk checkT rcheckT aloneB
  by_cases h0 : R.k = 0
  · rw [if_pos h0]
    simp only [if_pos (Or.inl h0 : R.k = 0 ∨ R.k = 1), if_pos h0, eqL_self]
    cases R.o <;> rfl
  · rw [if_neg h0]
    simp only [if_neg h0, eqL_self]
    cases R.o
    · rfl
    · rfl
theorem toT_dg (R : RtT) : dgT (toT R) = rdgR R := by
  unfold toT dgT rdgR
  by_cases h0 : R.k = 0
  · rw [if_pos h0, if_pos h0]; simp only [if_pos h0]
  · rw [if_neg h0, if_neg h0]; simp only [if_neg h0]
theorem toT_place {R : RtT} (h : R.k = 0 ∨ R.k = 1) : placeT (toT R).k (toT R).t (toT R).u = R.t ∧ placeN (toT R).k (toT R).n (toT R).m = R.n ∧ placeA (toT R).k (toT R).v = ratT R.k R.v := by
  unfold toT placeT placeN placeA ratT
  rcases h with h | h
  · simp [h]
  · simp [h]
theorem rchk_k {R : RtT} (h : rchk R = 0) : R.k = 0 ∨ R.k = 1 := by
  unfold rchk rcheckT at h
  by_cases hk : R.k = 0 ∨ R.k = 1
  · exact hk
  · rw [if_neg hk] at h; exact absurd h (by decide)
theorem unl_is {b : Bool} {e : Int} : unlG b e = if b = true then 0 else e := rfl
/-- Both say the same of two things. -/
theorem tw_agree (es : List Ent) (tb ky : List Int) (A B : RtT) : twT es tb ky (toT A) (toT B) = rtwR tb A B (verB es (ky, rdgR A) A.ss && verB es (ky, rdgR B) B.ss) := by
  unfold twT asksT rtwR
  rw [toT_check, toT_check, toT_dg, toT_dg, toT_ss, toT_ss, toT_k, toT_k]
  simp only [firstE, unlG]
  by_cases h1 : rchk A = 0
  · simp only [h1, ne_eq, not_true_eq_false, if_true, if_false]
    by_cases h2 : rchk B = 0
    · simp only [h2, not_true_eq_false, if_true, if_false]
      have pA := toT_place (rchk_k h1)
      have pB := toT_place (rchk_k h2)
      rw [toT_k] at pA pB
      rw [pA.1, pA.2.1, pA.2.2, pB.1, pB.2.1, pB.2.2]
      by_cases h3 : A.k = B.k
      · simp only [h3, beq_self_eq_true, not_true_eq_false, if_true, if_false]
        obtain ⟨b1, hb1⟩ : ∃ b, eqL A.t tb = b := ⟨_, rfl⟩
        obtain ⟨b2, hb2⟩ : ∃ b, eqL B.t tb = b := ⟨_, rfl⟩
        obtain ⟨b3, hb3⟩ : ∃ b, eqL (ratT B.k A.v) (ratT B.k B.v) = b := ⟨_, rfl⟩
        obtain ⟨b4, hb4⟩ : ∃ b, eqL (rdgR A) (rdgR B) = b := ⟨_, rfl⟩
        obtain ⟨b5, hb5⟩ : ∃ b, (verB es (ky, rdgR A) A.ss && verB es (ky, rdgR B) B.ss) = b := ⟨_, rfl⟩
        rw [hb1, hb2, hb3, hb4, hb5]
        by_cases hn : A.n = B.n
        · have hn1 : (A.n == B.n) = true := by simpa using hn
          rw [hn1]
          simp only [hn, ne_eq, not_true_eq_false, false_or]
          cases b1 <;> cases b2 <;> cases b3 <;> cases b4 <;> cases b5 <;> rfl
        · have hn1 : (A.n == B.n) = false := by simpa using hn
          rw [hn1]
          simp only [hn, ne_eq, not_false_eq_true, true_or, if_true]
          cases b1 <;> cases b2 <;> rfl
      · have : (A.k == B.k) = false := by simpa using h3
        rw [this]
        simp only [h3, not_false_eq_true, if_true]
        rfl
    · simp only [h2, not_false_eq_true, if_true, if_false]
  · simp only [h1, ne_eq, not_false_eq_true, if_true, if_false]
end Go.Proofs.Ythibihjblodfmaa
