/- FundLate. -/
import Derived.Test.YtfapechlnllfaabF7
import Derived.StillTailTactics
namespace Go.Proofs.Ytfapechlnllfaab
open Go.RowKit

theorem held_none : ∀ (l : List Int) (n : Nat), heldG l (List.replicate n false) = 0
  | [], n => by cases n <;> rfl
  | x :: l, 0 => rfl
  | x :: l, n + 1 => by rw [List.replicate_succ, heldG, held_none l n]; rfl

set_option maxHeartbeats 1000000 in
theorem law_FundLate (A : Option Addr) (n c : Nat) (zs : List Int) (b seat late : Int) (w : World) (h : Sl w w.heap.size 1 A n (zs.map (.int .i64))) :
    Calls Try.prog 6 #[.agg #[.slice A n c, .int .i64 b], .int .i64 seat, .int .i64 late] w fun e w' => e = .returned (.bool true) ∧ Below w.heap.size w w' := by
  have hl := h.length
  have HL := Lib.hid hl; clear hl
  obtain ⟨w1, hw1⟩ : ∃ w1, w.alloc (.cells #[.slice A n c, .int .i64 b] 24) = w1 := ⟨_, rfl⟩
  have hb1 : Below w.heap.size w w1 := hw1 ▸ below_new _ _
  have hs1 := h.later hb1
  have hk1 : Bk w1 w.heap.size 24 [.slice A n c, .int .i64 b] := hw1 ▸ Bk.new w _ #[.slice A n c, .int .i64 b]
  have HK := Lib.hid hk1
  have HS := Lib.hid hs1
  have HW := Lib.hid hw1
  obtain ⟨c0, c1⟩ := start_cells hk1 (Below.refl _ _)
  have hlt := hk1.lt
  clear h hk1 hs1 hw1
  go_enter Try.func6, Try.ntmps6
  go_wp2_with fail
  rw [HW.out]
  refine (new_any _ _ _ _ _ _ HS.out).mono ?_
  rintro e w2 (⟨hne, rfl, rfl⟩ | ⟨hz, rfl, hfa, hbw⟩)
  · have hk : (newE zs b == 0) = false := by simpa using hne
    go_wp2_with (go_at_call 12; refine (told_any _).mono ?_; rintro e w' ⟨rfl, hbt⟩)
    go_ret
    exact ⟨rfl, below_then hb1 hbt⟩
  · have ok := (new_ok_of hz).1
    have n2 := ok.n2
    have n8 := ok.n8
    rw [HL.out] at n2 n8
    obtain ⟨ga, hga⟩ : ∃ ga, w1.heap.size = ga := ⟨_, rfl⟩
    rw [hga] at hfa hlt ⊢
    rw [HL.out] at hfa
    obtain ⟨ad, rfl, hadb, _⟩ := HS.out.mem (by omega)
    have HFA := Lib.hid hfa; have HOK := Lib.hid ok; have HGA := Lib.hid hga; have HBW := Lib.hid hbw
    obtain ⟨d0, d1⟩ := start_cells HK.out hbw
    clear hfa hbw c0 c1 hz ok hga
    by_cases hs0 : seat < 0
    · have hd0 : decide (0 ≤ seat) = false := by simp; omega
      go_wp2_with fail
      go_loopw [9] (fun ix wr => ∃ t : Nat, t ≤ n ∧ ix = .int .i64 t ∧ FundAt wr ga zs (laidBy n (fun s => s) t) b ∧ Below w1.heap.size w1 wr) (fun ix _ => n - (intOf ix).toNat)
      case atStart => exact ⟨0, Nat.zero_le _, rfl, HFA.out, HBW.out⟩
      case round =>
        obtain ⟨t, ht, rfl, hfa, hbl⟩ := hrel
        obtain ⟨e0, e1⟩ := start_cells HK.out hbl
        by_cases hlt : t < n
        · have hsl := HS.out.later hbl
          obtain ⟨ad', x, hA, _, hx, hcx⟩ := hsl.at_ hlt
          injection hA with hA; subst hA
          have hz := HL.out
          have hda : (laidBy n (fun s => s) t)[t]? = some false := by
            rw [laidBy_get hlt]; simp
          obtain ⟨la, lda⟩ := lay_can (by omega) (Int.le_refl b) hda hx
          have lda' : layD zs (laidBy n (fun s => s) t) b t x b = laidBy n (fun s => s) (t + 1) := by rw [lda, laidBy]
          have HF := Lib.hid hfa; have HBL := Lib.hid hbl
          have LA := Lib.hid la; have LDA := Lib.hid lda'
          clear lda hda hx hsl hfa hbl la lda'
          go_wp2_with fail
          go_still_tail 9, (by kernel_rfl)
          change wpList _ _ _ _ _ wr.drew
          go_wp2_with fail
          refine (lay_t LA.out LDA.out _ _ (HF.out.drewN 1)).mono ?_
          rintro e wa ⟨rfl, hfa', hga'⟩
          have hbl2 := below_only (HBL.out.trans (below_draws wr _ 1)) hga' HBL.out.size (by rw [HGA.out]; exact Nat.le_refl _)
          go_wp2_with fail
          go_roundw
          case rel => exact ⟨t + 1, by omega, by go_num, hfa', hbl2⟩
          case measure => simp [intOf]; omega
        · obtain rfl : t = n := by omega
          rw [laidBy_full (fun j hj => ⟨j, hj, rfl⟩)] at hfa
          have HF := Lib.hid hfa; have HBL := Lib.hid hbl
          clear hfa hbl
          go_wp2_with fail
          refine (phase_any _ _ _ _ _ HF.out late).mono ?_
          rintro e w6 ⟨rfl, hb6⟩
          rw [show phaseG (List.replicate t true) b late = 1 by simp [phaseG]]
          have hbl6 := HBL.out.trans (hb6.mono HBL.out.size)
          go_wp2_with fail
          refine (told_any _).mono ?_
          rintro e w7 ⟨rfl, hb7⟩
          have hbl7 := hbl6.trans (hb7.mono hbl6.size)
          go_wp2_with fail
          go_ret
          exact ⟨rfl, below_then hb1 hbl7⟩
    by_cases hs1 : (n : Int) ≤ seat
    · have hd0 : decide (0 ≤ seat) = true := by simp; omega
      have hd1 : decide (seat < (n : Int)) = false := by simp; omega
      go_wp2_with fail
      go_loopw [9] (fun ix wr => ∃ t : Nat, t ≤ n ∧ ix = .int .i64 t ∧ FundAt wr ga zs (laidBy n (fun s => s) t) b ∧ Below w1.heap.size w1 wr) (fun ix _ => n - (intOf ix).toNat)
      case atStart => exact ⟨0, Nat.zero_le _, rfl, HFA.out, HBW.out⟩
      case round =>
        obtain ⟨t, ht, rfl, hfa, hbl⟩ := hrel
        obtain ⟨e0, e1⟩ := start_cells HK.out hbl
        by_cases hlt : t < n
        · have hsl := HS.out.later hbl
          obtain ⟨ad', x, hA, _, hx, hcx⟩ := hsl.at_ hlt
          injection hA with hA; subst hA
          have hz := HL.out
          have hda : (laidBy n (fun s => s) t)[t]? = some false := by
            rw [laidBy_get hlt]; simp
          obtain ⟨la, lda⟩ := lay_can (by omega) (Int.le_refl b) hda hx
          have lda' : layD zs (laidBy n (fun s => s) t) b t x b = laidBy n (fun s => s) (t + 1) := by rw [lda, laidBy]
          have HF := Lib.hid hfa; have HBL := Lib.hid hbl
          have LA := Lib.hid la; have LDA := Lib.hid lda'
          clear lda hda hx hsl hfa hbl la lda'
          go_wp2_with fail
          go_still_tail 9, (by kernel_rfl)
          change wpList _ _ _ _ _ wr.drew
          go_wp2_with fail
          refine (lay_t LA.out LDA.out _ _ (HF.out.drewN 1)).mono ?_
          rintro e wa ⟨rfl, hfa', hga'⟩
          have hbl2 := below_only (HBL.out.trans (below_draws wr _ 1)) hga' HBL.out.size (by rw [HGA.out]; exact Nat.le_refl _)
          go_wp2_with fail
          go_roundw
          case rel => exact ⟨t + 1, by omega, by go_num, hfa', hbl2⟩
          case measure => simp [intOf]; omega
        · obtain rfl : t = n := by omega
          rw [laidBy_full (fun j hj => ⟨j, hj, rfl⟩)] at hfa
          have HF := Lib.hid hfa; have HBL := Lib.hid hbl
          clear hfa hbl
          go_wp2_with fail
          refine (phase_any _ _ _ _ _ HF.out late).mono ?_
          rintro e w6 ⟨rfl, hb6⟩
          rw [show phaseG (List.replicate t true) b late = 1 by simp [phaseG]]
          have hbl6 := HBL.out.trans (hb6.mono HBL.out.size)
          go_wp2_with fail
          refine (told_any _).mono ?_
          rintro e w7 ⟨rfl, hb7⟩
          have hbl7 := hbl6.trans (hb7.mono hbl6.size)
          go_wp2_with fail
          go_ret
          exact ⟨rfl, below_then hb1 hbl7⟩
    obtain ⟨i, rfl, hi⟩ := pair_nn (n := n) (x := seat) (by omega) (by omega)
    have hd1 : decide ((i : Int) < (n : Int)) = true := by simp; omega
    by_cases hla : late ≤ b
    · have hd2 : decide (b < late) = false := by simp; omega
      go_wp2_with fail
      go_loopw [9] (fun ix wr => ∃ t : Nat, t ≤ n ∧ ix = .int .i64 t ∧ FundAt wr ga zs (laidBy n (fun s => s) t) b ∧ Below w1.heap.size w1 wr) (fun ix _ => n - (intOf ix).toNat)
      case atStart => exact ⟨0, Nat.zero_le _, rfl, HFA.out, HBW.out⟩
      case round =>
        obtain ⟨t, ht, rfl, hfa, hbl⟩ := hrel
        obtain ⟨e0, e1⟩ := start_cells HK.out hbl
        by_cases hlt : t < n
        · have hsl := HS.out.later hbl
          obtain ⟨ad', x, hA, _, hx, hcx⟩ := hsl.at_ hlt
          injection hA with hA; subst hA
          have hz := HL.out
          have hda : (laidBy n (fun s => s) t)[t]? = some false := by
            rw [laidBy_get hlt]; simp
          obtain ⟨la, lda⟩ := lay_can (by omega) (Int.le_refl b) hda hx
          have lda' : layD zs (laidBy n (fun s => s) t) b t x b = laidBy n (fun s => s) (t + 1) := by rw [lda, laidBy]
          have HF := Lib.hid hfa; have HBL := Lib.hid hbl
          have LA := Lib.hid la; have LDA := Lib.hid lda'
          clear lda hda hx hsl hfa hbl la lda'
          go_wp2_with fail
          go_still_tail 9, (by kernel_rfl)
          change wpList _ _ _ _ _ wr.drew
          go_wp2_with fail
          refine (lay_t LA.out LDA.out _ _ (HF.out.drewN 1)).mono ?_
          rintro e wa ⟨rfl, hfa', hga'⟩
          have hbl2 := below_only (HBL.out.trans (below_draws wr _ 1)) hga' HBL.out.size (by rw [HGA.out]; exact Nat.le_refl _)
          go_wp2_with fail
          go_roundw
          case rel => exact ⟨t + 1, by omega, by go_num, hfa', hbl2⟩
          case measure => simp [intOf]; omega
        · obtain rfl : t = n := by omega
          rw [laidBy_full (fun j hj => ⟨j, hj, rfl⟩)] at hfa
          have HF := Lib.hid hfa; have HBL := Lib.hid hbl
          clear hfa hbl
          go_wp2_with fail
          refine (phase_any _ _ _ _ _ HF.out late).mono ?_
          rintro e w6 ⟨rfl, hb6⟩
          rw [show phaseG (List.replicate t true) b late = 1 by simp [phaseG]]
          have hbl6 := HBL.out.trans (hb6.mono HBL.out.size)
          go_wp2_with fail
          refine (told_any _).mono ?_
          rintro e w7 ⟨rfl, hb7⟩
          have hbl7 := hbl6.trans (hb7.mono hbl6.size)
          go_wp2_with fail
          go_ret
          exact ⟨rfl, below_then hb1 hbl7⟩
    · have hd2 : decide (b < late) = true := by simp; omega
      have hla' : b < late := by omega
      obtain ⟨ad', x, hA, _, hx, hcx⟩ := (HS.out.later HBW.out).at_ hi
      injection hA with hA; subst hA
      have hE : layE zs (List.replicate n false) b i x late = 19 := by
        unfold layE
        rw [if_neg (by rw [has_true (by have := HL.out; omega)]; decide), if_pos hla']
      have hD : layD zs (List.replicate n false) b i x late = List.replicate n false := by
        rw [layD, if_neg (by rw [hE]; decide)]
      have hP : phaseG (List.replicate n false) b late = 2 := by
        rw [phaseG, if_neg (by simp; omega), if_pos hla']
      have HE := Lib.hid hE; have HD := Lib.hid hD; have HP := Lib.hid hP
      clear hE hD hP hx
      go_wp2_with fail
      have hq := lay_any _ _ _ _ _ HFA.out i x late
      rw [HE.out, HD.out] at hq
      refine hq.mono ?_
      rintro e w3 ⟨rfl, hf3, hg3⟩
      have hb3 := below_only HBW.out hg3 HBW.out.size (by rw [HGA.out]; exact Nat.le_refl _)
      have HF3 := Lib.hid hf3
      clear hf3 HFA HBW
      go_wp2_with fail
      refine (held_any _ _ _ _ _ HF3.out).mono ?_
      rintro e w4 ⟨rfl, rfl⟩
      rw [held_none]
      go_wp2_with fail
      refine (phase_any _ _ _ _ _ HF3.out late).mono ?_
      rintro e w5 ⟨rfl, hb5⟩
      rw [HP.out]
      have hbw5 := hb3.trans (hb5.mono hb3.size)
      have HFA := Lib.hid (HF3.out.later hb5); have HBW := Lib.hid hbw5
      obtain ⟨e0, e1⟩ := start_cells HK.out hbw5
      clear HF3 hb5 hbw5 hb3 hg3
      go_wp2_with fail
      go_loopw [9] (fun ix wr => ∃ t : Nat, t ≤ n ∧ ix = .int .i64 t ∧ FundAt wr ga zs (laidBy n (fun s => s) t) b ∧ Below w1.heap.size w1 wr) (fun ix _ => n - (intOf ix).toNat)
      case atStart => exact ⟨0, Nat.zero_le _, rfl, HFA.out, HBW.out⟩
      case round =>
        obtain ⟨t, ht, rfl, hfa, hbl⟩ := hrel
        obtain ⟨e0, e1⟩ := start_cells HK.out hbl
        by_cases hlt : t < n
        · have hsl := HS.out.later hbl
          obtain ⟨ad', x, hA, _, hx, hcx⟩ := hsl.at_ hlt
          injection hA with hA; subst hA
          have hz := HL.out
          have hda : (laidBy n (fun s => s) t)[t]? = some false := by
            rw [laidBy_get hlt]; simp
          obtain ⟨la, lda⟩ := lay_can (by omega) (Int.le_refl b) hda hx
          have lda' : layD zs (laidBy n (fun s => s) t) b t x b = laidBy n (fun s => s) (t + 1) := by rw [lda, laidBy]
          have HF := Lib.hid hfa; have HBL := Lib.hid hbl
          have LA := Lib.hid la; have LDA := Lib.hid lda'
          clear lda hda hx hsl hfa hbl la lda'
          go_wp2_with fail
          go_still_tail 9, (by kernel_rfl)
          change wpList _ _ _ _ _ wr.drew
          go_wp2_with fail
          refine (lay_t LA.out LDA.out _ _ (HF.out.drewN 1)).mono ?_
          rintro e wa ⟨rfl, hfa', hga'⟩
          have hbl2 := below_only (HBL.out.trans (below_draws wr _ 1)) hga' HBL.out.size (by rw [HGA.out]; exact Nat.le_refl _)
          go_wp2_with fail
          go_roundw
          case rel => exact ⟨t + 1, by omega, by go_num, hfa', hbl2⟩
          case measure => simp [intOf]; omega
        · obtain rfl : t = n := by omega
          rw [laidBy_full (fun j hj => ⟨j, hj, rfl⟩)] at hfa
          have HF := Lib.hid hfa; have HBL := Lib.hid hbl
          clear hfa hbl
          go_wp2_with fail
          refine (phase_any _ _ _ _ _ HF.out late).mono ?_
          rintro e w6 ⟨rfl, hb6⟩
          rw [show phaseG (List.replicate t true) b late = 1 by simp [phaseG]]
          have hbl6 := HBL.out.trans (hb6.mono HBL.out.size)
          go_wp2_with fail
          refine (told_any _).mono ?_
          rintro e w7 ⟨rfl, hb7⟩
          have hbl7 := hbl6.trans (hb7.mono hbl6.size)
          go_wp2_with fail
          go_ret
          exact ⟨rfl, below_then hb1 hbl7⟩
theorem law_FundLate' (A : Option Addr) (n c : Nat) (zs : List Int) (b seat late : Int) (w : World) (h : Sl w w.heap.size 1 A n (zs.map (.int .i64)) ∧ ∀ z ∈ zs, (Lit.int .i64 z).wf = true) (_ : (Lit.int .i64 seat).wf = true) (_ : (Lit.int .i64 late).wf = true) :
    Calls Try.prog 6 #[.agg #[.slice A n c, .int .i64 b], .int .i64 seat, .int .i64 late] w fun e w' => e = .returned (.bool true) ∧ Below w.heap.size w w' := law_FundLate A n c zs b seat late w h.1
end Go.Proofs.Ytfapechlnllfaab
