/- FundApart. -/
import Derived.Test.YtfapechlnllfaabF8
import Derived.Deep.DeepCutAuto
import Derived.Deep.RegionHeld3
namespace Go.Proofs.Ytfapechlnllfaab
open Go.RowKit

set_option maxHeartbeats 1000000 in
theorem law_FundApart (A : Option Addr) (n c : Nat) (zs : List Int) (b N : Int) (w : World) (h : Sl w w.heap.size 1 A n (zs.map (.int .i64))) (hreach : n * 8 ≤ 140737488351232) :
    Calls Try.prog 4 #[.agg #[.slice A n c, .int .i64 b], .int .i64 N] w fun e w' => e = .returned (.bool true) ∧ Below w.heap.size w w' := by
  have hl := h.length
  have hn := h.le
  have HL := Lib.hid hl; clear hl
  have hb1 := below_new w (.cells #[.slice A n c, .int .i64 b] 24)
  have hs1 := h.later hb1
  have hk1 : Bk (w.alloc (.cells #[.slice A n c, .int .i64 b] 24)) w.heap.size 24 [.slice A n c, .int .i64 b] := Bk.new w _ #[.slice A n c, .int .i64 b]
  have HK := Lib.hid hk1
  have HS := Lib.hid hs1
  have HB1 := Lib.hid hb1
  have hs2 := (h.alloc (Nat.le_refl _) (.cells #[.slice A n c, .int .i64 b] 24)).alloc (by simp) (.cells #[] 3)
  have HS2 := Lib.hid hs2
  have hE : ((w.alloc (.cells #[.slice A n c, .int .i64 b] 24)).alloc (.cells #[] 3)).ownsRow (w.heap.size + 1) 3 1 (.slice (some ⟨w.heap.size + 1, 0, none⟩) 0 0) 0 [] := own_empty_at (by simp) (Nat.le_refl _)
  have HE := Lib.hid hE
  obtain ⟨i0, hi, hz0, hz1, hz2⟩ := info_parts Try.infoInt
  clear h hk1 hs1 hs2 hE hb1
  go_enter Try.func4, Try.ntmps4
  go_wp2_with (at_builtin; refine wpList_app _ rfl (.tmp 11) (.tmp 13) 22 rfl (w.heap.size + 1) 3 i0 (.int .i64 0) 1 8 Try.underlying22 hi hz0 hz1 hz2 rfl (by decide) _ _ _ rfl HE.out _ _ n c (zs.map (.int .i64)) rfl HS2.out (ints_one _ _) (by unfold maxLen; omega) (by omega) (by simp <;> omega) ?_; intro v1 w2 hown1 hg1 hat1; have hb2 := (grown_below (below_new (w.alloc (.cells #[.slice A n c, .int .i64 b] 24)) (.cells #[] 3)) HE.out hg1 (by simp <;> omega) (by simp <;> omega)); obtain ⟨A1, c1, rfl⟩ := own_form hown1; obtain ⟨c0, c1'⟩ := start_cells HK.out hb2)
  have hsz1 : (w.alloc (.cells #[.slice A n c, .int .i64 b] 24)).heap.size = w.heap.size + 1 := by simp
  generalize w.alloc (.cells #[.slice A n c, .int .i64 b] 24) = w1 at HK HS HB1 hb2 hsz1
  rw [Nat.zero_add, List.nil_append] at hown1
  clear hg1 hat1 HE HS2
  have hso := Sl.of_own hown1
  refine (new_any _ _ _ _ _ _ hso).mono ?_
  rintro e w3 (⟨hne, rfl, rfl⟩ | ⟨hz, rfl, hfa, hb3⟩)
  · have hk : (newE zs b == 0) = false := by simpa using hne
    go_wp2_with (go_at_call 12; refine (told_any _).mono ?_; rintro e w' ⟨rfl, hbt⟩)
    go_ret
    exact ⟨rfl, below_then HB1.out (below_then hb2 hbt)⟩
  · have ok := (new_ok_of hz).1
    have n2 := ok.n2
    have n8 := ok.n8
    rw [HL.out] at n2 n8
    have hown3 := own_keep hown1 hb3
    obtain ⟨g1, cap1, hAe, hgb1, hglt1⟩ := hown1.form (by omega)
    injection hAe with hA1 _ hc1
    subst hA1; subst hc1
    have hbw := below_then hb2 hb3
    obtain ⟨ga, hga⟩ : ∃ ga, w2.heap.size = ga := ⟨_, rfl⟩
    have hne : ga ≠ g1 := by omega
    have hgaw : w1.heap.size ≤ ga := by rw [← hga]; exact hb2.size
    rw [hga] at hfa ⊢
    have hgb1' : w1.heap.size ≤ g1 := by omega
    rw [HL.out] at hfa
    have HFA := Lib.hid hfa; have HBW := Lib.hid hbw; have HO := Lib.hid hown3; have HOK := Lib.hid ok; have HSZ := Lib.hid hsz1
    obtain ⟨d0, d1⟩ := start_cells HK.out hbw
    have hzl : (zs.map (Value.int .i64)).length = n := by simp [HL.out]
    have HZL := Lib.hid hzl
    clear hzl hfa hbw hown3 ok hsz1 hown1 hb2 hb3 hso c0 c1' hz hga
    go_wp2_with fail
    go_loopw [8] (fun ix wr => ∃ (t : Nat) (xs : List Value), t ≤ n ∧ ix = .int .i64 t ∧ wr.ownsRow (w.heap.size + 1) 3 1 (.slice (some ⟨g1, 0, none⟩) n c1) n xs ∧ Hid (xs.length = n) ∧ FundAt wr ga zs (List.replicate n false) b ∧ Below w1.heap.size w1 wr) (fun ix _ => n - (intOf ix).toNat)
    case atStart => exact ⟨0, _, Nat.zero_le _, rfl, HO.out, HZL, HFA.out, HBW.out⟩
    case round =>
      obtain ⟨t, xs, ht, rfl, hown, hxl, hf, hbl⟩ := hrel
      by_cases hlt : t < n
      · obtain ⟨x0, hx0⟩ : ∃ x0, xs[t]? = some x0 := ⟨xs[t]'(by rw [hxl.out]; exact hlt), List.getElem?_eq_getElem _⟩
        have hst : wr.cell? ⟨g1, t, none⟩ = some x0 := by rw [hown.cellAt t (by omega), hx0]
        have hfr := hown.frozenAt t
        clear hx0
        go_wp2_with fail
        go_roundw
        case rel => exact ⟨t + 1, _, by omega, by go_num, (hown.stored t _).1, by have := hxl.out; simpa [Hid] using this, ⟨hf.bk.far hne _, hf.ok⟩, hbl.setCell hgb1' _⟩
        case measure => simp [intOf]; omega
      · obtain rfl : t = n := by omega
        have HF := Lib.hid hf; have HBL := Lib.hid hbl
        clear hown hf hbl
        go_wp2_with fail
        refine (stakes_any _ _ _ _ _ HF.out).mono ?_
        rintro e w4 ⟨v4, rfl, hown4, hb4⟩
        rw [HL.out] at hown4
        have hf4 := HF.out.later hb4
        have hbl4 := HBL.out.trans (hb4.mono HBL.out.size)
        obtain ⟨g4, cap4, rfl, hgb4, hglt4⟩ := hown4.form (by omega)
        have hne4 : ga ≠ g4 := by have := HF.out.lt; omega
        have hg4w : w1.heap.size ≤ g4 := by have := HBL.out.size; omega
        obtain ⟨B4, hB4⟩ : ∃ B4, wr.heap.size = B4 := ⟨_, rfl⟩
        rw [hB4] at hown4
        have HO4 := Lib.hid hown4; have HF4 := Lib.hid hf4; have HBL4 := Lib.hid hbl4
        clear hB4 hown4 hf4 hbl4 hb4 hgb4 HF HBL
        go_wp2_with fail
        go_loopw [10] (fun ix wr => ∃ (j : Nat) (xs : List Value), j ≤ t ∧ ix = .int .i64 j ∧ wr.ownsRow B4 3 1 (.slice (some ⟨g4, 0, none⟩) t cap4) t xs ∧ Hid (xs.length = t) ∧ FundAt wr ga zs (List.replicate t false) b ∧ Below w1.heap.size w1 wr) (fun ix _ => t - (intOf ix).toNat)
        case atStart => exact ⟨0, _, Nat.zero_le _, rfl, HO4.out, HZL, HF4.out, HBL4.out⟩
        case round =>
          obtain ⟨j, xs, hj, rfl, hown, hxl, hf, hbl⟩ := hrel
          by_cases hlt : j < t
          · obtain ⟨x0, hx0⟩ : ∃ x0, xs[j]? = some x0 := ⟨xs[j]'(by rw [hxl.out]; exact hlt), List.getElem?_eq_getElem _⟩
            have hst : wr.cell? ⟨g4, j, none⟩ = some x0 := by rw [hown.cellAt j (by omega), hx0]
            have hfr := hown.frozenAt j
            clear hx0
            go_wp2_with fail
            go_roundw
            case rel => exact ⟨j + 1, _, by omega, by go_num, (hown.stored j _).1, by have := hxl.out; simpa [Hid] using this, ⟨hf.bk.far hne4 _, hf.ok⟩, hbl.setCell hg4w _⟩
            case measure => simp [intOf]; omega
          · obtain rfl : j = t := by omega
            have HF := Lib.hid hf; have HBL := Lib.hid hbl
            obtain ⟨e0, e1⟩ := start_cells HK.out hbl
            have hgl := hf.lt
            clear hown hf hbl
            go_wp2_with fail
            go_region_held3 (fun w' => w'.cell? ⟨w.heap.size, 0, none⟩ = some (.slice A j c)) (first | go_keep | assumption)
              (first
                | (go_at_call 16; refine (stakes_any wr.drew ga zs _ b (HF.out.drewN 1)).mono ?_; rintro e w5 ⟨v5, rfl, hown5, hb5⟩; rw [HL.out] at hown5; obtain ⟨A5, c5, rfl⟩ := own_form hown5; have hbl5 : Below w1.heap.size w1 w5 := ((HBL.out.trans (below_draws wr _ 1)).trans (hb5.mono HBL.out.size)); obtain ⟨e5, _⟩ := start_cells HK.out hbl5)
                | (go_at_call 17; refine (alike_any _ _ _ _ _ _ zs zs _ (Sl.of_own hown5) (HS.out.later hbl5)).mono ?_; rintro e w6 ⟨rfl, q6, rfl⟩; rw [eqL_self]; have hbl6 : Below w1.heap.size w1 (w5.drewN q6) := (hbl5.trans (below_draws w5 _ q6)); obtain ⟨e6, _⟩ := start_cells HK.out hbl6)
                | (go_at_call 12; refine (told_any _).mono ?_; rintro e w7 ⟨rfl, hb7⟩; have hbl7 : Below w1.heap.size w1 w7 := (hbl6.trans (hb7.mono hbl6.size)); obtain ⟨e7, _⟩ := start_cells HK.out hbl7))
            all_goals
              go_wp2_with fail
              go_ret
              exact ⟨rfl, below_then HB1.out hbl7⟩
theorem law_FundApart' (A : Option Addr) (n c : Nat) (zs : List Int) (b N : Int) (w : World) (h : Sl w w.heap.size 1 A n (zs.map (.int .i64)) ∧ (∀ z ∈ zs, (Lit.int .i64 z).wf = true) ∧ n * 8 ≤ 140737488351232) (_ : (Lit.int .i64 N).wf = true) :
    Calls Try.prog 4 #[.agg #[.slice A n c, .int .i64 b], .int .i64 N] w fun e w' => e = .returned (.bool true) ∧ Below w.heap.size w w' := law_FundApart A n c zs b N w h.1 h.2.2
end Go.Proofs.Ytfapechlnllfaab
