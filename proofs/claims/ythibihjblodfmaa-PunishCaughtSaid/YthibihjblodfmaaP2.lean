/- punish.Shares and baizeref34.Shares: both give sharesG. -/
import Derived.Test.YthibihjblodfmaaP1
import Derived.Deep.OwnRows
namespace Go.Proofs.Ythibihjblodfmaa
open Go.RowKit

theorem elig_cons (who : Int) (k : Nat) (g : Bool) (l : List Bool) : eligG who k (g :: l) = (!((k : Int) == who) && !g) :: eligG who (k + 1) l := rfl

theorem wOf_zero : ∀ (l : List Bool), cnt l = 0 → wOf l = List.replicate l.length 0
  | [], _ => rfl
  | b :: l, h => by
    have h1 := cnt_nonneg l
    cases b
    · simp only [cnt] at h
      simp only [wOf, List.map_cons, List.length_cons, List.replicate_succ]
      have := wOf_zero l (by simpa using h)
      simp only [wOf] at this
      rw [this]; rfl
    · simp [cnt] at h; omega

set_option maxHeartbeats 800000 in
theorem shares_any (bond who : Int) (A : Option Addr) (n c : Nat) (gone : List Bool) (w : World) (h : Sl w w.heap.size 1 A n (gone.map .bool)) :
    Calls Try.prog 62 #[.int .i64 bond, .int .i64 who, .slice A n c] w fun e w' => ∃ v, e = .returned (.tuple #[v, .int .i64 (sharesG bond who gone).2]) ∧
      w'.ownsRow w.heap.size 3 1 v (sharesG bond who gone).1.length ((sharesG bond who gone).1.map (.int .i64)) ∧ Below w.heap.size w w' := by
  have hn := h.le
  have hl := h.length
  have H := Lib.hid h; clear h
  have HL := Lib.hid hl; clear hl
  have nil_post : ∀ k : Int, sharesG bond who gone = ([], k) → ∃ v, Ending.returned (.tuple #[.slice none 0 0, .int .i64 k]) = .returned (.tuple #[v, .int .i64 (sharesG bond who gone).2]) ∧
      w.ownsRow w.heap.size 3 1 v (sharesG bond who gone).1.length ((sharesG bond who gone).1.map (.int .i64)) ∧ Below w.heap.size w w := by
    intro k e; rw [e]; exact ⟨_, rfl, World.ownsRow_nil _ _ _ _, Below.refl _ _⟩
  have NP := Lib.hid nil_post; clear nil_post
  by_cases ht' : rightB bond = false
  · have e := Lib.hid (shares_bad bond who gone ht')
    go_enter Try.func62, Try.ntmps62
    go_wp2_with (go_at_call 111; refine (right_any _ _).mono ?_; rintro e w' ⟨rfl, rfl⟩)
    go_ret2
    exact NP.out _ e.out
  have ht : rightB bond = true := by simpa using ht'
  clear ht'
  by_cases h8 : n < 2 ∨ 8 < n
  · have e := Lib.hid (shares_len bond who gone ht (by rw [HL.out]; exact h8))
    by_cases h2 : n < 2
    · have h2' : (n : Int) < 2 := by omega
      go_enter Try.func62, Try.ntmps62
      go_wp2_with (go_at_call 111; refine (right_any _ _).mono ?_; rintro e w' ⟨rfl, rfl⟩)
      go_ret2
      exact NP.out _ e.out
    · have h2' : ¬ (n : Int) < 2 := by omega
      have h3' : (8 : Int) < n := by omega
      go_enter Try.func62, Try.ntmps62
      go_wp2_with (go_at_call 111; refine (right_any _ _).mono ?_; rintro e w' ⟨rfl, rfl⟩)
      go_ret2
      exact NP.out _ e.out
  have h2' : (2 : Int) ≤ n := by omega
  have h3' : (n : Int) ≤ 8 := by omega
  by_cases hw : who < 0 ∨ (n : Int) ≤ who
  · have e := Lib.hid (shares_seat bond who gone ht (by rw [HL.out]; exact h8) (by rw [HL.out]; exact hw))
    rcases Int.lt_or_le who 0 with h0 | h0
    · go_enter Try.func62, Try.ntmps62
      go_wp2_with (go_at_call 111; refine (right_any _ _).mono ?_; rintro e w' ⟨rfl, rfl⟩)
      go_ret2
      exact NP.out _ e.out
    · have h1 : (n : Int) ≤ who := by omega
      have hd : decide (who < 0) = false := by simp; omega
      clear hw
      go_enter Try.func62, Try.ntmps62
      go_wp2_with (go_at_call 111; refine (right_any _ _).mono ?_; rintro e w' ⟨rfl, rfl⟩)
      go_ret2
      exact NP.out _ e.out
  have hw0 : 0 ≤ who := by omega
  have hw1 : who < n := by omega
  obtain ⟨i, rfl⟩ := Int.eq_ofNat_of_zero_le hw0
  have H8 := Lib.hid h8; have HW := Lib.hid hw; clear h8 hw
  have hmk := run_make_row' (P := Try.prog) 80 3 (.int .i64 0) 8 Try.underlying80 (by kernel_rfl) rfl .i64 .i64 n (by omega) (by omega)
  have hbk0 := Bk.new' w 3 (madeCells #[.int .i64 0] n) (xs := (List.replicate n (0 : Int)).map (.int .i64)) (by rw [toList_made, List.map_replicate])
  have hbl0 := below_new w (.cells (madeCells #[.int .i64 0] n) 3)
  have hin : i < n := by omega
  have hd2 : decide ((n : Int) < 2) = false := by simp; omega
  have hdi : decide ((i : Int) < 0) = false := by simp
  have hdn : decide (n ≤ i) = false := by simp; omega
  go_enter Try.func62, Try.ntmps62
  go_wp2_with (go_at_call 111; refine (right_any _ _).mono ?_; rintro e w' ⟨rfl, rfl⟩)
  generalize hw1' : w.alloc (.cells (madeCells #[.int .i64 0] n) 3) = w1 at *
  clear hw1'
  go_loopw [9, 36] (fun a ix wr => ∃ (k : Nat) (av : Bool) (xs : List Int), k ≤ n ∧ ix = .int .i64 k ∧ a = .bool av ∧ Bk wr w.heap.size 3 (xs.map (.int .i64)) ∧ Hid (xs.length = n) ∧ Below w.heap.size w wr ∧
      Hid (xs.drop k = (List.replicate n 0).drop k) ∧ Hid (xs.take k ++ wOf (eligG i k (gone.drop k)) = wOf (eligG i 0 gone)) ∧ Hid ((av && decide (cnt (eligG i k (gone.drop k)) = 0)) = decide (cnt (eligG i 0 gone) = 0))) (fun _ ix _ => n - (intOf ix).toNat)
  case atStart => exact ⟨0, true, _, Nat.zero_le _, rfl, rfl, hbk0, by simp [Hid], hbl0, rfl, by simp [Hid], by simp [Hid]⟩
  case round =>
    clear hbk0 hbl0
    obtain ⟨k, av, xs, hk, rfl, rfl, hbk, hxl, hbl, hxd, hxt, hav⟩ := hrel
    by_cases hlt : k < n
    · obtain ⟨ad, g, rfl, hb, hz', hc⟩ := (H.out.below hbl).atg hlt
      have HZ := Lib.hid hz'; clear hz'
      have hx0 : (List.replicate n (0 : Int))[k]? = some 0 := by simp [hlt]
      have hxm := drop_getElem hxd.out hx0
      have hst : wr.cell? ⟨w.heap.size, k, none⟩ = some (.int .i64 0) := by rw [hbk.cell]; simp [hxm]
      have hfr := hbk.frozen k
      have HXM := Lib.hid hxm; clear hxm hx0
      have hxd' := drop_step hxd.out
      have HXD := Lib.hid hxd'; clear hxd'
      have e1 := hxt.out
      have e2 := hav.out
      rw [drop_cons HZ.out, elig_cons] at e1 e2
      have HT := Lib.hid e1; have HA := Lib.hid e2; clear e1 e2
      by_cases hki : k = i
      · subst hki
        have hne : ((k : Int) != (k : Int)) = false := by simp
        go_wp2_with fail
        go_roundw
        case rel =>
          refine ⟨k + 1, av, xs, by omega, by go_num, rfl, hbk, hxl, hbl, HXD, ?_, ?_⟩
          · show _ = _
            rw [← HT.out, take_snoc HXM.out]; simp [wOf]
          · show _ = _
            rw [← HA.out]; simp [cnt]
        case measure => simp [intOf]; omega
      · have hne : ((k : Int) != (i : Int)) = true := by simp; omega
        have hne' : ((k : Int) == (i : Int)) = false := by simp; omega
        rw [hne'] at HT HA
        cases g
        · go_wp2_with fail
          go_roundw
          case rel =>
            refine ⟨k + 1, false, xs.set k 1, by omega, by go_num, rfl, ?_, ?_, hbl.setCell (Nat.le_refl _) _, ?_, ?_, ?_⟩
            · rw [List.map_set]; exact hbk.set_ k _
            · have := hxl.out; simpa [Hid] using this
            · have := HXD.out; simpa [Hid, List.drop_set] using this
            · show _ = _
              rw [← HT.out, take_snoc (z := (1 : Int)) (by rw [List.getElem?_set]; simp [hxl.out, hlt]), List.take_set_of_le (Nat.le_refl _)]; simp [wOf]
            · show _ = _
              rw [← HA.out]; have := cnt_nonneg (eligG i (k + 1) (gone.drop (k + 1))); simp [cnt]; omega
          case measure => simp [intOf]; omega
        · go_wp2_with fail
          go_roundw
          case rel =>
            refine ⟨k + 1, av, xs, by omega, by go_num, rfl, hbk, hxl, hbl, HXD, ?_, ?_⟩
            · show _ = _
              rw [← HT.out, take_snoc HXM.out]; simp [wOf]
            · show _ = _
              rw [← HA.out]; simp [cnt]
          case measure => simp [intOf]; omega
    · obtain rfl : k = n := by omega
      have e1 := hxt.out
      have e2 := hav.out
      rw [List.drop_eq_nil_of_le (by rw [HL.out]; exact Nat.le_refl _)] at e1 e2
      rw [List.take_of_length_le (by rw [hxl.out]; exact Nat.le_refl _)] at e1
      have e1' : xs = wOf (eligG i 0 gone) := by rw [← e1]; simp [eligG, wOf]
      have e2' : av = decide (cnt (eligG i 0 gone) = 0) := by rw [← e2]; simp [eligG, cnt]
      subst e1'
      clear e1 e2 hxt hav hxd
      have hgl := HL.out
      have hel := elig_len i gone 0
      obtain ⟨els, hels⟩ : ∃ els, eligG i 0 gone = els := ⟨_, rfl⟩
      rw [hels] at hbk e2' hel
      by_cases h0 : cnt els = 0
      · have hav : av = true := by rw [e2']; simp [h0]
        subst hav
        have hrep := wOf_zero els h0
        rw [hel, hgl] at hrep
        rw [hrep] at hbk
        have hst : wr.cell? ⟨w.heap.size, i, none⟩ = some (.int .i64 0) := by rw [hbk.cell]; simp [hin]
        have hfr := hbk.frozen i
        have hb2 := hbk.set_ i (.int .i64 1)
        rw [← List.map_set] at hb2
        have hbl2 := hbl.setCell (p := ⟨w.heap.size, i, none⟩) (Nat.le_refl _) (.int .i64 1)
        have HS := Lib.hid (split_alone bond k i ht (by omega) hin)
        have HX := Lib.hid (shares_alone bond i gone ht (by rw [hgl]; exact H8.out) (by rw [hgl]; exact HW.out) (by rw [hels]; exact h0))
        have HGL := Lib.hid hgl; clear hgl hel hrep h0 e2' hels
        have hsl := hb2.sl (size := 1) (n := k) (ys := ((List.replicate k (0 : Int)).set i 1).map (.int .i64)) (by simp) hn (fun _ _ h => h)
        go_wp2_with fail
        refine (split_any _ _ _ _ _ _ hsl).mono ?_
        rintro e w2 ⟨v, rfl, hown, hbl3⟩
        rw [HS.out] at hown ⊢
        go_wp2_with fail
        go_ret2
        go_light
        rw [HX.out, HGL.out]
        exact ⟨v, rfl, own_base hown hbl2.size, hbl2.trans (hbl3.mono hbl2.size)⟩
      · have hav : av = false := by rw [e2']; simp [h0]
        subst hav
        have HS := Lib.hid (split_elig bond els ht (by omega) h0)
        have HX := Lib.hid (shares_some bond i gone ht (by rw [hgl]; exact H8.out) (by rw [hgl]; exact HW.out) (by rw [hels]; exact h0))
        rw [hels] at HX
        have hwl : (wOf els).length = k := by simp [wOf]; omega
        have hsl := hbk.sl (size := 1) (n := k) (ys := (wOf els).map (.int .i64)) (by simp [hwl]) hn (fun _ _ h => h)
        clear hgl hel h0 e2' hels hwl
        go_wp2_with fail
        refine (split_any _ _ _ _ _ _ hsl).mono ?_
        rintro e w2 ⟨v, rfl, hown, hbl3⟩
        rw [HS.out] at hown ⊢
        go_wp2_with fail
        go_ret2
        go_light
        rw [HX.out]
        exact ⟨v, rfl, own_base hown hbl.size, hbl.trans (hbl3.mono hbl.size)⟩
end Go.Proofs.Ythibihjblodfmaa
