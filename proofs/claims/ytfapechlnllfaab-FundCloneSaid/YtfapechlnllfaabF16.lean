/- The document's fund (baizeref31): New. -/
import Derived.Test.YtfapechlnllfaabF15
import Derived.Deep.DeepCutAuto
import Derived.Deep.RegionHeld3
namespace Go.Proofs.Ytfapechlnllfaab
open Go.RowKit

def badB (l : List Int) : Bool := l.any fun z => !rightB z || z == 0
theorem badB_of {l : List Int} (b : Int) (h2 : 2 ≤ l.length) (h8 : l.length ≤ 8) (h : badB l = true) : newE l b = 2 := by
  unfold newE
  rw [if_neg (by omega)]
  by_cases hz : zeroB l = true
  · rw [if_pos hz]
  rw [if_neg hz]
  by_cases hs : (sumG 0 l).2 = 0
  · exfalso
    have hr := (sumG_ok l 0 hs (by decide)).1
    simp only [badB, List.any_eq_true, Bool.or_eq_true, Bool.not_eq_true'] at h
    obtain ⟨x, hx, h1 | h1⟩ := h
    · rw [hr x hx] at h1; cases h1
    · exact hz (List.any_eq_true.2 ⟨x, hx, h1⟩)
  · rw [if_pos hs]
theorem badB_not {l : List Int} (h : badB l = false) : zeroB l = false := by
  simp [badB, zeroB] at h ⊢
  exact fun x hx e => (h x hx).2 e
theorem badB_ok {l : List Int} {b : Int} (h : newE l b = 0) : badB l = false := by
  cases hb : badB l
  · rfl
  · exfalso
    by_cases hn : l.length < 2 ∨ 8 < l.length
    · unfold newE at h; rw [if_pos hn] at h; cases h
    · rw [badB_of b (by omega) (by omega) hb] at h; cases h

theorem rnew_bad (A : Option Addr) (n c : Nat) (zs : List Int) (b : Int) (w : World) (h : Sl w w.heap.size 1 A n (zs.map (.int .i64))) (hne : newE zs b ≠ 0) :
    Calls Try.prog 21 #[.slice A n c, .int .i64 b] w fun e w' =>
      e = .returned (.tuple #[.agg #[.slice none 0 0, .slice none 0 0, .int .i64 0], .int .i64 (newE zs b)]) ∧ Below w.heap.size w w' := by
  have hn := h.le
  have hl := h.length
  obtain ⟨w1, hw1⟩ : ∃ w1, w.alloc (.cells #[.slice none 0 0, .slice none 0 0, .int .i64 0] 47) = w1 := ⟨_, rfl⟩
  have hb1 : Below w.heap.size w w1 := hw1 ▸ below_new _ _
  have hk1 : Bk w1 w.heap.size 47 [.slice none 0 0, .slice none 0 0, .int .i64 0] := hw1 ▸ Bk.new w _ #[.slice none 0 0, .slice none 0 0, .int .i64 0]
  have hs1 := h.later hb1
  have hlt := hk1.lt
  obtain ⟨b0, b1, b2, bf⟩ := three_cells hk1
  have HW := Lib.hid hw1; have HB := Lib.hid hb1; have HS := Lib.hid hs1; have HL := Lib.hid hl
  have hfin : Below w.heap.size w (((w1.setCell ⟨w.heap.size, 0, none⟩ (.slice none 0 0)).setCell ⟨w.heap.size, 1, none⟩ (.slice none 0 0)).setCell ⟨w.heap.size, 2, none⟩ (.int .i64 0)) :=
    ((hb1.setCell (Nat.le_refl _) _).setCell (Nat.le_refl _) _).setCell (Nat.le_refl _) _
  have HF := Lib.hid hfin
  clear h hw1 hb1 hk1 hs1 hl hfin
  by_cases h2 : n < 2
  · have HE := Lib.hid (show newE zs b = 1 by unfold newE; rw [HL.out, if_pos (.inl h2)])
    have h2' : (n : Int) < 2 := by omega
    clear hne
    go_enter Try.func21, Try.ntmps21
    go_wp2_with fail
    refine bodyPost_ret (v := .tuple #[.agg #[.slice none 0 0, .slice none 0 0, .int .i64 0], .int .i64 1]) (by simp [results, Try.results21, go_sem]) rfl ?_
    exact ⟨by rw [HE.out], by repeat (first | exact Below.refl _ _ | refine Below.setCell ?_ (by simp) _ | refine Below.alloc ?_ (by simp) _)⟩
  by_cases h8 : 8 < n
  · have HE := Lib.hid (show newE zs b = 1 by unfold newE; rw [HL.out, if_pos (.inr h8)])
    have h2' : decide ((n : Int) < 2) = false := by simp; omega
    have h8' : (8 : Int) < n := by omega
    clear hne
    go_enter Try.func21, Try.ntmps21
    go_wp2_with fail
    refine bodyPost_ret (v := .tuple #[.agg #[.slice none 0 0, .slice none 0 0, .int .i64 0], .int .i64 1]) (by simp [results, Try.results21, go_sem]) rfl ?_
    exact ⟨by rw [HE.out], by repeat (first | exact Below.refl _ _ | refine Below.setCell ?_ (by simp) _ | refine Below.alloc ?_ (by simp) _)⟩
  have hd2 : decide ((n : Int) < 2) = false := by simp; omega
  have hd8 : decide ((8 : Int) < n) = false := by simp; omega
  have HE : Hid (badB zs = true → newE zs b = 2) := fun hb => badB_of b (by rw [HL.out]; omega) (by rw [HL.out]; omega) hb
  have HE2 : Hid (badB zs = false → newE zs b = 2 ∧ ((sumG 0 zs).2 = 0 → b < 0 ∨ 1099511627776 < b)) := fun hb => by
    have hz := badB_not hb
    unfold newE at hne ⊢
    have hl := HL.out
    rw [if_neg (by omega), if_neg (by simp [hz])] at hne ⊢
    by_cases hs : (sumG 0 zs).2 = 0
    · rw [if_neg (by simp [hs])] at hne ⊢
      by_cases hb' : b < 0 ∨ 1099511627776 < b
      · rw [if_pos hb']; exact ⟨rfl, fun _ => hb'⟩
      · rw [if_neg hb'] at hne; exact absurd rfl hne
    · rw [if_pos hs]; exact ⟨rfl, fun h => absurd h hs⟩
  clear hne h2 h8
  go_enter Try.func21, Try.ntmps21
  go_wp2_with fail
  rw [HW.out]
  go_loop [6] (fun i => ∃ (k : Nat), k ≤ n ∧ i = .int .i64 k ∧ Hid (badB (zs.drop k) = badB zs)) (fun i => n - (intOf i).toNat)
  case atStart => exact ⟨0, Nat.zero_le _, rfl, rfl⟩
  case round =>
    obtain ⟨k, hk, rfl, hs⟩ := hrel
    by_cases hlt : k < n
    · obtain ⟨ad, z, rfl, hb, hz, hc⟩ := HS.out.at_ hlt
      have e1 := hs.out; rw [drop_cons hz] at e1
      have E1 := Lib.hid e1; clear e1 hz
      by_cases hr : rightB z = true
      · by_cases hz0 : z = 0
        · subst hz0
          have HE9 := Lib.hid (HE.out (by rw [← E1.out]; simp [badB]))
          clear hr
          go_wp2_with (go_at_call 30; refine (rright_any _ _).mono ?_; rintro e w' ⟨rfl, rfl⟩; rw [show rightB 0 = true by decide])
          refine bodyPost_ret (v := .tuple #[.agg #[.slice none 0 0, .slice none 0 0, .int .i64 0], .int .i64 2]) (by simp [results, Try.results21, go_sem, b0, b1, b2]) rfl ?_
          exact ⟨by rw [HE9.out], HF.out⟩
        · have hz0' : (z == 0) = false := by simp [hz0]
          have E2 : Hid (badB (zs.drop (k + 1)) = badB zs) := by
            show _ = _
            rw [← E1.out]; simp [badB, hr, hz0]
          have HR := Lib.hid hr
          clear E1 hr
          go_wp2_with (go_at_call 30; refine (rright_any _ _).mono ?_; rintro e w' ⟨rfl, rfl⟩; rw [HR.out])
          go_round
          case rel => exact ⟨k + 1, by omega, by go_num, E2⟩
          case measure => simp [intOf]; omega
      · have hr' : rightB z = false := by simpa using hr
        have HE9 := Lib.hid (HE.out (by rw [← E1.out]; simp [badB, hr']))
        have HR := Lib.hid hr'
        clear hr hr'
        go_wp2_with (go_at_call 30; refine (rright_any _ _).mono ?_; rintro e w' ⟨rfl, rfl⟩; rw [HR.out])
        refine bodyPost_ret (v := .tuple #[.agg #[.slice none 0 0, .slice none 0 0, .int .i64 0], .int .i64 2]) (by simp [results, Try.results21, go_sem, b0, b1, b2]) rfl ?_
        exact ⟨by rw [HE9.out], HF.out⟩
    · have e1 := hs.out
      rw [List.drop_eq_nil_of_le (by have := HL.out; omega)] at e1
      obtain ⟨hE2, hbb⟩ := HE2.out (by rw [← e1]; rfl)
      have HE9 := Lib.hid hE2
      clear e1 hs hE2
      by_cases hsum : (sumG 0 zs).2 = 0
      · have HSU := Lib.hid hsum
        have hcase : b < 0 ∨ decide (b < 0) = false ∧ 1099511627776 < b := by
          rcases hbb hsum with h | h
          · exact .inl h
          · exact .inr ⟨by simp; omega, h⟩
        clear hbb hsum
        rcases hcase with h0 | ⟨h0, h1⟩
        all_goals
          go_wp2_with (go_at_call 25; refine (rsum_any _ _ _ _ _ HS.out).mono ?_; rintro e w' ⟨rfl, rfl⟩; rw [HSU.out])
          refine bodyPost_ret (v := .tuple #[.agg #[.slice none 0 0, .slice none 0 0, .int .i64 0], .int .i64 2]) (by simp [results, Try.results21, go_sem, b0, b1, b2]) rfl ?_
          exact ⟨by rw [HE9.out], HF.out⟩
      · have HSU : Hid ((sumG 0 zs).2 = 2) := by have := sumG_bad zs 0; show _ = _; omega
        clear hbb hsum
        go_wp2_with (go_at_call 25; refine (rsum_any _ _ _ _ _ HS.out).mono ?_; rintro e w' ⟨rfl, rfl⟩; rw [HSU.out])
        refine bodyPost_ret (v := .tuple #[.agg #[.slice none 0 0, .slice none 0 0, .int .i64 0], .int .i64 2]) (by simp [results, Try.results21, go_sem, b0, b1, b2]) rfl ?_
        exact ⟨by rw [HE9.out], HF.out⟩
end Go.Proofs.Ytfapechlnllfaab
