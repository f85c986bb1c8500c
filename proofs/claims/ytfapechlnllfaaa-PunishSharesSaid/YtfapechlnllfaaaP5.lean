/- The law PunishShares, walked. -/
import Derived.Test.YtfapechlnllfaaaP4
namespace Go.Proofs.Ytfapechlnllfaaa
open Go.RowKit

theorem ptG_cons {q who : Int} {i : Nat} {g : Bool} {l : List Bool} {x : Int} {L : List Int} (h : ptG q who i (g :: l) (x :: L)) :
    0 ≤ x ∧ x ≤ 1125899906842625 ∧ (¬ (i : Int) = who → (g = true → x = 0) ∧ (g = false → q ≤ x ∧ x ≤ q + 1)) ∧ ptG q who (i + 1) l L := by
  simp only [ptG] at h; exact ⟨h.1.1, h.1.2, h.2.1, h.2.2⟩

set_option maxHeartbeats 1000000 in
theorem law_PunishShares (bond who : Int) (A : Option Addr) (n c : Nat) (gone : List Bool) (w : World) (h : Sl w w.heap.size 1 A n (gone.map .bool)) :
    Calls Try.prog 3 #[.int .i64 bond, .int .i64 who, .slice A n c] w fun e w' => e = .returned (.bool true) ∧ Below w.heap.size w w' := by
  have hn := h.le
  have HL := Lib.hid h.length
  have H := Lib.hid h; clear h
  by_cases h20 : (20 : Int) < n
  · go_enter Try.func3, Try.ntmps3
    go_wp2_with fail
    refine (pknown_any _).mono ?_
    rintro e w1 ⟨rfl, hb1⟩
    go_wp2_with fail
    refine (pknown_any _).mono ?_
    rintro e w2 ⟨rfl, hb2⟩
    go_wp2_with fail
    go_ret
    exact ⟨rfl, below_then hb1 hb2⟩
  go_enter Try.func3, Try.ntmps3
  go_wp2_with fail
  refine (pknown_any _).mono ?_
  rintro e w1 ⟨rfl, hb1⟩
  have s1 := H.out.later hb1
  go_wp2_with fail
  refine (shares_any _ _ _ _ _ _ _ s1).mono ?_
  rintro e w2 ⟨v2, rfl, hown2, hb2⟩
  obtain ⟨A2, c2, rfl⟩ := own_form hown2
  have s2 := s1.later hb2
  go_wp2_with fail
  refine (rshares_any _ _ _ _ _ _ _ s2).mono ?_
  rintro e w3 ⟨v3, rfl, hown3, hb3⟩
  obtain ⟨A3, c3, rfl⟩ := own_form hown3
  have s3 := s2.later hb3
  have hl3 := (Sl.of_own hown2).later hb3
  go_wp2_with fail
  refine (ints_any _ _ _ _ _ _ _ _ _ hl3 (Sl.of_own hown3)).mono ?_
  rintro e w4' ⟨rfl, q4, rfl⟩
  rw [eqL_self]
  have hb4 : Below w3.heap.size w3 (w3.drewN q4) := below_draws _ _ _
  have s4 := s3.later hb4
  have hl4 := hl3.later hb4
  generalize w3.drewN q4 = w4 at *
  have hbl := below_then hb1 (below_then hb2 (below_then hb3 hb4))
  clear hb1 hb2 hb3 hb4 s1 s2 s3 hl3 hown2 hown3
  obtain ⟨L, E, hLE⟩ : ∃ L E, sharesG bond who gone = (L, E) := ⟨_, _, rfl⟩
  have hlaw := shares_law bond who gone
  rw [hLE] at hlaw hl4 ⊢
  simp only [] at hlaw hl4 ⊢
  have HS := Lib.hid hl4; clear hl4
  have HS4 := Lib.hid s4; clear s4
  by_cases hE : E = 0
  · subst hE
    obtain ⟨hr, hw0, hw1, h8, hLl, hsum, q, hq0, hq1, hpt⟩ := hlaw rfl
    obtain ⟨b0, b1⟩ := right_of hr
    have hm : L.length = n := hLl.trans HL.out
    rw [hm] at HS ⊢
    rw [HL.out] at h8 hw1
    have HM := Lib.hid hm; have HSU := Lib.hid hsum; have HPT := Lib.hid hpt
    clear hm hsum hpt hLl hlaw hLE hr
    go_wp2_with fail
    go_loop [11, 12, 13, 50] (fun s a b i => ∃ (k : Nat) (sv lv mv : Int), k ≤ n ∧ i = .int .i64 k ∧ s = .int .i64 sv ∧ a = .int .i64 lv ∧ b = .int .i64 mv ∧ 0 ≤ sv ∧ sv ≤ 2251799813685248 * k ∧ q ≤ lv ∧ lv ≤ bond ∧ 0 ≤ mv ∧ mv ≤ q + 1 ∧
        Hid (sv + sumL (L.drop k) = bond) ∧ Hid (ptG q who k (gone.drop k) (L.drop k))) (fun _ _ _ i => n - (intOf i).toNat)
    case atStart => exact ⟨0, 0, bond, 0, Nat.zero_le _, rfl, rfl, rfl, rfl, by omega, by omega, hq1, by omega, by omega, by omega, by have := HSU.out; simpa [Hid] using this, HPT⟩
    case round =>
      obtain ⟨k, sv, lv, mv, hk, rfl, rfl, rfl, rfl, hs0, hs1, hl0, hl1, hm0, hm1, hs, hp⟩ := hrel
      by_cases hlt : k < n
      · obtain ⟨ad, x, rfl, hb, hz, hc⟩ := HS.out.at_ hlt
        obtain ⟨ad', g, rfl, hb', hz', hc'⟩ := HS4.out.atg hlt
        have e1 := hs.out
        have e2 := hp.out
        rw [drop_cons hz] at e1 e2
        rw [drop_cons hz'] at e2
        obtain ⟨hx0, hx1, hx2, e3⟩ := ptG_cons e2
        simp only [sumL] at e1
        have E1 := Lib.hid e1; have E3 := Lib.hid e3
        clear e1 e2 e3 hz hz' hs hp
        by_cases hkw : (k : Int) = who
        · subst hkw
          have hne : ((k : Int) != (k : Int)) = false := by simp
          clear hx2
          go_wp2_with fail
          go_round
          case rel => exact ⟨k + 1, sv + x, lv, mv, by omega, by go_num, rfl, rfl, rfl, by omega, by omega, hl0, hl1, hm0, hm1, by have := E1.out; show _ = _; omega, E3⟩
          case measure => simp [intOf]; omega
        · have hne : ((k : Int) != who) = true := by simp; omega
          obtain ⟨hx2, hx3⟩ := hx2 hkw
          clear hkw
          cases g
          · obtain ⟨hx4, hx5⟩ := hx3 rfl
            clear hx2 hx3
            go_wp2_with fail
            all_goals
              go_round
              case rel => exact ⟨k + 1, sv + x, _, _, by omega, by go_num, rfl, rfl, rfl, by omega, by omega, by (try split) <;> omega, by (try split) <;> omega, by (try split) <;> omega, by (try split) <;> omega, by have := E1.out; show _ = _; omega, E3⟩
              case measure => simp [intOf]; omega
          · obtain rfl : x = 0 := hx2 rfl
            clear hx2 hx3
            have hz0 : ((0 : Int) != 0) = false := by simp
            go_wp2_with fail
            go_round
            case rel => exact ⟨k + 1, sv, lv, mv, by omega, by go_num, rfl, rfl, rfl, by omega, by omega, hl0, hl1, hm0, hm1, by have := E1.out; show _ = _; omega, E3⟩
            case measure => simp [intOf]; omega
      · obtain rfl : k = n := by omega
        have e1 := hs.out
        rw [List.drop_eq_nil_of_le (by rw [HM.out]; exact Nat.le_refl _)] at e1
        simp only [sumL, Int.add_zero] at e1
        subst e1
        have hse : (sv == sv) = true := by simp
        have hmm : mv - lv ≤ 1 := by omega
        go_wp2_with fail
        go_ret
        exact ⟨rfl, hbl⟩
  · have hL : L = [] := by
      unfold sharesG at hLE
      split at hLE
      · cases hLE; rfl
      · split at hLE
        · cases hLE; rfl
        · split at hLE
          · cases hLE; rfl
          · split at hLE <;> (cases hLE; exact absurd rfl hE)
    subst hL
    have hE' : (E != 0) = true := by simpa using hE
    clear hlaw hLE hE
    go_wp2_with fail
    go_loop [50] (fun i => i = .int .i64 0) (fun _ => 0)
    case atStart => rfl
    case round =>
      subst hrel
      go_wp2_with fail
      go_ret
      exact ⟨rfl, hbl⟩

theorem law_PunishShares' (bond who : Int) (A : Option Addr) (n c : Nat) (gone : List Bool) (w : World) (_ : (Lit.int .i64 bond).wf = true) (_ : (Lit.int .i64 who).wf = true) (h : Sl w w.heap.size 1 A n (gone.map .bool)) :
    Calls Try.prog 3 #[.int .i64 bond, .int .i64 who, .slice A n c] w fun e w' => e = .returned (.bool true) ∧ Below w.heap.size w w' := law_PunishShares bond who A n c gone w h
end Go.Proofs.Ytfapechlnllfaaa
