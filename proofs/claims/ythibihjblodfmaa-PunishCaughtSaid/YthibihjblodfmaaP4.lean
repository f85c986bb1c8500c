/- baizeref34.Ints, the chapter's example (known), and the law PunishShares. -/
import Derived.Test.YthibihjblodfmaaP3
namespace Go.Proofs.Ythibihjblodfmaa
open Go.RowKit

theorem ints_any (A B : Option Addr) (n c m d : Nat) (xs ys : List Int) (w : World) (h : Sl w w.heap.size 1 A n (xs.map (.int .i64))) (h' : Sl w w.heap.size 1 B m (ys.map (.int .i64))) :
    Calls Try.prog 63 #[.slice A n c, .slice B m d] w fun e w' => e = .returned (.bool (eqL xs ys)) ∧ ∃ q, w' = w.drewN q := by
  have hn := h.le
  have hm := h'.le
  have HL := Lib.hid h.length
  have HL' := Lib.hid h'.length
  have H := Lib.hid h; clear h
  have H' := Lib.hid h'; clear h'
  go_enter Try.func63, Try.ntmps63
  by_cases hnm : n = m
  · subst hnm
    go_wp2_with fail
    go_loopw [5] (fun i wr => ∃ k q : Nat, k ≤ n ∧ i = .int .i64 k ∧ wr = w.drewN q ∧ Hid (eqL (xs.drop k) (ys.drop k) = eqL xs ys)) (fun i _ => n - (intOf i).toNat)
    case atStart => exact ⟨0, 0, Nat.zero_le _, rfl, rfl, rfl⟩
    case round =>
      obtain ⟨k, q, hk, rfl, rfl, hs⟩ := hrel
      by_cases hlt : k < n
      · obtain ⟨ad, z, rfl, hb, hz, hc⟩ := H.out.at_ hlt
        obtain ⟨ad', z', rfl, hb', hz', hc'⟩ := H'.out.at_ hlt
        have HZ := Lib.hid hz; clear hz
        have HZ' := Lib.hid hz'; clear hz'
        have hkn : (k : Int) < n := by omega
        go_wp2_with fail
        go_quiet (fail)
        go_wp2_with fail
        · go_ret
          go_light
          have e1 := hs.out; rw [drop_cons HZ.out, drop_cons HZ'.out] at e1
          exact ⟨by rw [← e1]; clear e1 hs; simp_all [eqL], q + nq, by first | rfl | exact World.drewN_drewN _ _ _⟩
        · go_roundw
          case rel =>
            have e1 := hs.out; rw [drop_cons HZ.out, drop_cons HZ'.out] at e1
            exact ⟨k + 1, q + nq, by omega, by go_num, by first | rfl | exact World.drewN_drewN _ _ _, by show _ = _; rw [← e1]; clear e1 hs; simp_all [eqL]⟩
          case measure => simp [intOf]; omega
      · go_wp2_with fail
        go_ret
        go_light
        have e1 := hs.out
        rw [List.drop_eq_nil_of_le (by have := HL.out; omega), List.drop_eq_nil_of_le (by have := HL'.out; omega)] at e1
        exact ⟨by rw [← e1]; simp [eqL], _, rfl⟩
  · have hne : ((n : Int) != m) = true := by simp; omega
    go_wp2_with fail
    go_ret
    have : eqL xs ys = false := by simp [eqL]; rintro rfl; have := HL.out; have := HL'.out; omega
    exact ⟨by rw [this]; simp, 0, rfl⟩

theorem shares_t (bond who : Int) (gone : List Bool) (out : List Int) (n : Nat) (hs : sharesG bond who gone = (out, 0)) (hn : out.length = n) (A : Option Addr) (m c : Nat) (w : World) (h : Sl w w.heap.size 1 A m (gone.map .bool)) :
    Calls Try.prog 62 #[.int .i64 bond, .int .i64 who, .slice A m c] w fun e w' => ∃ v, e = .returned (.tuple #[v, .int .i64 0]) ∧
      w'.ownsRow w.heap.size 3 1 v n (out.map (.int .i64)) ∧ Below w.heap.size w w' := by
  have := shares_any bond who A m c gone w h
  rw [hs] at this
  rw [← hn]
  exact this

set_option maxHeartbeats 1000000 in
theorem pknown_any (w : World) : Calls Try.prog 16 #[] w fun e w' => e = .returned (.bool true) ∧ Below w.heap.size w w' := by
  go_enter Try.func16, Try.ntmps16
  go_wp2_with fail
  refine (shares_t 7 1 [false, false, false] [4, 0, 3] 3 (by decide) rfl _ _ _ _ (sl_new w #[.bool false, .bool false, .bool false] 4 1 3 rfl (by omega))).mono ?_
  rintro e w1 ⟨v1, rfl, hown1, hbl1⟩
  have hb1 : Below w.heap.size w w1 := below_then (below_new _ _) hbl1
  obtain ⟨g1, cap1, rfl, hgb1, hglt1⟩ := hown1.form (by omega)
  go_wp2_with fail
  refine (shares_t 7 1 [true, false, false] [0, 0, 7] 3 (by decide) rfl _ _ _ _ (sl_new w1 #[.bool true, .bool false, .bool false] 4 1 3 rfl (by omega))).mono ?_
  rintro e w2 ⟨v2, rfl, hown2, hbl2⟩
  have hb2 : Below w1.heap.size w1 w2 := below_then (below_new _ _) hbl2
  obtain ⟨g2, cap2, rfl, hgb2, hglt2⟩ := hown2.form (by omega)
  go_wp2_with fail
  refine (shares_t 7 1 [true, false, true] [0, 7, 0] 3 (by decide) rfl _ _ _ _ (sl_new w2 #[.bool true, .bool false, .bool true] 4 1 3 rfl (by omega))).mono ?_
  rintro e w3 ⟨v3, rfl, hown3, hbl3⟩
  have hb3 : Below w2.heap.size w2 w3 := below_then (below_new _ _) hbl3
  obtain ⟨g3, cap3, rfl, hgb3, hglt3⟩ := hown3.form (by omega)
  go_wp2_with fail
  have s1 := (((Sl.of_own hown1).later hb2).later hb3).later (below_new w3 (.cells #[.int .i64 4, .int .i64 0, .int .i64 3] 3))
  refine (ints_any _ _ _ _ _ _ [4, 0, 3] [4, 0, 3] _ s1 (sl_new w3 #[.int .i64 4, .int .i64 0, .int .i64 3] 3 1 3 rfl (by omega))).mono ?_
  rintro e w4' ⟨rfl, q4, rfl⟩
  rw [eqL_self]
  have hb4 : Below w3.heap.size w3 ((w3.alloc (.cells #[.int .i64 4, .int .i64 0, .int .i64 3] 3)).drewN q4) := below_then (below_new _ _) (below_draws _ _ _)
  generalize (w3.alloc (.cells #[.int .i64 4, .int .i64 0, .int .i64 3] 3)).drewN q4 = w4 at hb4 ⊢
  go_wp2_with fail
  have s2 := (((Sl.of_own hown2).later hb3).later hb4).later (below_new w4 (.cells #[.int .i64 0, .int .i64 0, .int .i64 7] 3))
  refine (ints_any _ _ _ _ _ _ [0, 0, 7] [0, 0, 7] _ s2 (sl_new w4 #[.int .i64 0, .int .i64 0, .int .i64 7] 3 1 3 rfl (by omega))).mono ?_
  rintro e w5' ⟨rfl, q5, rfl⟩
  rw [eqL_self]
  have hb5 : Below w4.heap.size w4 ((w4.alloc (.cells #[.int .i64 0, .int .i64 0, .int .i64 7] 3)).drewN q5) := below_then (below_new _ _) (below_draws _ _ _)
  generalize (w4.alloc (.cells #[.int .i64 0, .int .i64 0, .int .i64 7] 3)).drewN q5 = w5 at hb5 ⊢
  go_wp2_with fail
  have s3 := (((Sl.of_own hown3).later hb4).later hb5).later (below_new w5 (.cells #[.int .i64 0, .int .i64 7, .int .i64 0] 3))
  refine (ints_any _ _ _ _ _ _ [0, 7, 0] [0, 7, 0] _ s3 (sl_new w5 #[.int .i64 0, .int .i64 7, .int .i64 0] 3 1 3 rfl (by omega))).mono ?_
  rintro e w6' ⟨rfl, q6, rfl⟩
  rw [eqL_self]
  have hb6 : Below w5.heap.size w5 ((w5.alloc (.cells #[.int .i64 0, .int .i64 7, .int .i64 0] 3)).drewN q6) := below_then (below_new _ _) (below_draws _ _ _)
  go_wp2_with fail
  go_ret
  exact ⟨rfl, below_then hb1 (below_then hb2 (below_then hb3 (below_then hb4 (below_then hb5 hb6))))⟩

/-! ### What the law asks of the list -/
def ptG (q who : Int) : Nat → List Bool → List Int → Prop
  | _, [], [] => True
  | i, g :: l, x :: L => (0 ≤ x ∧ x ≤ 1125899906842625) ∧ (¬ (i : Int) = who → (g = true → x = 0) ∧ (g = false → q ≤ x ∧ x ≤ q + 1)) ∧ ptG q who (i + 1) l L
  | _, _, _ => False
theorem pt_sh (q who : Int) (hq0 : 0 ≤ q) (hq : q ≤ 1125899906842624) : ∀ (l : List Bool) (i : Nat) (m : Int), ptG q who i l (shG q m (eligG who i l))
  | [], _, _ => by simp [eligG, shG, ptG]
  | g :: l, i, m => by
    have ih := pt_sh q who hq0 hq l (i + 1)
    by_cases hi : (i : Int) = who
    · simp only [eligG, hi, beq_self_eq_true, Bool.not_true, Bool.false_and, shG, ptG]
      exact ⟨by omega, by simp, ih m⟩
    · have hb : ((i : Int) == who) = false := by simpa using hi
      simp only [eligG, hb, Bool.not_false, Bool.true_and]
      cases g
      · simp only [Bool.not_false, shG, ptG]
        exact ⟨by split <;> omega, fun _ => ⟨by simp, fun _ => by split <;> omega⟩, ih _⟩
      · simp only [Bool.not_true, shG, ptG]
        exact ⟨by omega, by simp, ih m⟩
theorem pt_zero (who : Int) : ∀ (l : List Bool) (i : Nat), cnt (eligG who i l) = 0 → (who < i) → ptG 0 who i l (List.replicate l.length 0)
  | [], _, _, _ => by simp [ptG]
  | g :: l, i, h, hi => by
    have hb : ((i : Int) == who) = false := by simp; omega
    simp only [eligG, hb, Bool.not_false, Bool.true_and, cnt] at h
    have hc := cnt_nonneg (eligG who (i + 1) l)
    simp only [List.length_cons, List.replicate_succ, ptG]
    exact ⟨by omega, by simp, pt_zero who l (i + 1) (by cases g <;> simp at h <;> omega) (by omega)⟩
theorem pt_alone (bond : Int) (hb0 : 0 ≤ bond) (hb1 : bond ≤ 1125899906842624) (who : Nat) : ∀ (l : List Bool) (i : Nat), cnt (eligG who i l) = 0 → i ≤ who → who < i + l.length → ptG 0 who i l ((List.replicate l.length 0).set (who - i) bond)
  | [], i, _, h1, h2 => by simp at h2; omega
  | g :: l, i, h, h1, h2 => by
    have hc := cnt_nonneg (eligG who (i + 1) l)
    by_cases hi : i = who
    · subst hi
      simp only [eligG, beq_self_eq_true, Bool.not_true, Bool.false_and, cnt] at h
      simp only [Nat.sub_self, List.length_cons, List.replicate_succ, List.set_cons_zero, ptG]
      exact ⟨by omega, by simp, pt_zero _ l (i + 1) (by simpa using h) (by omega)⟩
    · have hb : ((i : Int) == (who : Int)) = false := by simp; omega
      simp only [eligG, hb, Bool.not_false, Bool.true_and, cnt] at h
      have e : who - i = (who - (i + 1)) + 1 := by omega
      rw [e]
      simp only [List.length_cons, List.replicate_succ, List.set_cons_succ, ptG]
      exact ⟨by omega, by simp, pt_alone bond hb0 hb1 who l (i + 1) (by cases g <;> simp at h <;> omega) (by omega) (by simp at h2; omega)⟩
theorem sumL_zero : ∀ n : Nat, sumL (List.replicate n 0) = 0
  | 0 => rfl
  | n + 1 => by simp [List.replicate_succ, sumL, sumL_zero n]
theorem sumL_one (b : Int) : ∀ (n k : Nat), k < n → sumL ((List.replicate n 0).set k b) = b
  | n + 1, 0, _ => by simp [List.replicate_succ, sumL, sumL_zero]
  | n + 1, k + 1, h => by simp [List.replicate_succ, sumL, sumL_one b n k (by omega)]

theorem shares_law (bond who : Int) (gone : List Bool) (h : (sharesG bond who gone).2 = 0) :
    rightB bond = true ∧ 0 ≤ who ∧ who < gone.length ∧ gone.length ≤ 8 ∧ (sharesG bond who gone).1.length = gone.length ∧ sumL (sharesG bond who gone).1 = bond ∧ ∃ q, 0 ≤ q ∧ q ≤ bond ∧ ptG q who 0 gone (sharesG bond who gone).1 := by
  by_cases h1 : rightB bond = false
  · rw [shares_bad _ _ _ h1] at h; cases h
  have h1' : rightB bond = true := by simpa using h1
  by_cases h2 : gone.length < 2 ∨ 8 < gone.length
  · rw [shares_len _ _ _ h1' h2] at h; cases h
  by_cases h3 : who < 0 ∨ (gone.length : Int) ≤ who
  · rw [shares_seat _ _ _ h1' h2 h3] at h; cases h
  obtain ⟨b0, b1⟩ := right_of h1'
  have hc := cnt_nonneg (eligG who 0 gone)
  obtain ⟨i, rfl⟩ := Int.eq_ofNat_of_zero_le (show 0 ≤ who by omega)
  refine ⟨h1', by omega, by omega, by omega, ?_⟩
  by_cases h4 : cnt (eligG i 0 gone) = 0
  · rw [shares_alone _ _ _ h1' h2 h3 h4]
    simp only [Int.toNat_natCast, List.length_set, List.length_replicate, true_and]
    exact ⟨sumL_one _ _ _ (by omega), 0, by omega, b0, by simpa using pt_alone bond b0 b1 i gone 0 h4 (by omega) (by omega)⟩
  · rw [shares_some _ _ _ h1' h2 h3 h4]
    have hpos : 0 < cnt (eligG i 0 gone) := by omega
    have hq0 := Int.ediv_nonneg b0 (Int.le_of_lt hpos)
    have hq1 : bond / cnt (eligG i 0 gone) ≤ bond := Int.ediv_le_self _ b0
    refine ⟨by simp [shG_len, elig_len], ?_, _, hq0, hq1, pt_sh _ _ hq0 (by omega) _ _ _⟩
    simp only []
    rw [sum_sh _ _ _ (Int.emod_nonneg _ h4) (Int.le_of_lt (Int.emod_lt_of_pos _ hpos))]
    have := Int.emod_add_mul_ediv bond (cnt (eligG i 0 gone))
    rw [Int.mul_comm] at this; omega
end Go.Proofs.Ythibihjblodfmaa
