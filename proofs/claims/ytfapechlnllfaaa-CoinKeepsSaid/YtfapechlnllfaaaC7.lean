/- The laws of layer 3: CoinSums, CoinBack, CoinNil, CoinSplits: walked by contracts. -/
import Derived.Test.YtfapechlnllfaaaC6
namespace Go.Proofs.Ytfapechlnllfaaa
open Go.RowKit

theorem law_CoinSums (a b : Int) (A : Option Addr) (n c : Nat) (zs : List Int) (w : World) (h : Sl w w.heap.size 1 A n (zs.map (.int .i64))) :
    Calls Try.prog 10 #[.int .i64 a, .int .i64 b, .slice A n c] w fun e w' => e = .returned (.bool true) ∧ Below w.heap.size w w' := by
  go_enter Try.func10, Try.ntmps10
  go_wp2_with (first
    | (go_at_call 28; refine (add_any _ _ _).mono ?_; rintro e w' ⟨rfl, rfl⟩)
    | (go_at_call 29; refine (sub_any _ _ _).mono ?_; rintro e w' ⟨rfl, rfl⟩)
    | (go_at_call 30; refine (sum_any _ _ _ _ _ h).mono ?_; rintro e w' ⟨rfl, rfl⟩)
    | (go_at_call 31; refine (radd_any _ _ _).mono ?_; rintro e w' ⟨rfl, rfl⟩)
    | (go_at_call 32; refine (rsub_any _ _ _).mono ?_; rintro e w' ⟨rfl, rfl⟩)
    | (go_at_call 33; refine (rsum_any _ _ _ _ _ h).mono ?_; rintro e w' ⟨rfl, rfl⟩)
    | (go_at_call 34; refine (right_any _ _).mono ?_; rintro e w' ⟨rfl, rfl⟩)
    | (go_at_call 35; refine (rright_any _ _).mono ?_; rintro e w' ⟨rfl, rfl⟩)
    | (go_at_call 15; refine (told_any _).mono ?_; rintro e w' ⟨rfl, hbl⟩))
  all_goals
    go_ret
    exact ⟨rfl, hbl⟩

theorem add_back {a b : Int} (h : addE a b = 0) : subE (addV a b) b = 0 ∧ subV (addV a b) b = a := by
  unfold addE at h
  split at h
  · rename_i hh
    have e : addV a b = a + b := by unfold addV; rw [if_pos hh]
    simp only [Bool.and_eq_true] at hh
    obtain ⟨⟨h1, h2⟩, h3⟩ := hh
    have b1 := right_of h1
    have b2 := right_of h2
    rw [e]
    refine ⟨?_, ?_⟩
    · unfold subE; rw [if_pos (by simp [h2, h3]), if_pos (by omega)]
    · unfold subV; rw [if_pos (by simp [h2, h3]; omega)]; omega
  · cases h
theorem sub_back {a b : Int} (h : subE a b = 0) : addE (subV a b) b = 0 ∧ addV (subV a b) b = a := by
  unfold subE at h
  split at h
  · rename_i hh
    split at h
    · rename_i hba
      simp only [Bool.and_eq_true] at hh
      obtain ⟨h1, h2⟩ := hh
      have b1 := right_of h1
      have b2 := right_of h2
      have e : subV a b = a - b := by unfold subV; rw [if_pos (by simp [h1, h2, hba])]
      have e2 : a - b + b = a := by omega
      rw [e]
      have h3 : rightB (a - b) = true := right_t (by omega) (by omega)
      refine ⟨?_, ?_⟩
      · unfold addE; rw [if_pos (by simp [h2, h3, e2, h1])]
      · unfold addV; rw [if_pos (by simp [h2, h3, e2, h1]), e2]
    · cases h
  · cases h

theorem law_CoinBack (a b : Int) (w : World) :
    Calls Try.prog 8 #[.int .i64 a, .int .i64 b] w fun e w' => e = .returned (.bool true) ∧ Below w.heap.size w w' := by
  rcases Classical.em (addE a b = 0) with h1 | h1 <;> rcases Classical.em (subE a b = 0) with h2 | h2
  · obtain ⟨k1, k2⟩ := add_back h1
    obtain ⟨k3, k4⟩ := sub_back h2
    go_enter Try.func8, Try.ntmps8
    go_wp2_with (first
      | (go_at_call 28; refine (add_any _ _ _).mono ?_; rintro e w' ⟨rfl, rfl⟩)
      | (go_at_call 29; refine (sub_any _ _ _).mono ?_; rintro e w' ⟨rfl, rfl⟩)
      | (go_at_call 15; refine (told_any _).mono ?_; rintro e w' ⟨rfl, hbl⟩))
    go_ret
    exact ⟨rfl, hbl⟩
  · obtain ⟨k1, k2⟩ := add_back h1
    go_enter Try.func8, Try.ntmps8
    go_wp2_with (first
      | (go_at_call 28; refine (add_any _ _ _).mono ?_; rintro e w' ⟨rfl, rfl⟩)
      | (go_at_call 29; refine (sub_any _ _ _).mono ?_; rintro e w' ⟨rfl, rfl⟩)
      | (go_at_call 15; refine (told_any _).mono ?_; rintro e w' ⟨rfl, hbl⟩))
    go_ret
    exact ⟨rfl, hbl⟩
  · obtain ⟨k3, k4⟩ := sub_back h2
    go_enter Try.func8, Try.ntmps8
    go_wp2_with (first
      | (go_at_call 28; refine (add_any _ _ _).mono ?_; rintro e w' ⟨rfl, rfl⟩)
      | (go_at_call 29; refine (sub_any _ _ _).mono ?_; rintro e w' ⟨rfl, rfl⟩)
      | (go_at_call 15; refine (told_any _).mono ?_; rintro e w' ⟨rfl, hbl⟩))
    go_ret
    exact ⟨rfl, hbl⟩
  · go_enter Try.func8, Try.ntmps8
    go_wp2_with (first
      | (go_at_call 28; refine (add_any _ _ _).mono ?_; rintro e w' ⟨rfl, rfl⟩)
      | (go_at_call 29; refine (sub_any _ _ _).mono ?_; rintro e w' ⟨rfl, rfl⟩)
      | (go_at_call 15; refine (told_any _).mono ?_; rintro e w' ⟨rfl, hbl⟩))
    go_ret
    exact ⟨rfl, hbl⟩

set_option maxHeartbeats 400000 in
theorem law_CoinNil (a b : Int) (w : World) :
    Calls Try.prog 7 #[.int .i64 a, .int .i64 b] w fun e w' => e = .returned (.bool true) ∧ Below w.heap.size w w' := by
  go_enter Try.func7, Try.ntmps7
  go_wp2_with fail
  refine (new_ok 5 1 _ (by decide) (by decide) (by decide)).mono ?_
  rintro e w1 ⟨rfl, hp, hb⟩
  go_wp2_with (first
    | (go_at_call 22; refine (pay_nil _ _ _).mono ?_; rintro e w' ⟨rfl, rfl⟩)
    | (go_at_call 27; refine (rest_nil _ _).mono ?_; rintro e w' ⟨rfl, rfl⟩)
    | (go_at_call 23; refine (left_nil _).mono ?_; rintro e w' ⟨rfl, rfl⟩)
    | (go_at_call 24; refine (pays_nil _).mono ?_; rintro e w' ⟨rfl, rfl⟩)
    | (go_at_call 25; refine (clone_nil _).mono ?_; rintro e w' ⟨rfl, rfl⟩)
    | (go_at_call 15; refine (told_any _).mono ?_; rintro e w' ⟨rfl, hbl⟩)
    | (go_at_call 26; with_reducible refine (same_nil_both _).mono ?_; rintro e w' ⟨rfl, rfl⟩)
    | (go_at_call 26; with_reducible refine (same_nil_l _ _).mono ?_; rintro e w' ⟨rfl, rfl⟩)
    | (go_at_call 26; with_reducible refine (same_nil_r _ _).mono ?_; rintro e w' ⟨rfl, rfl⟩))
  go_ret
  exact ⟨rfl, below_then hb hbl⟩

set_option maxHeartbeats 400000 in
theorem law_CoinSplits (a : Int) (A : Option Addr) (n c : Nat) (zs : List Int) (w : World) (h : Sl w w.heap.size 1 A n (zs.map (.int .i64))) :
    Calls Try.prog 4 #[.int .i64 a, .slice A n c] w fun e w' => e = .returned (.bool true) ∧ Below w.heap.size w w' := by
  by_cases h12 : (12 : Int) < n
  · go_enter Try.func4, Try.ntmps4
    go_wp2_with (go_at_call 15; refine (told_any _).mono ?_; rintro e w' ⟨rfl, hbl⟩)
    go_ret
    exact ⟨rfl, hbl⟩
  · go_enter Try.func4, Try.ntmps4
    go_wp2_with fail
    refine (split_any _ _ _ _ _ _ h).mono ?_
    rintro e w1 ⟨v1, rfl, hown1, hb1⟩
    obtain ⟨A1, c1, rfl⟩ := own_form hown1
    go_wp2_with fail
    refine (rsplit_any _ _ _ _ _ _ (h.later hb1)).mono ?_
    rintro e w2 ⟨v2, rfl, hown2, hb2⟩
    obtain ⟨A2, c2, rfl⟩ := own_form hown2
    go_wp2_with fail
    refine (alike_any _ _ _ _ _ _ _ _ _ ((Sl.of_own hown1).later hb2) (Sl.of_own hown2)).mono ?_
    rintro e w3 ⟨rfl, q, rfl⟩
    rw [eqL_self]
    have hb3 : Below w2.heap.size w2 (w2.drewN q) := below_draws _ _ _
    go_wp2_with (go_at_call 15; refine (told_any _).mono ?_; rintro e w' ⟨rfl, hbl⟩)
    go_ret
    exact ⟨rfl, below_then hb1 (below_then hb2 (below_then hb3 hbl))⟩

/-! ### As the rows hand their arguments over -/
theorem law_CoinSums' (a b : Int) (A : Option Addr) (n c : Nat) (zs : List Int) (w : World) (_ : (Lit.int .i64 a).wf = true) (_ : (Lit.int .i64 b).wf = true) (h : Sl w w.heap.size 1 A n (zs.map (.int .i64))) (_ : ∀ z ∈ zs, (Lit.int .i64 z).wf = true) :
    Calls Try.prog 10 #[.int .i64 a, .int .i64 b, .slice A n c] w fun e w' => e = .returned (.bool true) ∧ Below w.heap.size w w' := law_CoinSums a b A n c zs w h
theorem law_CoinBack' (a b : Int) (w : World) (_ : (Lit.int .i64 a).wf = true) (_ : (Lit.int .i64 b).wf = true) :
    Calls Try.prog 8 #[.int .i64 a, .int .i64 b] w fun e w' => e = .returned (.bool true) ∧ Below w.heap.size w w' := law_CoinBack a b w
theorem law_CoinNil' (a b : Int) (w : World) (_ : (Lit.int .i64 a).wf = true) (_ : (Lit.int .i64 b).wf = true) :
    Calls Try.prog 7 #[.int .i64 a, .int .i64 b] w fun e w' => e = .returned (.bool true) ∧ Below w.heap.size w w' := law_CoinNil a b w
theorem law_CoinSplits' (a : Int) (A : Option Addr) (n c : Nat) (zs : List Int) (w : World) (_ : (Lit.int .i64 a).wf = true) (h : Sl w w.heap.size 1 A n (zs.map (.int .i64))) (_ : ∀ z ∈ zs, (Lit.int .i64 z).wf = true) :
    Calls Try.prog 4 #[.int .i64 a, .slice A n c] w fun e w' => e = .returned (.bool true) ∧ Below w.heap.size w w' := law_CoinSplits a A n c zs w h
end Go.Proofs.Ytfapechlnllfaaa
