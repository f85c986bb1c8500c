/- The chapter's example (told), and FundNil. -/
import Derived.Test.YtfapechlnllfaabF5
namespace Go.Proofs.Ytfapechlnllfaab
open Go.RowKit

theorem new_t {l : List Int} {b : Int} (h0 : newE l b = 0) (A : Option Addr) (n c : Nat) (w : World) (h : Sl w w.heap.size 1 A n (l.map (.int .i64))) :
    Calls Try.prog 11 #[.slice A n c, .int .i64 b] w fun e w' =>
      e = .returned (.tuple #[.pointer (some ⟨w.heap.size, 0, none⟩), .int .i64 0]) ∧ FundAt w' w.heap.size l (List.replicate l.length false) b ∧ Below w.heap.size w w' :=
  (new_any A n c l b w h).mono fun e w' hh => by
    rcases hh with ⟨hne, _⟩ | ⟨_, h1⟩
    · exact absurd h0 hne
    · exact h1
theorem lay_t {l : List Int} {d d' : List Bool} {b seat amt now : Int} (he : layE l d b seat amt now = 0) (hd : layD l d b seat amt now = d') (w : World) (g : Nat) (h : FundAt w g l d b) :
    Calls Try.prog 13 #[.pointer (some ⟨g, 0, none⟩), .int .i64 seat, .int .i64 amt, .int .i64 now] w fun e w' => e = .returned (.int .i64 0) ∧ FundAt w' g l d' b ∧ w.grownBy w' (some g) := by
  have := lay_any w g l d b h seat amt now
  rwa [he, hd] at this
theorem back_t {l : List Int} {d d' : List Bool} {b seat now v k : Int} (he : backE l d seat = k) (hv : backV l d seat = v) (hd : backD l d seat = d') (w : World) (g : Nat) (h : FundAt w g l d b) :
    Calls Try.prog 18 #[.pointer (some ⟨g, 0, none⟩), .int .i64 seat, .int .i64 now] w fun e w' => e = .returned (.tuple #[.int .i64 v, .int .i64 k]) ∧ FundAt w' g l d' b ∧ w.grownBy w' (some g) := by
  have := back_any w g l d b h seat now
  rwa [he, hd, hv] at this

set_option maxHeartbeats 1000000 in
theorem told_any (w : World) : Calls Try.prog 12 #[] w fun e w' => e = .returned (.bool true) ∧ Below w.heap.size w w' := by
  go_enter Try.func12, Try.ntmps12
  go_wp2_with fail
  refine (new_t (l := [5, 3]) (b := 10) (by decide) _ _ _ _ (sl_new w #[.int .i64 5, .int .i64 3] 3 1 2 rfl (by omega))).mono ?_
  rintro e w1 ⟨rfl, hf1, hb1⟩
  have HB1 := below_then (below_new w (.cells #[.int .i64 5, .int .i64 3] 3)) hb1
  obtain ⟨g, hg⟩ : ∃ g, (w.alloc (.cells #[.int .i64 5, .int .i64 3] 3)).heap.size = g := ⟨_, rfl⟩
  have hgw : w.heap.size ≤ g := by rw [← hg]; simp
  rw [hg] at hf1 ⊢
  clear hb1 hg
  go_wp2_with fail
  refine (lay_t (d' := [true, false]) (by decide) (by decide) _ _ hf1).mono ?_
  rintro e w2 ⟨rfl, hf2, hg2⟩
  have HB2 := below_only HB1 hg2 HB1.size hgw
  clear hf1 hg2
  go_wp2_with fail
  refine (back_t (v := 5) (k := 0) (d' := [false, false]) (by decide) (by decide) (by decide) _ _ hf2).mono ?_
  rintro e w3 ⟨rfl, hf3, hg3⟩
  have HB3 := below_only HB2 hg3 HB2.size hgw
  clear hf2 hg3
  go_wp2_with fail
  refine (lay_t (d' := [true, false]) (by decide) (by decide) _ _ hf3).mono ?_
  rintro e w4 ⟨rfl, hf4, hg4⟩
  have HB4 := below_only HB3 hg4 HB3.size hgw
  clear hf3 hg4
  go_wp2_with fail
  refine (lay_t (d' := [true, true]) (by decide) (by decide) _ _ hf4).mono ?_
  rintro e w5 ⟨rfl, hf5, hg5⟩
  have HB5 := below_only HB4 hg5 HB4.size hgw
  clear hf4 hg5
  go_wp2_with fail
  refine (back_t (v := 0) (k := 10) (d' := [true, true]) (by decide) (by decide) (by decide) _ _ hf5).mono ?_
  rintro e w6 ⟨rfl, hf6, hg6⟩
  have HB6 := below_only HB5 hg6 HB5.size hgw
  clear hf5 hg6
  go_wp2_with fail
  refine (phase_any _ _ _ _ _ hf6 99).mono ?_
  rintro e w7 ⟨rfl, hb7⟩
  have HB7 := below_then HB6 hb7
  rw [show phaseG [true, true] 10 99 = 1 by decide]
  go_wp2_with fail
  go_ret
  exact ⟨rfl, HB7⟩

set_option maxHeartbeats 1000000 in
theorem law_FundNil (seat amt now : Int) (w : World) :
    Calls Try.prog 10 #[.int .i64 seat, .int .i64 amt, .int .i64 now] w fun e w' => e = .returned (.bool true) ∧ Below w.heap.size w w' := by
  go_enter Try.func10, Try.ntmps10
  go_wp2_with fail
  refine (new_t (l := [1, 1]) (b := 0) (by decide) _ _ _ _ (sl_new w #[.int .i64 1, .int .i64 1] 3 1 2 rfl (by omega))).mono ?_
  rintro e w1 ⟨rfl, hf1, hb1⟩
  have HB1 := below_then (below_new w (.cells #[.int .i64 1, .int .i64 1] 3)) hb1
  obtain ⟨g, hg⟩ : ∃ g, (w.alloc (.cells #[.int .i64 1, .int .i64 1] 3)).heap.size = g := ⟨_, rfl⟩
  rw [hg]
  clear hb1 hg hf1
  go_wp2_with (first
    | (go_at_call 18; refine (back_nil _ _ _).mono ?_; rintro e w' ⟨rfl, rfl⟩)
    | (go_at_call 13; refine (lay_nil _ _ _ _).mono ?_; rintro e w' ⟨rfl, rfl⟩)
    | (go_at_call 15; refine (phase_nil _ _).mono ?_; rintro e w' ⟨rfl, rfl⟩)
    | (go_at_call 19; refine (given_nil _ _).mono ?_; rintro e w' ⟨rfl, rfl⟩)
    | (go_at_call 20; refine (held_nil _).mono ?_; rintro e w' ⟨rfl, rfl⟩)
    | (go_at_call 16; refine (stakes_nil _).mono ?_; rintro e w' ⟨rfl, rfl⟩)
    | (go_at_call 26; refine (clone_nil _).mono ?_; rintro e w' ⟨rfl, rfl⟩)
    | (go_at_call 14; with_reducible refine (fsame_nil_both _).mono ?_; rintro e w' ⟨rfl, rfl⟩)
    | (go_at_call 14; with_reducible refine (fsame_nil_l _ _).mono ?_; rintro e w' ⟨rfl, rfl⟩)
    | (go_at_call 14; with_reducible refine (fsame_nil_r _ _).mono ?_; rintro e w' ⟨rfl, rfl⟩)
    | (go_at_call 12; refine (told_any _).mono ?_; rintro e w' ⟨rfl, hbt⟩))
  go_ret
  exact ⟨rfl, below_then HB1 hbt⟩
theorem law_FundNil' (seat amt now : Int) (w : World) (_ : (Lit.int .i64 seat).wf = true) (_ : (Lit.int .i64 amt).wf = true) (_ : (Lit.int .i64 now).wf = true) :
    Calls Try.prog 10 #[.int .i64 seat, .int .i64 amt, .int .i64 now] w fun e w' => e = .returned (.bool true) ∧ Below w.heap.size w w' := law_FundNil seat amt now w
end Go.Proofs.Ytfapechlnllfaab
