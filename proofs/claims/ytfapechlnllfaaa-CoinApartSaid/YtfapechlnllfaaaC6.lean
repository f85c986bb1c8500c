/- The chapter's examples (told), and the laws of layer 3 that need no loop. -/
import Derived.Test.YtfapechlnllfaaaC5
namespace Go.Proofs.Ytfapechlnllfaaa
open Go.RowKit

theorem split_t (total : Int) (ws out : List Int) (n : Nat) (hs : splitG total ws = (out, 0)) (hn : out.length = n) (A : Option Addr) (m c : Nat) (w : World) (h : Sl w w.heap.size 1 A m (ws.map (.int .i64))) :
    Calls Try.prog 16 #[.int .i64 total, .slice A m c] w fun e w' => ∃ v, e = .returned (.tuple #[v, .int .i64 0]) ∧
      w'.ownsRow w.heap.size 3 1 v n (out.map (.int .i64)) ∧ Below w.heap.size w w' := by
  have := split_any total A m c ws w h
  rw [hs] at this
  rw [← hn]
  exact this

set_option maxHeartbeats 1000000 in
theorem told_any (w : World) : Calls Try.prog 15 #[] w fun e w' => e = .returned (.bool true) ∧ Below w.heap.size w w' := by
  go_enter Try.func15, Try.ntmps15
  go_wp2_with fail
  refine (split_t 10 [1, 1, 1] [4, 3, 3] 3 (by decide) rfl _ _ _ _ (sl_new w #[.int .i64 1, .int .i64 1, .int .i64 1] 3 1 3 rfl (by omega))).mono ?_
  rintro e w1 ⟨v1, rfl, hown1, hbl1⟩
  have hb1 : Below w.heap.size w w1 := ((Below.refl _ _).alloc (Nat.le_refl _) _).trans (hbl1.mono (by simp))
  obtain ⟨g1, cap1, rfl, hgb1, hglt1⟩ := hown1.form (by omega)
  go_wp2_with fail
  refine (split_t 7 [0, 2, 1] [0, 5, 2] 3 (by decide) rfl _ _ _ _ (sl_new w1 #[.int .i64 0, .int .i64 2, .int .i64 1] 3 1 3 rfl (by omega))).mono ?_
  rintro e w2 ⟨v2, rfl, hown2, hbl2⟩
  have hb2 : Below w1.heap.size w1 w2 := ((Below.refl _ _).alloc (Nat.le_refl _) _).trans (hbl2.mono (by simp))
  obtain ⟨g2, cap2, rfl, hgb2, hglt2⟩ := hown2.form (by omega)
  go_wp2_with fail
  have s1 := ((Sl.of_own hown1).later hb2).later (below_new w2 (.cells #[.int .i64 4, .int .i64 3, .int .i64 3] 3))
  refine (alike_any _ _ _ _ _ _ [4, 3, 3] [4, 3, 3] _ s1 (sl_new w2 #[.int .i64 4, .int .i64 3, .int .i64 3] 3 1 3 rfl (by omega))).mono ?_
  rintro e w3' ⟨rfl, q3, rfl⟩
  rw [eqL_self]
  have hb3 : Below w2.heap.size w2 ((w2.alloc (.cells #[.int .i64 4, .int .i64 3, .int .i64 3] 3)).drewN q3) := below_then (below_new _ _) (below_draws _ _ _)
  generalize (w2.alloc (.cells #[.int .i64 4, .int .i64 3, .int .i64 3] 3)).drewN q3 = w3 at hb3 ⊢
  go_wp2_with fail
  have s2 := ((Sl.of_own hown2).later hb3).later (below_new w3 (.cells #[.int .i64 0, .int .i64 5, .int .i64 2] 3))
  refine (alike_any _ _ _ _ _ _ [0, 5, 2] [0, 5, 2] _ s2 (sl_new w3 #[.int .i64 0, .int .i64 5, .int .i64 2] 3 1 3 rfl (by omega))).mono ?_
  rintro e w4' ⟨rfl, q4, rfl⟩
  rw [eqL_self]
  have hb4 : Below w3.heap.size w3 ((w3.alloc (.cells #[.int .i64 0, .int .i64 5, .int .i64 2] 3)).drewN q4) := below_then (below_new _ _) (below_draws _ _ _)
  generalize (w3.alloc (.cells #[.int .i64 0, .int .i64 5, .int .i64 2] 3)).drewN q4 = w4 at hb4 ⊢
  have HB := below_then hb1 (below_then hb2 (below_then hb3 hb4))
  clear hb1 hb2 hb3 hb4 hown1 hown2 s1 s2 hbl1 hbl2
  go_wp2_with fail
  refine (new_ok 10 2 _ (by decide) (by decide) (by decide)).mono ?_
  rintro e w5 ⟨rfl, hp5, hb5⟩
  have hg5 : w.heap.size ≤ w4.heap.size := HB.size
  have ok5 : PotOk 10 2 [0, 0, 0, 0, 0, 0, 0, 0] := new_pot_ok (by decide) (by decide) (by decide)
  have HB5 := below_then HB hb5
  go_wp2_with fail
  refine (pay_any _ _ _ _ _ hp5 ok5 1 7).mono ?_
  rintro e w6 ⟨rfl, hp6, hg6⟩
  have ok6 := pay_ok ok5 1 7
  have e6 : payOf 10 7 = 7 := by decide
  have e6' : paid 2 [0, 0, 0, 0, 0, 0, 0, 0] 1 7 = [0, 7, 0, 0, 0, 0, 0, 0] := by decide
  rw [e6, e6'] at hp6 ok6
  rw [e6]
  clear e6 e6'
  have HB6 : Below w.heap.size w w6 := below_only HB5 hg6 HB5.size hg5
  go_wp2_with fail
  refine (pay_any _ _ _ _ _ hp6 ok6 5 9).mono ?_
  rintro e w7 ⟨rfl, hp7, hg7⟩
  have ok7 := pay_ok ok6 5 9
  have e7 : payOf (10 - 7) 9 = 3 := by decide
  have e7' : paid 2 [0, 7, 0, 0, 0, 0, 0, 0] 5 3 = [3, 7, 0, 0, 0, 0, 0, 0] := by decide
  rw [e7, e7'] at hp7 ok7
  rw [e7]
  clear e7 e7'
  have HB7 : Below w.heap.size w w7 := below_only HB6 hg7 HB6.size hg5
  go_wp2_with fail
  refine (rest_any _ _ _ 2 _ hp7 ok7 1).mono ?_
  rintro e w8 ⟨v8, rfl, hown8, hp8, hg8⟩
  have HB8 : Below w.heap.size w w8 := below_only HB7 hg8 HB7.size hg5
  have e8 : (paid (2 : Nat) [3, 7, 0, 0, 0, 0, 0, 0] 1 (10 - 7 - 3)).take 2 = [3, 7] := by decide
  rw [e8] at hown8
  clear e8 hp5 hp6 hp7 hp8 ok5 ok6 ok7
  obtain ⟨g8, cap8, rfl, hgb8, hglt8⟩ := hown8.form (by omega)
  go_wp2_with fail
  have s8 := (Sl.of_own hown8).later (below_new w8 (.cells #[.int .i64 3, .int .i64 7] 3))
  refine (alike_any _ _ _ _ _ _ [3, 7] [3, 7] _ s8 (sl_new w8 #[.int .i64 3, .int .i64 7] 3 1 2 rfl (by omega))).mono ?_
  rintro e w9' ⟨rfl, q9, rfl⟩
  rw [eqL_self]
  have hb9 : Below w8.heap.size w8 ((w8.alloc (.cells #[.int .i64 3, .int .i64 7] 3)).drewN q9) := below_then (below_new _ _) (below_draws _ _ _)
  go_wp2_with fail
  go_ret
  exact ⟨rfl, below_then HB8 hb9⟩
end Go.Proofs.Ytfapechlnllfaaa
