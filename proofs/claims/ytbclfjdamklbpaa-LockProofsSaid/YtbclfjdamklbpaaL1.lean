/- Locks in memory; whether they may be. -/
import Derived.Test.YtbclfjdamklbpaaNC
namespace Go.Proofs.Ytbclfjdamklbpaa
set_option linter.unusedSimpArgs false
set_option linter.unusedVariables false
open Go.RowKit Go.Maps

/-- What a lock holds. -/
structure LkT where
  k : Int
  h : List Int
  ks : List (List Int)
  s : Int
  c : Int
  u : Int
def lkC (L : LkT) (p : Value) : List Value := .int .i64 L.k :: (dl L.h ++ [p, .int .i64 L.s, .int .i64 L.c, .int .i64 L.u])
structure LkM (w : World) (g : Nat) (L : LkT) (p : Value) : Prop where
  c0 : w.cell? ⟨g, 0, none⟩ = some (.int .i64 L.k)
  r1 : w.rangeAt g 1 (dl L.h)
  c9 : w.cell? ⟨g, 9, none⟩ = some p
  c10 : w.cell? ⟨g, 10, none⟩ = some (.int .i64 L.s)
  c11 : w.cell? ⟨g, 11, none⟩ = some (.int .i64 L.c)
  c12 : w.cell? ⟨g, 12, none⟩ = some (.int .i64 L.u)
theorem lk_mem {w : World} {g : Nat} {L : LkT} {p : Value} {ty : TypeId} (hh : DgOk L.h) (h : Bk w g ty (lkC L p)) : LkM w g L p := by
  have lt := hh.len
  have e : ∀ j, w.cell? ⟨g, 9 + j, none⟩ = [p, .int .i64 L.s, .int .i64 L.c, .int .i64 L.u][j]? := fun j => by
    rw [h.cell, lkC, show 9 + j = (8 + j) + 1 by omega, List.getElem?_cons_succ, List.getElem?_append_right (by rw [dl_len, lt]; omega), dl_len, lt]
    congr 1; omega
  have h3 : Bk w g ty ([.int .i64 L.k] ++ (dl L.h ++ [p, .int .i64 L.s, .int .i64 L.c, .int .i64 L.u])) := h
  exact ⟨by rw [h.cell]; rfl, h3.range rfl, e 0, e 1, e 2, e 3⟩
theorem lkC_len {L : LkT} (hh : DgOk L.h) (p : Value) : (lkC L p).length = 13 := by simp [lkC, dl_len, hh.len]
theorem lk_size : (Try.prog.info? 26).map (·.size) = some 13 := by kernel_rfl
theorem lk_sz {L : LkT} (hh : DgOk L.h) (p : Value) : (Try.prog.info? 26).map (·.size) = some (lkC L p).length := by rw [lkC_len hh]; exact lk_size
theorem rlk_size : (Try.prog.info? 44).map (·.size) = some 13 := by kernel_rfl
theorem rlk_sz {L : LkT} (hh : DgOk L.h) (p : Value) : (Try.prog.info? 44).map (·.size) = some (lkC L p).length := by rw [lkC_len hh]; exact rlk_size
theorem lk_one (L : LkT) (A : Option Addr) (N C : Nat) : ∀ x ∈ lkC L (.slice A N C), x.oneCell' = true := by
  intro x hx
  simp only [lkC, dl, List.mem_cons, List.mem_append, List.mem_map, List.not_mem_nil, or_false] at hx
  rcases hx with rfl | ⟨y, _, rfl⟩ | rfl | rfl | rfl | rfl <;> rfl
def checkL (k s c u : Int) (n : Nat) : Int :=
  if k ≠ 0 ∧ k ≠ 1 then 11
  else if c < 1 ∨ 1125899906842624 < c ∨ u < 0 ∨ 1099511627776 < u then 2
  else if k = 0 then (if n ≠ 0 then 3 else if s ≠ 0 then 28 else 0)
  else if n < 2 ∨ 8 < n then 3
  else if s < 0 ∨ (n : Int) ≤ s then 28 else 0

set_option maxRecDepth 20000 in
set_option maxHeartbeats 4000000 in
theorem lcheck_any (w : World) (L : LkT) (hh : DgOk L.h) (A : Option Addr) (N C : Nat) : Calls Try.prog 34 #[.agg (lkC L (.slice A N C)).toArray] w fun e w' => e = .returned (.int .i64 (checkL L.k L.s L.c L.u N)) ∧ Below w.heap.size w w' := by
  obtain ⟨k, h, ks, s, c, u⟩ := L
  obtain ⟨X, hX⟩ : ∃ X, (lkC ⟨k, h, ks, s, c, u⟩ (.slice A N C)).toArray = X := ⟨_, rfl⟩
  obtain ⟨w1, hw1⟩ : ∃ w1, w.alloc (.cells X 26) = w1 := ⟨_, rfl⟩
  have hb1 : Below w.heap.size w w1 := hw1 ▸ below_new w _
  have kx : Bk w1 w.heap.size 26 (lkC ⟨k, h, ks, s, c, u⟩ (.slice A N C)) := hw1 ▸ Bk.new' w _ X (by rw [← hX])
  obtain ⟨c0, -, c9, c10, c11, c12⟩ := lk_mem hh kx
  have HW := Lib.hid hw1; have HB := Lib.hid hb1
  rw [hX]
  obtain ⟨z, hz⟩ : ∃ z : Int, checkL k s c u N = z := ⟨_, rfl⟩
  show Calls _ _ _ _ fun e w' => e = .returned (.int .i64 (checkL k s c u N)) ∧ _
  rw [hz]
  have HZ : Hid (checkL k s c u N = z) := hz
  simp only at c0 c10 c11 c12
  clear hX hw1 hb1 kx hh hz
  by_cases hk : k = 0
  · subst hk
    by_cases hc1 : c < 1
    ·
      have hc1t0 : decide (c < 1) = true := by simp; omega
      have HZ2 : Hid (z = 2) := by
        show _ = _
        rw [← HZ.out, checkL]
        repeat (first | rw [if_pos (by omega)] | rw [if_neg (by omega)])
      (try clear hk); (try clear hn); (try clear hs)
      go_enter Try.func34, Try.ntmps34
      go_upto_region 1 with fail
      rw [HW.out]
      go_wp2_with fail
      go_ret
      exact ⟨by rw [HZ2.out]; rfl, HB.out⟩
    ·
      have hc1f0 : decide (c < 1) = false := by simp; omega
      by_cases hc2 : 1125899906842624 < c
      ·
        have hc2t0 : decide (1125899906842624 < c) = true := by simp; omega
        have HZ2 : Hid (z = 2) := by
          show _ = _
          rw [← HZ.out, checkL]
          repeat (first | rw [if_pos (by omega)] | rw [if_neg (by omega)])
        (try clear hk); (try clear hn); (try clear hs)
        go_enter Try.func34, Try.ntmps34
        go_upto_region 1 with fail
        rw [HW.out]
        go_wp2_with fail
        go_ret
        exact ⟨by rw [HZ2.out]; rfl, HB.out⟩
      ·
        have hc2f0 : decide (1125899906842624 < c) = false := by simp; omega
        by_cases hu1 : u < 0
        ·
          have hu1t0 : decide (u < 0) = true := by simp; omega
          have HZ2 : Hid (z = 2) := by
            show _ = _
            rw [← HZ.out, checkL]
            repeat (first | rw [if_pos (by omega)] | rw [if_neg (by omega)])
          (try clear hk); (try clear hn); (try clear hs)
          go_enter Try.func34, Try.ntmps34
          go_upto_region 1 with fail
          rw [HW.out]
          go_wp2_with fail
          go_ret
          exact ⟨by rw [HZ2.out]; rfl, HB.out⟩
        ·
          have hu1f0 : decide (u < 0) = false := by simp; omega
          by_cases hu2 : 1099511627776 < u
          ·
            have hu2t0 : decide (1099511627776 < u) = true := by simp; omega
            have HZ2 : Hid (z = 2) := by
              show _ = _
              rw [← HZ.out, checkL]
              repeat (first | rw [if_pos (by omega)] | rw [if_neg (by omega)])
            (try clear hk); (try clear hn); (try clear hs)
            go_enter Try.func34, Try.ntmps34
            go_upto_region 1 with fail
            rw [HW.out]
            go_wp2_with fail
            go_ret
            exact ⟨by rw [HZ2.out]; rfl, HB.out⟩
          ·
            have hu2f0 : decide (1099511627776 < u) = false := by simp; omega
            by_cases hn : N = 0
            · subst hn
              by_cases hs : s = 0
              · subst hs
                have HZ2 : Hid (z = 0) := by
                  show _ = _
                  rw [← HZ.out, checkL]
                  repeat (first | rw [if_pos (by omega)] | rw [if_neg (by omega)])
                (try clear hk); (try clear hn); (try clear hs)
                go_enter Try.func34, Try.ntmps34
                go_upto_region 1 with fail
                rw [HW.out]
                go_wp2_with fail
                go_ret
                exact ⟨by rw [HZ2.out]; rfl, HB.out⟩
              · have s1 : (s != 0) = true := by simpa using hs
                by_cases hsl : s < 0
                · have s2 : decide (s < 0) = true := by simp; omega
                  have HZ2 : Hid (z = 28) := by
                    show _ = _
                    rw [← HZ.out, checkL]
                    repeat (first | rw [if_pos (by omega)] | rw [if_neg (by omega)])
                  (try clear hk); (try clear hn); (try clear hs)
                  go_enter Try.func34, Try.ntmps34
                  go_upto_region 1 with fail
                  rw [HW.out]
                  go_wp2_with fail
                  go_ret
                  exact ⟨by rw [HZ2.out]; rfl, HB.out⟩
                · have s2 : decide (s < 0) = false := by simp; omega
                  have s3 : decide (1 ≤ s) = true := by simp; omega
                  have HZ2 : Hid (z = 28) := by
                    show _ = _
                    rw [← HZ.out, checkL]
                    repeat (first | rw [if_pos (by omega)] | rw [if_neg (by omega)])
                  (try clear hk); (try clear hn); (try clear hs)
                  go_enter Try.func34, Try.ntmps34
                  go_upto_region 1 with fail
                  rw [HW.out]
                  go_wp2_with fail
                  go_ret
                  exact ⟨by rw [HZ2.out]; rfl, HB.out⟩
            · have n1 : ((N : Int) != 0) = true := by simp; omega
              have n2 : (N != 0) = true := by simpa using hn
              have n3 : (N == 0) = false := by simpa using hn
              have HZ2 : Hid (z = 3) := by
                show _ = _
                rw [← HZ.out, checkL]
                repeat (first | rw [if_pos (by omega)] | rw [if_neg (by omega)])
              (try clear hk); (try clear hn); (try clear hs)
              go_enter Try.func34, Try.ntmps34
              go_upto_region 1 with fail
              rw [HW.out]
              go_wp2_with fail
              go_ret
              exact ⟨by rw [HZ2.out]; rfl, HB.out⟩
  · by_cases hk1 : k = 1
    · subst hk1
      by_cases hc1 : c < 1
      ·
        have hc1t0 : decide (c < 1) = true := by simp; omega
        have HZ2 : Hid (z = 2) := by
          show _ = _
          rw [← HZ.out, checkL]
          repeat (first | rw [if_pos (by omega)] | rw [if_neg (by omega)])
        (try clear hk); (try clear hn); (try clear hs)
        go_enter Try.func34, Try.ntmps34
        go_upto_region 1 with fail
        rw [HW.out]
        go_wp2_with fail
        go_ret
        exact ⟨by rw [HZ2.out]; rfl, HB.out⟩
      ·
        have hc1f0 : decide (c < 1) = false := by simp; omega
        by_cases hc2 : 1125899906842624 < c
        ·
          have hc2t0 : decide (1125899906842624 < c) = true := by simp; omega
          have HZ2 : Hid (z = 2) := by
            show _ = _
            rw [← HZ.out, checkL]
            repeat (first | rw [if_pos (by omega)] | rw [if_neg (by omega)])
          (try clear hk); (try clear hn); (try clear hs)
          go_enter Try.func34, Try.ntmps34
          go_upto_region 1 with fail
          rw [HW.out]
          go_wp2_with fail
          go_ret
          exact ⟨by rw [HZ2.out]; rfl, HB.out⟩
        ·
          have hc2f0 : decide (1125899906842624 < c) = false := by simp; omega
          by_cases hu1 : u < 0
          ·
            have hu1t0 : decide (u < 0) = true := by simp; omega
            have HZ2 : Hid (z = 2) := by
              show _ = _
              rw [← HZ.out, checkL]
              repeat (first | rw [if_pos (by omega)] | rw [if_neg (by omega)])
            (try clear hk); (try clear hn); (try clear hs)
            go_enter Try.func34, Try.ntmps34
            go_upto_region 1 with fail
            rw [HW.out]
            go_wp2_with fail
            go_ret
            exact ⟨by rw [HZ2.out]; rfl, HB.out⟩
          ·
            have hu1f0 : decide (u < 0) = false := by simp; omega
            by_cases hu2 : 1099511627776 < u
            ·
              have hu2t0 : decide (1099511627776 < u) = true := by simp; omega
              have HZ2 : Hid (z = 2) := by
                show _ = _
                rw [← HZ.out, checkL]
                repeat (first | rw [if_pos (by omega)] | rw [if_neg (by omega)])
              (try clear hk); (try clear hn); (try clear hs)
              go_enter Try.func34, Try.ntmps34
              go_upto_region 1 with fail
              rw [HW.out]
              go_wp2_with fail
              go_ret
              exact ⟨by rw [HZ2.out]; rfl, HB.out⟩
            ·
              have hu2f0 : decide (1099511627776 < u) = false := by simp; omega
              by_cases hn2 : N < 2
              ·
                have hn2t0 : decide ((N : Int) < (2 : Int)) = true := by simp; omega
                have hn2t1 : decide (N < 2) = true := by simp; omega
                have HZ2 : Hid (z = 3) := by
                  show _ = _
                  rw [← HZ.out, checkL]
                  repeat (first | rw [if_pos (by omega)] | rw [if_neg (by omega)])
                (try clear hk); (try clear hn); (try clear hs)
                go_enter Try.func34, Try.ntmps34
                go_upto_region 1 with fail
                rw [HW.out]
                go_wp2_with fail
                go_ret
                exact ⟨by rw [HZ2.out]; rfl, HB.out⟩
              ·
                have hn2f0 : decide ((N : Int) < (2 : Int)) = false := by simp; omega
                have hn2f1 : decide (N < 2) = false := by simp; omega
                by_cases hn8 : 8 < N
                ·
                  have hn8t0 : decide ((8 : Int) < (N : Int)) = true := by simp; omega
                  have hn8t1 : decide (8 < N) = true := by simp; omega
                  have HZ2 : Hid (z = 3) := by
                    show _ = _
                    rw [← HZ.out, checkL]
                    repeat (first | rw [if_pos (by omega)] | rw [if_neg (by omega)])
                  (try clear hk); (try clear hn); (try clear hs)
                  go_enter Try.func34, Try.ntmps34
                  go_upto_region 1 with fail
                  rw [HW.out]
                  go_wp2_with fail
                  go_ret
                  exact ⟨by rw [HZ2.out]; rfl, HB.out⟩
                ·
                  have hn8f0 : decide ((8 : Int) < (N : Int)) = false := by simp; omega
                  have hn8f1 : decide (8 < N) = false := by simp; omega
                  by_cases hs0 : s < 0
                  ·
                    have hs0t0 : decide (s < 0) = true := by simp; omega
                    have HZ2 : Hid (z = 28) := by
                      show _ = _
                      rw [← HZ.out, checkL]
                      repeat (first | rw [if_pos (by omega)] | rw [if_neg (by omega)])
                    (try clear hk); (try clear hn); (try clear hs)
                    go_enter Try.func34, Try.ntmps34
                    go_upto_region 1 with fail
                    rw [HW.out]
                    go_wp2_with fail
                    go_ret
                    exact ⟨by rw [HZ2.out]; rfl, HB.out⟩
                  ·
                    have hs0f0 : decide (s < 0) = false := by simp; omega
                    by_cases hsn : (N : Int) ≤ s
                    ·
                      have hsnt0 : decide ((N : Int) ≤ s) = true := by simp; omega
                      have hsnt1 : max (N : Int) 1 = N := by omega
                      have HZ2 : Hid (z = 28) := by
                        show _ = _
                        rw [← HZ.out, checkL]
                        repeat (first | rw [if_pos (by omega)] | rw [if_neg (by omega)])
                      (try clear hk); (try clear hn); (try clear hs)
                      go_enter Try.func34, Try.ntmps34
                      go_upto_region 1 with fail
                      rw [HW.out]
                      go_wp2_with fail
                      go_ret
                      exact ⟨by rw [HZ2.out]; rfl, HB.out⟩
                    ·
                      have hsnf0 : decide ((N : Int) ≤ s) = false := by simp; omega
                      have hsnf1 : max (N : Int) 1 = N := by omega
                      have HZ2 : Hid (z = 0) := by
                        show _ = _
                        rw [← HZ.out, checkL]
                        repeat (first | rw [if_pos (by omega)] | rw [if_neg (by omega)])
                      (try clear hk); (try clear hn); (try clear hs)
                      go_enter Try.func34, Try.ntmps34
                      go_upto_region 1 with fail
                      rw [HW.out]
                      go_wp2_with fail
                      go_ret
                      exact ⟨by rw [HZ2.out]; rfl, HB.out⟩
    · have k1 : (k != 0) = true := by simpa using hk
      have k2 : (k != 1) = true := by simpa using hk1
      have HZ2 : Hid (z = 11) := by
        show _ = _
        rw [← HZ.out, checkL]
        repeat (first | rw [if_pos (by omega)] | rw [if_neg (by omega)])
      (try clear hk); (try clear hn); (try clear hs)
      go_enter Try.func34, Try.ntmps34
      go_upto_region 1 with fail
      rw [HW.out]
      go_wp2_with fail
      go_ret
      exact ⟨by rw [HZ2.out]; rfl, HB.out⟩
set_option maxRecDepth 20000 in
set_option maxHeartbeats 4000000 in
theorem rlcheck_any (w : World) (L : LkT) (hh : DgOk L.h) (A : Option Addr) (N C : Nat) : Calls Try.prog 33 #[.agg (lkC L (.slice A N C)).toArray] w fun e w' => e = .returned (.int .i64 (checkL L.k L.s L.c L.u N)) ∧ Below w.heap.size w w' := by
  obtain ⟨k, h, ks, s, c, u⟩ := L
  obtain ⟨X, hX⟩ : ∃ X, (lkC ⟨k, h, ks, s, c, u⟩ (.slice A N C)).toArray = X := ⟨_, rfl⟩
  obtain ⟨w1, hw1⟩ : ∃ w1, w.alloc (.cells X 44) = w1 := ⟨_, rfl⟩
  have hb1 : Below w.heap.size w w1 := hw1 ▸ below_new w _
  have kx : Bk w1 w.heap.size 44 (lkC ⟨k, h, ks, s, c, u⟩ (.slice A N C)) := hw1 ▸ Bk.new' w _ X (by rw [← hX])
  obtain ⟨c0, -, c9, c10, c11, c12⟩ := lk_mem hh kx
  have HW := Lib.hid hw1; have HB := Lib.hid hb1
  rw [hX]
  obtain ⟨z, hz⟩ : ∃ z : Int, checkL k s c u N = z := ⟨_, rfl⟩
  show Calls _ _ _ _ fun e w' => e = .returned (.int .i64 (checkL k s c u N)) ∧ _
  rw [hz]
  have HZ : Hid (checkL k s c u N = z) := hz
  simp only at c0 c10 c11 c12
  clear hX hw1 hb1 kx hh hz
  by_cases hk : k = 0
  · subst hk
    by_cases hc1 : c < 1
    ·
      have hc1t0 : decide (c < 1) = true := by simp; omega
      have HZ2 : Hid (z = 2) := by
        show _ = _
        rw [← HZ.out, checkL]
        repeat (first | rw [if_pos (by omega)] | rw [if_neg (by omega)])
      (try clear hk); (try clear hn); (try clear hs)
      go_enter Try.func33, Try.ntmps33
      go_upto_region 1 with fail
      rw [HW.out]
      go_wp2_with fail
      go_ret
      exact ⟨by rw [HZ2.out]; rfl, HB.out⟩
    ·
      have hc1f0 : decide (c < 1) = false := by simp; omega
      by_cases hc2 : 1125899906842624 < c
      ·
        have hc2t0 : decide (1125899906842624 < c) = true := by simp; omega
        have HZ2 : Hid (z = 2) := by
          show _ = _
          rw [← HZ.out, checkL]
          repeat (first | rw [if_pos (by omega)] | rw [if_neg (by omega)])
        (try clear hk); (try clear hn); (try clear hs)
        go_enter Try.func33, Try.ntmps33
        go_upto_region 1 with fail
        rw [HW.out]
        go_wp2_with fail
        go_ret
        exact ⟨by rw [HZ2.out]; rfl, HB.out⟩
      ·
        have hc2f0 : decide (1125899906842624 < c) = false := by simp; omega
        by_cases hu1 : u < 0
        ·
          have hu1t0 : decide (u < 0) = true := by simp; omega
          have HZ2 : Hid (z = 2) := by
            show _ = _
            rw [← HZ.out, checkL]
            repeat (first | rw [if_pos (by omega)] | rw [if_neg (by omega)])
          (try clear hk); (try clear hn); (try clear hs)
          go_enter Try.func33, Try.ntmps33
          go_upto_region 1 with fail
          rw [HW.out]
          go_wp2_with fail
          go_ret
          exact ⟨by rw [HZ2.out]; rfl, HB.out⟩
        ·
          have hu1f0 : decide (u < 0) = false := by simp; omega
          by_cases hu2 : 1099511627776 < u
          ·
            have hu2t0 : decide (1099511627776 < u) = true := by simp; omega
            have HZ2 : Hid (z = 2) := by
              show _ = _
              rw [← HZ.out, checkL]
              repeat (first | rw [if_pos (by omega)] | rw [if_neg (by omega)])
            (try clear hk); (try clear hn); (try clear hs)
            go_enter Try.func33, Try.ntmps33
            go_upto_region 1 with fail
            rw [HW.out]
            go_wp2_with fail
            go_ret
            exact ⟨by rw [HZ2.out]; rfl, HB.out⟩
          ·
            have hu2f0 : decide (1099511627776 < u) = false := by simp; omega
            by_cases hn : N = 0
            · subst hn
              by_cases hs : s = 0
              · subst hs
                have HZ2 : Hid (z = 0) := by
                  show _ = _
                  rw [← HZ.out, checkL]
                  repeat (first | rw [if_pos (by omega)] | rw [if_neg (by omega)])
                (try clear hk); (try clear hn); (try clear hs)
                go_enter Try.func33, Try.ntmps33
                go_upto_region 1 with fail
                rw [HW.out]
                go_wp2_with fail
                go_ret
                exact ⟨by rw [HZ2.out]; rfl, HB.out⟩
              · have s1 : (s != 0) = true := by simpa using hs
                by_cases hsl : s < 0
                · have s2 : decide (s < 0) = true := by simp; omega
                  have HZ2 : Hid (z = 28) := by
                    show _ = _
                    rw [← HZ.out, checkL]
                    repeat (first | rw [if_pos (by omega)] | rw [if_neg (by omega)])
                  (try clear hk); (try clear hn); (try clear hs)
                  go_enter Try.func33, Try.ntmps33
                  go_upto_region 1 with fail
                  rw [HW.out]
                  go_wp2_with fail
                  go_ret
                  exact ⟨by rw [HZ2.out]; rfl, HB.out⟩
                · have s2 : decide (s < 0) = false := by simp; omega
                  have s3 : decide (1 ≤ s) = true := by simp; omega
                  have HZ2 : Hid (z = 28) := by
                    show _ = _
                    rw [← HZ.out, checkL]
                    repeat (first | rw [if_pos (by omega)] | rw [if_neg (by omega)])
                  (try clear hk); (try clear hn); (try clear hs)
                  go_enter Try.func33, Try.ntmps33
                  go_upto_region 1 with fail
                  rw [HW.out]
                  go_wp2_with fail
                  go_ret
                  exact ⟨by rw [HZ2.out]; rfl, HB.out⟩
            · have n1 : ((N : Int) != 0) = true := by simp; omega
              have n2 : (N != 0) = true := by simpa using hn
              have n3 : (N == 0) = false := by simpa using hn
              have HZ2 : Hid (z = 3) := by
                show _ = _
                rw [← HZ.out, checkL]
                repeat (first | rw [if_pos (by omega)] | rw [if_neg (by omega)])
              (try clear hk); (try clear hn); (try clear hs)
              go_enter Try.func33, Try.ntmps33
              go_upto_region 1 with fail
              rw [HW.out]
              go_wp2_with fail
              go_ret
              exact ⟨by rw [HZ2.out]; rfl, HB.out⟩
  · by_cases hk1 : k = 1
    · subst hk1
      by_cases hc1 : c < 1
      ·
        have hc1t0 : decide (c < 1) = true := by simp; omega
        have HZ2 : Hid (z = 2) := by
          show _ = _
          rw [← HZ.out, checkL]
          repeat (first | rw [if_pos (by omega)] | rw [if_neg (by omega)])
        (try clear hk); (try clear hn); (try clear hs)
        go_enter Try.func33, Try.ntmps33
        go_upto_region 1 with fail
        rw [HW.out]
        go_wp2_with fail
        go_ret
        exact ⟨by rw [HZ2.out]; rfl, HB.out⟩
      ·
        have hc1f0 : decide (c < 1) = false := by simp; omega
        by_cases hc2 : 1125899906842624 < c
        ·
          have hc2t0 : decide (1125899906842624 < c) = true := by simp; omega
          have HZ2 : Hid (z = 2) := by
            show _ = _
            rw [← HZ.out, checkL]
            repeat (first | rw [if_pos (by omega)] | rw [if_neg (by omega)])
          (try clear hk); (try clear hn); (try clear hs)
          go_enter Try.func33, Try.ntmps33
          go_upto_region 1 with fail
          rw [HW.out]
          go_wp2_with fail
          go_ret
          exact ⟨by rw [HZ2.out]; rfl, HB.out⟩
        ·
          have hc2f0 : decide (1125899906842624 < c) = false := by simp; omega
          by_cases hu1 : u < 0
          ·
            have hu1t0 : decide (u < 0) = true := by simp; omega
            have HZ2 : Hid (z = 2) := by
              show _ = _
              rw [← HZ.out, checkL]
              repeat (first | rw [if_pos (by omega)] | rw [if_neg (by omega)])
            (try clear hk); (try clear hn); (try clear hs)
            go_enter Try.func33, Try.ntmps33
            go_upto_region 1 with fail
            rw [HW.out]
            go_wp2_with fail
            go_ret
            exact ⟨by rw [HZ2.out]; rfl, HB.out⟩
          ·
            have hu1f0 : decide (u < 0) = false := by simp; omega
            by_cases hu2 : 1099511627776 < u
            ·
              have hu2t0 : decide (1099511627776 < u) = true := by simp; omega
              have HZ2 : Hid (z = 2) := by
                show _ = _
                rw [← HZ.out, checkL]
                repeat (first | rw [if_pos (by omega)] | rw [if_neg (by omega)])
              (try clear hk); (try clear hn); (try clear hs)
              go_enter Try.func33, Try.ntmps33
              go_upto_region 1 with fail
              rw [HW.out]
              go_wp2_with fail
              go_ret
              exact ⟨by rw [HZ2.out]; rfl, HB.out⟩
            ·
              have hu2f0 : decide (1099511627776 < u) = false := by simp; omega
              by_cases hn2 : N < 2
              ·
                have hn2t0 : decide ((N : Int) < (2 : Int)) = true := by simp; omega
                have hn2t1 : decide (N < 2) = true := by simp; omega
                have HZ2 : Hid (z = 3) := by
                  show _ = _
                  rw [← HZ.out, checkL]
                  repeat (first | rw [if_pos (by omega)] | rw [if_neg (by omega)])
                (try clear hk); (try clear hn); (try clear hs)
                go_enter Try.func33, Try.ntmps33
                go_upto_region 1 with fail
                rw [HW.out]
                go_wp2_with fail
                go_ret
                exact ⟨by rw [HZ2.out]; rfl, HB.out⟩
              ·
                have hn2f0 : decide ((N : Int) < (2 : Int)) = false := by simp; omega
                have hn2f1 : decide (N < 2) = false := by simp; omega
                by_cases hn8 : 8 < N
                ·
                  have hn8t0 : decide ((8 : Int) < (N : Int)) = true := by simp; omega
                  have hn8t1 : decide (8 < N) = true := by simp; omega
                  have HZ2 : Hid (z = 3) := by
                    show _ = _
                    rw [← HZ.out, checkL]
                    repeat (first | rw [if_pos (by omega)] | rw [if_neg (by omega)])
                  (try clear hk); (try clear hn); (try clear hs)
                  go_enter Try.func33, Try.ntmps33
                  go_upto_region 1 with fail
                  rw [HW.out]
                  go_wp2_with fail
                  go_ret
                  exact ⟨by rw [HZ2.out]; rfl, HB.out⟩
                ·
                  have hn8f0 : decide ((8 : Int) < (N : Int)) = false := by simp; omega
                  have hn8f1 : decide (8 < N) = false := by simp; omega
                  by_cases hs0 : s < 0
                  ·
                    have hs0t0 : decide (s < 0) = true := by simp; omega
                    have HZ2 : Hid (z = 28) := by
                      show _ = _
                      rw [← HZ.out, checkL]
                      repeat (first | rw [if_pos (by omega)] | rw [if_neg (by omega)])
                    (try clear hk); (try clear hn); (try clear hs)
                    go_enter Try.func33, Try.ntmps33
                    go_upto_region 1 with fail
                    rw [HW.out]
                    go_wp2_with fail
                    go_ret
                    exact ⟨by rw [HZ2.out]; rfl, HB.out⟩
                  ·
                    have hs0f0 : decide (s < 0) = false := by simp; omega
                    by_cases hsn : (N : Int) ≤ s
                    ·
                      have hsnt0 : decide ((N : Int) ≤ s) = true := by simp; omega
                      have hsnt1 : max (N : Int) 1 = N := by omega
                      have HZ2 : Hid (z = 28) := by
                        show _ = _
                        rw [← HZ.out, checkL]
                        repeat (first | rw [if_pos (by omega)] | rw [if_neg (by omega)])
                      (try clear hk); (try clear hn); (try clear hs)
                      go_enter Try.func33, Try.ntmps33
                      go_upto_region 1 with fail
                      rw [HW.out]
                      go_wp2_with fail
                      go_ret
                      exact ⟨by rw [HZ2.out]; rfl, HB.out⟩
                    ·
                      have hsnf0 : decide ((N : Int) ≤ s) = false := by simp; omega
                      have hsnf1 : max (N : Int) 1 = N := by omega
                      have HZ2 : Hid (z = 0) := by
                        show _ = _
                        rw [← HZ.out, checkL]
                        repeat (first | rw [if_pos (by omega)] | rw [if_neg (by omega)])
                      (try clear hk); (try clear hn); (try clear hs)
                      go_enter Try.func33, Try.ntmps33
                      go_upto_region 1 with fail
                      rw [HW.out]
                      go_wp2_with fail
                      go_ret
                      exact ⟨by rw [HZ2.out]; rfl, HB.out⟩
    · have k1 : (k != 0) = true := by simpa using hk
      have k2 : (k != 1) = true := by simpa using hk1
      have HZ2 : Hid (z = 11) := by
        show _ = _
        rw [← HZ.out, checkL]
        repeat (first | rw [if_pos (by omega)] | rw [if_neg (by omega)])
      (try clear hk); (try clear hn); (try clear hs)
      go_enter Try.func33, Try.ntmps33
      go_upto_region 1 with fail
      rw [HW.out]
      go_wp2_with fail
      go_ret
      exact ⟨by rw [HZ2.out]; rfl, HB.out⟩
end Go.Proofs.Ytbclfjdamklbpaa
