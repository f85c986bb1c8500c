/- Contracts of coin's and baizeref03's functions that only compute: Right, Add, Sub, Sum, Alike. -/
import Derived.Test.YtfapechlnllfaabRows
import Derived.Test.YtfapechlnllfaabLib
import Derived.BigGuardPart
import Derived.Deep.Light
import Derived.Deep.QuietTactic
import Derived.BigQuiet
namespace Go.Proofs.Ytfapechlnllfaab
open Go.RowKit

def rightB (n : Int) : Bool := decide (0 ≤ n) && decide (n ≤ 1125899906842624)
theorem right_t {n : Int} (h : 0 ≤ n) (h' : n ≤ 1125899906842624) : rightB n = true := by simp [rightB, h, h']
theorem right_f1 {n : Int} (h : n < 0) : rightB n = false := by simp [rightB]; omega
theorem right_of {n : Int} (h : rightB n = true) : 0 ≤ n ∧ n ≤ 1125899906842624 := by simpa [rightB] using h

theorem right_any (n : Int) (w : World) :
    Calls Try.prog 37 #[.int .i64 n] w fun e w' => e = .returned (.bool (rightB n)) ∧ w = w' := by
  go_enter Try.func37, Try.ntmps37
  go_wp2
  all_goals
    go_ret
    exact ⟨by simp [rightB, *] <;> omega, rfl⟩
theorem rright_any (n : Int) (w : World) :
    Calls Try.prog 30 #[.int .i64 n] w fun e w' => e = .returned (.bool (rightB n)) ∧ w = w' := by
  go_enter Try.func30, Try.ntmps30
  go_wp2
  all_goals
    go_ret
    exact ⟨by simp [rightB, *] <;> omega, rfl⟩

def addV (a b : Int) : Int := if rightB a && rightB b && rightB (a + b) then a + b else 0
def addE (a b : Int) : Int := if rightB a && rightB b && rightB (a + b) then 0 else 2
def subV (a b : Int) : Int := if rightB a && rightB b && decide (b ≤ a) then a - b else 0
def subE (a b : Int) : Int := if rightB a && rightB b then (if b ≤ a then 0 else 21) else 2

theorem add_any (a b : Int) (w : World) :
    Calls Try.prog 36 #[.int .i64 a, .int .i64 b] w fun e w' => e = .returned (.tuple #[.int .i64 (addV a b), .int .i64 (addE a b)]) ∧ w = w' := by
  have hab : rightB a = true → rightB b = true → wrap64 (a + b) = a + b := fun h h' => by
    have := right_of h; have := right_of h'; exact IntWalk.wrap64_in _ (by omega)
  go_enter Try.func36, Try.ntmps36
  go_wp2_with (go_at_call 37; refine (right_any _ _).mono ?_; rintro e w' ⟨rfl, rfl⟩)
  all_goals
    go_ret2
    go_light
    exact ⟨by simp_all [addV, addE], rfl⟩
def sumG : Int → List Int → Int × Int
  | s, [] => (s, 0)
  | s, x :: l => if addE s x = 0 then sumG (addV s x) l else (0, addE s x)

theorem sum_any (A : Option Addr) (n c : Nat) (zs : List Int) (w : World) (h : Sl w w.heap.size 1 A n (zs.map (.int .i64))) :
    Calls Try.prog 27 #[.slice A n c] w fun e w' => e = .returned (.tuple #[.int .i64 (sumG 0 zs).1, .int .i64 (sumG 0 zs).2]) ∧ w = w' := by
  have hn := h.le
  have hl := h.length
  have H := Lib.hid h; clear h
  have HL := Lib.hid hl; clear hl
  go_enter Try.func27, Try.ntmps27
  go_wp2_with fail
  go_loop [4, 11] (fun s i => ∃ (k : Nat) (sv : Int), k ≤ n ∧ i = .int .i64 k ∧ s = .int .i64 sv ∧ Hid (sumG sv (zs.drop k) = sumG 0 zs)) (fun _ i => n - (intOf i).toNat)
  case atStart => exact ⟨0, 0, Nat.zero_le _, rfl, rfl, rfl⟩
  case round =>
    obtain ⟨k, sv, hk, rfl, rfl, hs⟩ := hrel
    by_cases hlt : k < n
    · obtain ⟨ad, z, rfl, hb, hz, hc⟩ := H.out.at_ hlt
      have HZ := Lib.hid hz; clear hz
      go_wp2_with (go_at_call 36; refine (add_any _ _ _).mono ?_; rintro e w' ⟨rfl, rfl⟩)
      · go_ret2
        go_light
        have e1 := hs.out; rw [drop_cons HZ.out] at e1
        exact ⟨by rw [← e1]; clear e1 hs; simp_all [sumG], rfl⟩
      · go_round
        case rel =>
          have e1 := hs.out; rw [drop_cons HZ.out] at e1
          exact ⟨k + 1, _, by omega, by go_num, rfl, by show _ = _; rw [← e1]; clear e1 hs; simp_all [sumG]⟩
        case measure => simp [intOf]; omega
    · go_wp2_with fail
      go_ret2
      go_light
      have e1 := hs.out; rw [List.drop_eq_nil_of_le (by have := HL.out; omega)] at e1
      exact ⟨by rw [← e1]; simp [sumG], rfl⟩
theorem radd_any (a b : Int) (w : World) :
    Calls Try.prog 35 #[.int .i64 a, .int .i64 b] w fun e w' => e = .returned (.tuple #[.int .i64 (addV a b), .int .i64 (addE a b)]) ∧ w = w' := by
  have hab : rightB a = true → rightB b = true → wrap64 (a + b) = a + b := fun h h' => by
    have := right_of h; have := right_of h'; exact IntWalk.wrap64_in _ (by omega)
  go_enter Try.func35, Try.ntmps35
  go_wp2_with (go_at_call 30; refine (rright_any _ _).mono ?_; rintro e w' ⟨rfl, rfl⟩)
  all_goals
    go_ret2
    go_light
    exact ⟨by simp_all [addV, addE], rfl⟩
theorem rsum_any (A : Option Addr) (n c : Nat) (zs : List Int) (w : World) (h : Sl w w.heap.size 1 A n (zs.map (.int .i64))) :
    Calls Try.prog 25 #[.slice A n c] w fun e w' => e = .returned (.tuple #[.int .i64 (sumG 0 zs).1, .int .i64 (sumG 0 zs).2]) ∧ w = w' := by
  have hn := h.le
  have hl := h.length
  have H := Lib.hid h; clear h
  have HL := Lib.hid hl; clear hl
  go_enter Try.func25, Try.ntmps25
  go_wp2_with fail
  go_loop [4, 5] (fun s i => ∃ (k : Nat) (sv : Int), k ≤ n ∧ i = .int .i64 k ∧ s = .int .i64 sv ∧ Hid (sumG sv (zs.drop k) = sumG 0 zs)) (fun _ i => n - (intOf i).toNat)
  case atStart => exact ⟨0, 0, Nat.zero_le _, rfl, rfl, rfl⟩
  case round =>
    obtain ⟨k, sv, hk, rfl, rfl, hs⟩ := hrel
    by_cases hlt : k < n
    · obtain ⟨ad, z, rfl, hb, hz, hc⟩ := H.out.at_ hlt
      have HZ := Lib.hid hz; clear hz
      go_wp2_with (go_at_call 35; refine (radd_any _ _ _).mono ?_; rintro e w' ⟨rfl, rfl⟩)
      · go_ret2
        go_light
        have e1 := hs.out; rw [drop_cons HZ.out] at e1
        exact ⟨by rw [← e1]; clear e1 hs; simp_all [sumG], rfl⟩
      · go_round
        case rel =>
          have e1 := hs.out; rw [drop_cons HZ.out] at e1
          exact ⟨k + 1, _, by omega, by go_num, rfl, by show _ = _; rw [← e1]; clear e1 hs; simp_all [sumG]⟩
        case measure => simp [intOf]; omega
    · go_wp2_with fail
      go_ret2
      go_light
      have e1 := hs.out; rw [List.drop_eq_nil_of_le (by have := HL.out; omega)] at e1
      exact ⟨by rw [← e1]; simp [sumG], rfl⟩


theorem alike_any (A B : Option Addr) (n c m d : Nat) (xs ys : List Int) (w : World) (h : Sl w w.heap.size 1 A n (xs.map (.int .i64))) (h' : Sl w w.heap.size 1 B m (ys.map (.int .i64))) :
    Calls Try.prog 17 #[.slice A n c, .slice B m d] w fun e w' => e = .returned (.bool (eqL xs ys)) ∧ ∃ q, w' = w.drewN q := by
  have hn := h.le
  have hm := h'.le
  have HL := Lib.hid h.length
  have HL' := Lib.hid h'.length
  have H := Lib.hid h; clear h
  have H' := Lib.hid h'; clear h'
  go_enter Try.func17, Try.ntmps17
  by_cases hnm : n = m
  · subst hnm
    go_wp2_with fail
    go_loopw [5] (fun i wr => ∃ k q : Nat, k ≤ n ∧ i = .int .i64 k ∧ wr = w.drewN q ∧ Hid (eqL (xs.drop k) (ys.drop k) = eqL xs ys)) (fun i _ => n - (intOf i).toNat)
    case atStart => exact ⟨0, 0, Nat.zero_le _, rfl, rfl, rfl⟩
    case round =>
      obtain ⟨k, q, hk, rfl, rfl, hs⟩ := hrel
      by_cases hlt : k < n
      · obtain ⟨ad, z, rfl, hb, hz, hc⟩ := H.out.at_ hlt
        obtain ⟨ad', z', rfl, hb', hz', hc'⟩ := H'.out.at_ hlt
        have HZ := Lib.hid hz; clear hz
        have HZ' := Lib.hid hz'; clear hz'
        have hkn : (k : Int) < n := by omega
        go_wp2_with fail
        go_quiet (fail)
        go_wp2_with fail
        · go_ret
          go_light
          have e1 := hs.out; rw [drop_cons HZ.out, drop_cons HZ'.out] at e1
          exact ⟨by rw [← e1]; clear e1 hs; simp_all [eqL], q + nq, by first | rfl | exact World.drewN_drewN _ _ _⟩
        · go_roundw
          case rel =>
            have e1 := hs.out; rw [drop_cons HZ.out, drop_cons HZ'.out] at e1
            exact ⟨k + 1, q + nq, by omega, by go_num, by first | rfl | exact World.drewN_drewN _ _ _, by show _ = _; rw [← e1]; clear e1 hs; simp_all [eqL]⟩
          case measure => simp [intOf]; omega
      · go_wp2_with fail
        go_ret
        go_light
        have e1 := hs.out
        rw [List.drop_eq_nil_of_le (by have := HL.out; omega), List.drop_eq_nil_of_le (by have := HL'.out; omega)] at e1
        exact ⟨by rw [← e1]; simp [eqL], _, rfl⟩
  · have hne : ((n : Int) != m) = true := by simp; omega
    go_wp2_with fail
    go_ret
    have : eqL xs ys = false := by simp [eqL]; rintro rfl; have := HL.out; have := HL'.out; omega
    exact ⟨by rw [this]; simp, 0, rfl⟩
end Go.Proofs.Ytfapechlnllfaab
