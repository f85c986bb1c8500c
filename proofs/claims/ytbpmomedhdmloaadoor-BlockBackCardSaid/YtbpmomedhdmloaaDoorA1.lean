/- Contracts of coin's and baizeref03's functions that only compute: Right, Add, Sub, Sum, Alike. -/
import Derived.Test.YtbpmomedhdmloaaDoorRows
import Derived.Test.YtbpmomedhdmloaaDoorLib
import Derived.BigGuardPart
import Derived.Deep.Light
import Derived.Deep.QuietTactic
import Derived.BigQuiet
namespace Go.Proofs.YtbpmomedhdmloaaDoor
open Go.RowKit

def rightB (n : Int) : Bool := decide (0 ≤ n) && decide (n ≤ 1125899906842624)
theorem right_t {n : Int} (h : 0 ≤ n) (h' : n ≤ 1125899906842624) : rightB n = true := by simp [rightB, h, h']
theorem right_f1 {n : Int} (h : n < 0) : rightB n = false := by simp [rightB]; omega
theorem right_of {n : Int} (h : rightB n = true) : 0 ≤ n ∧ n ≤ 1125899906842624 := by simpa [rightB] using h

theorem right_any (n : Int) (w : World) :
    Calls Tryd.prog 79 #[.int .i64 n] w fun e w' => e = .returned (.bool (rightB n)) ∧ w = w' := by
  go_enter Tryd.func79, Tryd.ntmps79
  go_wp2
  all_goals
    go_ret
    exact ⟨by simp [rightB, *] <;> omega, rfl⟩
def addV (a b : Int) : Int := if rightB a && rightB b && rightB (a + b) then a + b else 0
def addE (a b : Int) : Int := if rightB a && rightB b && rightB (a + b) then 0 else 2
def subV (a b : Int) : Int := if rightB a && rightB b && decide (b ≤ a) then a - b else 0
def subE (a b : Int) : Int := if rightB a && rightB b then (if b ≤ a then 0 else 21) else 2

theorem add_any (a b : Int) (w : World) :
    Calls Tryd.prog 62 #[.int .i64 a, .int .i64 b] w fun e w' => e = .returned (.tuple #[.int .i64 (addV a b), .int .i64 (addE a b)]) ∧ w = w' := by
  have hab : rightB a = true → rightB b = true → wrap64 (a + b) = a + b := fun h h' => by
    have := right_of h; have := right_of h'; exact IntWalk.wrap64_in _ (by omega)
  go_enter Tryd.func62, Tryd.ntmps62
  go_wp2_with (go_at_call 79; refine (right_any _ _).mono ?_; rintro e w' ⟨rfl, rfl⟩)
  all_goals
    go_ret2
    go_light
    exact ⟨by simp_all [addV, addE], rfl⟩
def sumG : Int → List Int → Int × Int
  | s, [] => (s, 0)
  | s, x :: l => if addE s x = 0 then sumG (addV s x) l else (0, addE s x)

theorem sum_any (A : Option Addr) (n c : Nat) (zs : List Int) (w : World) (h : Sl w w.heap.size 1 A n (zs.map (.int .i64))) :
    Calls Tryd.prog 35 #[.slice A n c] w fun e w' => e = .returned (.tuple #[.int .i64 (sumG 0 zs).1, .int .i64 (sumG 0 zs).2]) ∧ w = w' := by
  have hn := h.le
  have hl := h.length
  have H := Lib.hid h; clear h
  have HL := Lib.hid hl; clear hl
  go_enter Tryd.func35, Tryd.ntmps35
  go_wp2_with fail
  go_loop [4, 11] (fun s i => ∃ (k : Nat) (sv : Int), k ≤ n ∧ i = .int .i64 k ∧ s = .int .i64 sv ∧ Hid (sumG sv (zs.drop k) = sumG 0 zs)) (fun _ i => n - (intOf i).toNat)
  case atStart => exact ⟨0, 0, Nat.zero_le _, rfl, rfl, rfl⟩
  case round =>
    obtain ⟨k, sv, hk, rfl, rfl, hs⟩ := hrel
    by_cases hlt : k < n
    · obtain ⟨ad, z, rfl, hb, hz, hc⟩ := H.out.at_ hlt
      have HZ := Lib.hid hz; clear hz
      go_wp2_with (go_at_call 62; refine (add_any _ _ _).mono ?_; rintro e w' ⟨rfl, rfl⟩)
      · go_ret2
        go_light
        have e1 := hs.out; rw [drop_cons HZ.out] at e1
        exact ⟨by rw [← e1]; clear e1 hs; simp_all [sumG], rfl⟩
      · go_round
        case rel =>
          have e1 := hs.out; rw [drop_cons HZ.out] at e1
          exact ⟨k + 1, _, by omega, by go_num, rfl, by show _ = _; rw [← e1]; clear e1 hs; simp_all [sumG]⟩
        case measure => simp [intOf]; omega
    · go_wp2_with fail
      go_ret2
      go_light
      have e1 := hs.out; rw [List.drop_eq_nil_of_le (by have := HL.out; omega)] at e1
      exact ⟨by rw [← e1]; simp [sumG], rfl⟩
end Go.Proofs.YtbpmomedhdmloaaDoor
