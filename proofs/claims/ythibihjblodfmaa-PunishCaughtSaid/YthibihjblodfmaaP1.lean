/- Shares of a lost bond, in plain Lean: as coin.Split gives them, and as the document does. -/
import Derived.Test.YthibihjblodfmaaC2
import Derived.Test.YthibihjblodfmaaLib2
namespace Go.Proofs.Ythibihjblodfmaa
open Go.RowKit

/-- Who has a share: i-th on, of those that are there. -/
def eligG (who : Int) : Nat → List Bool → List Bool
  | _, [] => []
  | i, g :: l => (!((i : Int) == who) && !g) :: eligG who (i + 1) l
def wOf (l : List Bool) : List Int := l.map fun b => if b then 1 else 0
def cnt : List Bool → Int
  | [] => 0
  | b :: l => (if b then 1 else 0) + cnt l
/-- q to each that has a share, one more to the first m of them. -/
def shG (q : Int) : Int → List Bool → List Int
  | _, [] => []
  | m, true :: l => (if 0 < m then q + 1 else q) :: shG q (if 0 < m then m - 1 else m) l
  | m, false :: l => 0 :: shG q m l

theorem elig_len (who : Int) : ∀ (l : List Bool) (i : Nat), (eligG who i l).length = l.length
  | [], _ => rfl
  | _ :: l, i => by simp [eligG, elig_len who l (i + 1)]
theorem cnt_nonneg : ∀ l, 0 ≤ cnt l
  | [] => by simp [cnt]
  | b :: l => by have := cnt_nonneg l; cases b <;> simp [cnt] <;> omega
theorem cnt_le : ∀ l, cnt l ≤ l.length
  | [] => by simp [cnt]
  | b :: l => by have := cnt_le l; cases b <;> simp [cnt] <;> omega
theorem shG_len (q : Int) : ∀ (l : List Bool) (m : Int), (shG q m l).length = l.length
  | [], _ => rfl
  | true :: l, m => by simp [shG, shG_len q l]
  | false :: l, m => by simp [shG, shG_len q l]
theorem wsum_w : ∀ (l : List Bool) (s : Int), wsum s (wOf l) = some (s + cnt l)
  | [], s => by simp [wOf, wsum, cnt]
  | b :: l, s => by
    have ih := wsum_w l
    cases b
    · simp only [wOf, List.map_cons, wsum, cnt]; rw [if_neg (by simp)]; simpa [wOf] using ih s
    · simp only [wOf, List.map_cons, wsum, cnt]; rw [if_neg (by simp)]
      have := ih (s + 1)
      simp only [wOf] at this
      simp only [if_true]
      rw [this]; congr 1; omega
theorem shG_zero (q : Int) : ∀ l, shG q 0 l = l.map fun b => if b then q else 0
  | [] => rfl
  | true :: l => by simp [shG, shG_zero q l]
  | false :: l => by simp [shG, shG_zero q l]
theorem parts_w (bond n : Int) (l : List Bool) : partsG bond n (wOf l) = l.map fun b => if b then bond / n else 0 := by
  unfold partsG wOf
  rw [List.map_map]
  refine List.map_congr_left fun b _ => ?_
  cases b <;> simp
theorem left_w (q : Int) : ∀ (l : List Bool) (t : Int), leftG t (l.map fun b => if b then q else 0) = t - q * cnt l
  | [], t => by simp [leftG, cnt]
  | b :: l, t => by
    rw [List.map_cons, leftG, left_w q l, cnt]
    cases b
    · simp
    · simp only [if_true]
      rw [Int.mul_add]; omega
theorem rest_w (q : Int) : ∀ (l : List Bool) (m : Int), 0 ≤ m → restG m (wOf l) (l.map fun b => if b then q else 0) = shG q m l
  | [], m, _ => by simp [wOf, restG, shG]
  | b :: l, m, hm => by
    have ih := rest_w q l
    simp only [wOf, List.map_cons, restG]
    by_cases h0 : m = 0
    · subst h0
      rw [if_pos rfl]
      rw [shG_zero]; rfl
    · rw [if_neg h0]
      cases b
      · simp only [Bool.false_eq_true, if_false, if_true, shG]
        rw [show (List.map (fun b => if b = true then (1 : Int) else 0) l) = wOf l from rfl, ih m hm]
      · simp only [if_true, shG]
        rw [if_neg (by decide), if_pos (by omega), if_pos (by omega), show (List.map (fun b => if b = true then (1 : Int) else 0) l) = wOf l from rfl, ih (m - 1) (by omega)]

def sumL : List Int → Int
  | [] => 0
  | x :: l => x + sumL l
theorem sum_sh (q : Int) : ∀ (l : List Bool) (m : Int), 0 ≤ m → m ≤ cnt l → sumL (shG q m l) = q * cnt l + m
  | [], m, h0, h1 => by simp [cnt] at h1; simp [shG, sumL, cnt]; omega
  | true :: l, m, h0, h1 => by
    simp only [cnt, if_true] at h1
    simp only [shG, sumL, cnt, if_true]
    by_cases hm : 0 < m
    · rw [if_pos hm, if_pos hm, sum_sh q l (m - 1) (by omega) (by omega), Int.mul_add]; omega
    · have : m = 0 := by omega
      subst this
      rw [if_neg hm, if_neg hm, sum_sh q l 0 (by omega) (cnt_nonneg l), Int.mul_add]; omega
  | false :: l, m, h0, h1 => by
    simp [cnt] at h1
    simp only [shG, sumL, cnt]
    rw [sum_sh q l m h0 h1]; simp

/-- Whole: what each has of the bond that one loses. -/
def sharesG (bond who : Int) (gone : List Bool) : List Int × Int :=
  if rightB bond = false then ([], 2)
  else if gone.length < 2 ∨ 8 < gone.length then ([], 3)
  else if who < 0 ∨ (gone.length : Int) ≤ who then ([], 28)
  else if cnt (eligG who 0 gone) = 0 then ((List.replicate gone.length 0).set who.toNat bond, 0)
  else (shG (bond / cnt (eligG who 0 gone)) (bond % cnt (eligG who 0 gone)) (eligG who 0 gone), 0)

theorem shares_bad (bond who : Int) (gone : List Bool) (h : rightB bond = false) : sharesG bond who gone = ([], 2) := by simp [sharesG, h]
theorem shares_len (bond who : Int) (gone : List Bool) (h : rightB bond = true) (h2 : gone.length < 2 ∨ 8 < gone.length) : sharesG bond who gone = ([], 3) := by
  unfold sharesG; rw [if_neg (by simp [h]), if_pos h2]
theorem shares_seat (bond who : Int) (gone : List Bool) (h : rightB bond = true) (h2 : ¬ (gone.length < 2 ∨ 8 < gone.length)) (h3 : who < 0 ∨ (gone.length : Int) ≤ who) : sharesG bond who gone = ([], 28) := by
  unfold sharesG; rw [if_neg (by simp [h]), if_neg h2, if_pos h3]
theorem shares_alone (bond who : Int) (gone : List Bool) (h : rightB bond = true) (h2 : ¬ (gone.length < 2 ∨ 8 < gone.length)) (h3 : ¬ (who < 0 ∨ (gone.length : Int) ≤ who)) (h4 : cnt (eligG who 0 gone) = 0) :
    sharesG bond who gone = ((List.replicate gone.length 0).set who.toNat bond, 0) := by
  unfold sharesG; rw [if_neg (by simp [h]), if_neg h2, if_neg h3, if_pos h4]
theorem shares_some (bond who : Int) (gone : List Bool) (h : rightB bond = true) (h2 : ¬ (gone.length < 2 ∨ 8 < gone.length)) (h3 : ¬ (who < 0 ∨ (gone.length : Int) ≤ who)) (h4 : ¬ cnt (eligG who 0 gone) = 0) :
    sharesG bond who gone = (shG (bond / cnt (eligG who 0 gone)) (bond % cnt (eligG who 0 gone)) (eligG who 0 gone), 0) := by
  unfold sharesG; rw [if_neg (by simp [h]), if_neg h2, if_neg h3, if_neg h4]

theorem split_elig (bond : Int) (l : List Bool) (h : rightB bond = true) (h8 : 0 < l.length ∧ l.length ≤ 8) (h4 : ¬ cnt l = 0) : splitG bond (wOf l) = (shG (bond / cnt l) (bond % cnt l) l, 0) := by
  have hs := wsum_w l 0
  rw [Int.zero_add] at hs
  have hc := cnt_nonneg l
  rw [split_some bond (wOf l) h (by have e : (wOf l).length = l.length := (by simp [wOf]); omega) hs h4, parts_w, left_w]
  have e : bond - bond / cnt l * cnt l = bond % cnt l := by have := Int.emod_add_mul_ediv bond (cnt l); rw [Int.mul_comm] at this; omega
  rw [e, rest_w _ _ _ (Int.emod_nonneg _ h4)]

theorem wsum_zero : ∀ (n : Nat) (s : Int), wsum s (List.replicate n 0) = some s
  | 0, s => by simp [wsum]
  | n + 1, s => by simp [List.replicate_succ, wsum, wsum_zero n s]
theorem wsum_one : ∀ (n k : Nat) (s : Int), k < n → wsum s ((List.replicate n 0).set k 1) = some (s + 1)
  | n + 1, 0, s, _ => by simp [List.replicate_succ, wsum, wsum_zero]
  | n + 1, k + 1, s, h => by simp [List.replicate_succ, wsum, wsum_one n k s (by omega)]
theorem leftG_zero : ∀ (n : Nat) (t : Int), leftG t (List.replicate n 0) = t
  | 0, t => by simp [leftG]
  | n + 1, t => by simp [List.replicate_succ, leftG, leftG_zero n]
theorem leftG_one (b : Int) : ∀ (n k : Nat) (t : Int), k < n → leftG t ((List.replicate n 0).set k b) = t - b
  | n + 1, 0, t, _ => by simp [List.replicate_succ, leftG, leftG_zero]
  | n + 1, k + 1, t, h => by simp [List.replicate_succ, leftG, leftG_one b n k t (by omega)]
theorem restG_zero : ∀ (ws ps : List Int), restG 0 ws ps = ps
  | [], ps => by simp [restG]
  | _ :: _, [] => by simp [restG]
  | x :: ws, p :: ps => by simp [restG]
theorem split_alone (bond : Int) (n k : Nat) (h : rightB bond = true) (h8 : 0 < n ∧ n ≤ 8) (hk : k < n) : splitG bond ((List.replicate n 0).set k 1) = ((List.replicate n 0).set k bond, 0) := by
  have hs := wsum_one n k 0 hk
  rw [split_some bond _ h (by simp; omega) hs (by decide)]
  have e : partsG bond (0 + 1) ((List.replicate n 0).set k 1) = (List.replicate n 0).set k bond := by
    unfold partsG; rw [List.map_set]; simp
  rw [e, leftG_one bond n k bond hk, Int.sub_self, restG_zero]
end Go.Proofs.Ythibihjblodfmaa
