/- The plain law of trees: a path with its leaf is the root. -/
import Derived.Test.YtakfdlokgddaoaaDoorTG
namespace Go.Proofs.YtakfdlokgddaoaaDoor
open Go.RowKit

theorem upI_snoc : ∀ (xs : List (List Int)) (i : Nat) (d x : List Int), upI i d (xs ++ [x]) = stepW (i / 2 ^ xs.length) (upI i d xs) x
  | [], i, d, x => by simp [upI]
  | y :: ys, i, d, x => by
    rw [List.cons_append, upI, upI, upI_snoc ys, List.length_cons, Nat.div_div_eq_div_mul, Nat.pow_succ, Nat.mul_comm 2]
theorem upI_path (ls : List (List Int)) (i : Nat) : ∀ h, upI i (nodeI ls 0 i) (pathI ls i h) = nodeI ls h (i / 2 ^ h)
  | 0 => by rw [Nat.pow_zero, Nat.div_one]; rfl
  | h + 1 => by
    have e : i / 2 ^ (h + 1) = i / 2 ^ h / 2 := by rw [Nat.pow_succ, Nat.div_div_eq_div_mul]
    rw [pathI_snoc, upI_snoc, upI_path ls i h, pathI_len, nodeI_succ, e]
    generalize i / 2 ^ h = k
    unfold stepW sib
    by_cases hk : k % 2 = 0
    · rw [if_pos hk, if_neg (by omega), show 2 * (k / 2) = k by omega]
    · rw [if_neg hk, if_pos (by omega), show 2 * (k / 2) = k - 1 by omega, show k - 1 + 1 = k by omega]
theorem sib_ne (k : Nat) : sib k ≠ k := by unfold sib; split <;> omega
theorem pathL_in {ls : List (List Int)} {i : Nat} (hi : i < ls.length) (h4 : ls.length ≤ 4096) : pathL ls i = pathI ls i (heightI ls.length) := by
  unfold pathL
  rw [if_pos ⟨⟨by omega, h4⟩, by omega, by omega⟩, Int.toNat_natCast]
theorem in_height {ls : List (List Int)} {i : Nat} (hi : i < ls.length) (h4 : ls.length ≤ 4096) : i < 2 ^ heightI ls.length := Nat.lt_of_lt_of_le hi (height_up h4)
theorem withB_in {ls : List (List Int)} {i : Nat} (hi : i < ls.length) (h4 : ls.length ≤ 4096) : withB i (pathL ls i).length = true := by
  rw [pathL_in hi h4, pathI_len]
  exact decide_eq_true ⟨height_le h4, by omega, Int.ofNat_lt.2 (in_height hi h4)⟩
theorem withI_at {ls : List (List Int)} {i : Nat} {d : List Int} (hd : ls[i]? = some d) (h4 : ls.length ≤ 4096) : withI i d (pathL ls i) = rootI ls := by
  have hi : i < ls.length := (List.getElem?_eq_some_iff.1 hd).1
  have hu : i / 2 ^ heightI ls.length = 0 := Nat.div_eq_of_lt (in_height hi h4)
  have hn : nodeI ls 0 i = lowI d := by rw [nodeI_zero, hd, leafN]
  have hu2 := upI_path ls i (heightI ls.length)
  rw [hu, hn] at hu2
  unfold withI rootI
  rw [withB_in hi h4, if_pos rfl, if_pos ⟨by omega, h4⟩, Int.toNat_natCast, pathL_in hi h4, pathI_len, hu2]
theorem check_at {ls : List (List Int)} {i : Nat} {d : List Int} (hd : ls[i]? = some d) (h4 : ls.length ≤ 4096) : checkI (rootI ls) i d (pathL ls i) = true := by
  unfold checkI
  rw [withB_in (List.getElem?_eq_some_iff.1 hd).1 h4, withI_at hd h4, eqL_self]
  rfl
theorem check_in {ls : List (List Int)} {i : Nat} (hi : i < ls.length) (h4 : ls.length ≤ 4096) (r x : List Int) : checkI r i x (pathL ls i) = eqL (withI i x (pathL ls i)) r := by
  unfold checkI
  rw [withB_in hi h4, Bool.true_and]
end Go.Proofs.YtakfdlokgddaoaaDoor
