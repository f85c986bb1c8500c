/- What is signed is told apart: the plain law of the bytes of states, acts and payouts. -/
import Derived.Test.YthibihjblodfmaaS7
namespace Go.Proofs.Ythibihjblodfmaa
open Go.RowKit

theorem num_cut {a b : Nat} (ha : a < 18446744073709551616) (hb : b < 18446744073709551616) {x y : List Int} (h : numB a ++ x = numB b ++ y) : a = b ∧ x = y := by
  have h1 := look_num a ha x
  rw [h, look_num b hb y] at h1
  have h2 := congrArg Prod.fst h1
  have e : a = b := by simp only at h2; omega
  subst e
  exact ⟨rfl, List.append_cancel_left h⟩
theorem lst_cut {a b x y : List Int} (ha : a.length ≤ 4294967296) (hb : b.length ≤ 4294967296) (h : lstB a ++ x = lstB b ++ y) : a = b ∧ x = y := by
  unfold lstB at h
  rw [List.append_assoc, List.append_assoc] at h
  obtain ⟨h1, h2⟩ := num_cut (by omega) (by omega) h
  exact List.append_inj h2 h1
theorem lst_inj {a b : List Int} (ha : a.length ≤ 4294967296) (hb : b.length ≤ 4294967296) (h : lstB a = lstB b) : a = b := (lst_cut (x := []) (y := []) ha hb (by simpa using h)).1
theorem fold_inj {a b : Int} (ha : -9223372036854775808 ≤ a ∧ a < 9223372036854775808) (hb : -9223372036854775808 ≤ b ∧ b < 9223372036854775808) (h : foldI a = foldI b) : a = b := by
  unfold foldI at h
  split at h <;> split at h <;> omega
theorem st_st {t t' p p' : List Int} {n n' : Int} (ht : DgOk t) (ht' : DgOk t') (hn : -9223372036854775808 ≤ n ∧ n < 9223372036854775808) (hn' : -9223372036854775808 ≤ n' ∧ n' < 9223372036854775808) (hp : p.length ≤ 4294967296) (hp' : p'.length ≤ 4294967296)
    (h : stB t n p = stB t' n' p') : t = t' ∧ n = n' ∧ p = p' := by
  unfold stB at h
  obtain ⟨_, h⟩ := lst_cut (by decide) (by decide) h
  obtain ⟨h1, h⟩ := lst_cut (by rw [ht.len]; omega) (by rw [ht'.len]; omega) h
  obtain ⟨h2, h⟩ := num_cut (fold_lt hn.1 hn.2) (fold_lt hn'.1 hn'.2) h
  exact ⟨h1, fold_inj hn hn' h2, lst_inj hp hp' h⟩
theorem st_ac {t t' a p p' : List Int} {n n' : Int} (h : stB t n p = acB t' n' a p') : False := by
  unfold stB acB at h
  obtain ⟨h, _⟩ := lst_cut (by decide) (by decide) h
  exact absurd h (by decide)
theorem st_py {t t' p zs : List Int} {n : Int} (h : stB t n p = pyB t' zs) : False := by
  unfold stB pyB at h
  obtain ⟨h, _⟩ := lst_cut (by decide) (by decide) h
  exact absurd h (by decide)
theorem ac_py {t t' a p zs : List Int} {n : Int} (h : acB t n a p = pyB t' zs) : False := by
  unfold acB pyB at h
  obtain ⟨h, _⟩ := lst_cut (by decide) (by decide) h
  exact absurd h (by decide)
theorem str_ne {x y : List Int} (hx : ByOk x) (hy : ByOk y) (h : x ≠ y) : ((strOf x).toList == (strOf y).toList) = false := by rw [strOf_beq x y hx hy, eqL, decide_eq_false h]
end Go.Proofs.Ythibihjblodfmaa
