/- Numbers in bytes, seven bits each: the plain law. -/
import Derived.Test.YthibihjblodfmaaLib2
namespace Go.Proofs.Ythibihjblodfmaa

/-- The bytes of a number, at most f of them but the last one. -/
def numF : Nat → Nat → List Int
  | 0, n => [(n : Int)]
  | f + 1, n => if n < 128 then [(n : Int)] else ((n % 128 + 128 : Nat) : Int) :: numF f (n / 128)
/-- The bytes of a number below 2^64. -/
def numB (n : Nat) : List Int := numF 9 n
theorem numF_small {f n : Nat} (h : n < 128) : numF f n = [(n : Int)] := by cases f <;> simp [numF, h]
theorem numF_big {f n : Nat} (h : 128 ≤ n) : numF (f + 1) n = ((n % 128 + 128 : Nat) : Int) :: numF f (n / 128) := by rw [numF, if_neg (by omega)]
theorem numF_len : ∀ f n, 1 ≤ (numF f n).length ∧ (numF f n).length ≤ f + 1
  | 0, n => by simp [numF]
  | f + 1, n => by
    by_cases h : n < 128
    · rw [numF_small h]; simp
    · rw [numF_big (by omega), List.length_cons]
      have := numF_len f (n / 128)
      omega
/-- How many bytes ahead have the mark 128, of the first ten. -/
def runB : Nat → List Int → Nat
  | 0, _ => 0
  | _, [] => 0
  | f + 1, b :: bs => if b < 128 then 0 else 1 + runB f bs
/-- The number of k + 1 bytes. -/
def sumB : Nat → List Int → Int
  | _, [] => 0
  | 0, b :: _ => b % 128
  | k + 1, b :: bs => b % 128 + 128 * sumB k bs
/-- What bytes begin with: the number, how many bytes it has, the error (0, 3 form, 4 short). -/
def lookB (bs : List Int) : Int × Nat × Int :=
  let k := runB 10 bs
  if k = bs.length ∧ k < 10 then (0, 0, 4)
  else if k = 10 ∨ (0 < k ∧ bs.getD k 0 = 0) ∨ (k = 9 ∧ 1 < bs.getD 9 0) then (0, 0, 3)
  else (sumB k bs, k + 1, 0)
theorem run_num : ∀ (f n F : Nat) (rest : List Int), n < 128 ^ (f + 1) → f < F → runB F (numF f n ++ rest) = (numF f n).length - 1
  | 0, n, F + 1, rest, hn, _ => by
    rw [numF_small (by omega)]
    show (if (n : Int) < 128 then 0 else _) = _
    rw [if_pos (by omega)]; rfl
  | f + 1, n, F + 1, rest, hn, hF => by
    by_cases h : n < 128
    · rw [numF_small h]
      show (if (n : Int) < 128 then 0 else _) = _
      rw [if_pos (by omega)]; rfl
    · rw [numF_big (by omega)]
      show (if ((n % 128 + 128 : Nat) : Int) < 128 then 0 else 1 + runB F (numF f (n / 128) ++ rest)) = _
      rw [if_neg (by omega), run_num f (n / 128) F rest (Nat.div_lt_of_lt_mul (by rw [Nat.pow_succ, Nat.mul_comm] at hn; exact hn)) (by omega), List.length_cons]
      have := numF_len f (n / 128)
      omega
theorem sum_num : ∀ (f n : Nat) (rest : List Int), n < 128 ^ (f + 1) → sumB ((numF f n).length - 1) (numF f n ++ rest) = n
  | 0, n, rest, hn => by
    rw [numF_small (by omega)]
    show (n : Int) % 128 = n
    omega
  | f + 1, n, rest, hn => by
    by_cases h : n < 128
    · rw [numF_small h]
      show (n : Int) % 128 = n
      omega
    · rw [numF_big (by omega), List.length_cons]
      have hl := numF_len f (n / 128)
      obtain ⟨k, hk⟩ : ∃ k, (numF f (n / 128)).length = k + 1 := ⟨(numF f (n / 128)).length - 1, by omega⟩
      have ih := sum_num f (n / 128) rest (Nat.div_lt_of_lt_mul (by rw [Nat.pow_succ, Nat.mul_comm] at hn; exact hn))
      rw [hk] at ih ⊢
      show ((n % 128 + 128 : Nat) : Int) % 128 + 128 * sumB k (numF f (n / 128) ++ rest) = n
      rw [show k + 1 - 1 = k from rfl] at ih
      rw [ih]
      omega
theorem num_ok : ∀ (f n : Nat), n < 128 ^ (f + 1) → ∀ b ∈ numF f n, 0 ≤ b ∧ b < 256
  | 0, n, hn, b, hb => by
    rw [numF_small (by omega)] at hb
    simp at hb; subst hb; omega
  | f + 1, n, hn, b, hb => by
    by_cases h : n < 128
    · rw [numF_small h] at hb
      simp at hb; subst hb; omega
    · rw [numF_big (by omega), List.mem_cons] at hb
      rcases hb with rfl | hb
      · omega
      · exact num_ok f (n / 128) (Nat.div_lt_of_lt_mul (by rw [Nat.pow_succ, Nat.mul_comm] at hn; exact hn)) b hb
/-- The last byte of a number that has more than one is not 0. -/
theorem num_last : ∀ (f n : Nat) (rest : List Int), 0 < n → (numF f n ++ rest).getD ((numF f n).length - 1) 0 ≠ 0
  | 0, n, rest, hn => by
    show (n : Int) ≠ 0
    omega
  | f + 1, n, rest, hn => by
    by_cases h : n < 128
    · rw [numF_small h]
      show (n : Int) ≠ 0
      omega
    · rw [numF_big (by omega), List.length_cons]
      have hl := numF_len f (n / 128)
      obtain ⟨k, hk⟩ : ∃ k, (numF f (n / 128)).length = k + 1 := ⟨(numF f (n / 128)).length - 1, by omega⟩
      have ih := num_last f (n / 128) rest (by omega)
      rw [hk] at ih ⊢
      exact ih
theorem num_top : ∀ (f n : Nat) (rest : List Int), n < 128 ^ (f + 1) → (numF f n).length = f + 1 → (numF f n ++ rest).getD f 0 = ((n / 128 ^ f : Nat) : Int)
  | 0, n, rest, hn, _ => by
    rw [Nat.pow_zero, Nat.div_one]; rfl
  | f + 1, n, rest, hn, hl => by
    by_cases h : n < 128
    · rw [numF_small h] at hl; simp at hl
    · rw [numF_big (by omega), List.length_cons] at hl
      have ih := num_top f (n / 128) rest (Nat.div_lt_of_lt_mul (by rw [Nat.pow_succ, Nat.mul_comm] at hn; exact hn)) (by omega)
      rw [numF_big (by omega), Nat.pow_succ, Nat.mul_comm, ← Nat.div_div_eq_div_mul]
      exact ih
/-- What a number's bytes begin with is that number. -/
theorem look_num (n : Nat) (hn : n < 18446744073709551616) (rest : List Int) : lookB (numB n ++ rest) = ((n : Int), (numB n).length, 0) := by
  have h128 : n < 128 ^ (9 + 1) := Nat.lt_of_lt_of_le hn (by decide)
  have hl := numF_len 9 n
  have hr : runB 10 (numB n ++ rest) = (numB n).length - 1 := run_num 9 n 10 rest h128 (by decide)
  have hs : sumB ((numB n).length - 1) (numB n ++ rest) = n := sum_num 9 n rest h128
  have hlen : (numB n ++ rest).length = (numB n).length + rest.length := List.length_append
  have hb : 1 ≤ (numB n).length ∧ (numB n).length ≤ 10 := hl
  unfold lookB
  rw [hr]
  simp only
  rw [if_neg (by omega), if_neg, hs, show (numB n).length - 1 + 1 = (numB n).length by omega]
  rintro (h | ⟨h, h0⟩ | ⟨h, h1⟩)
  · omega
  · have hn0 : 0 < n := by
      rcases Nat.eq_zero_or_pos n with rfl | h0
      · rw [show (numB 0).length = 1 from rfl] at h; omega
      · exact h0
    exact num_last 9 n rest hn0 h0
  · have := num_top 9 n rest h128 (show (numB n).length = 9 + 1 by omega)
    rw [show (numB n ++ rest).getD 9 0 = ((n / 128 ^ 9 : Nat) : Int) from this] at h1
    have h2 : n / 128 ^ 9 < 2 := Nat.div_lt_of_lt_mul (Nat.lt_of_lt_of_le hn (by decide))
    omega
theorem sumB_nonneg : ∀ (k : Nat) (bs : List Int), 0 ≤ sumB k bs
  | 0, [] => Int.le_refl _
  | k + 1, [] => Int.le_refl _
  | 0, b :: bs => by show 0 ≤ b % 128; omega
  | k + 1, b :: bs => by
    show 0 ≤ b % 128 + 128 * sumB k bs
    have := sumB_nonneg k bs
    omega
/-- Bytes that a number begins with are that number's. -/
theorem back_num : ∀ (k : Nat) (bs : List Int) (F f : Nat), runB F bs = k → k < F → k < bs.length → (0 < k → bs.getD k 0 ≠ 0) → (∀ b ∈ bs, 0 ≤ b ∧ b < 256) → k ≤ f → numF f (sumB k bs).toNat = bs.take (k + 1)
  | _, [], _, _, _, _, hl, _, _, _ => by simp at hl
  | _, _ :: _, 0, _, _, hF, _, _, _, _ => by omega
  | 0, b :: bs, F + 1, f, hr, _, _, _, hok, _ => by
    have hb := hok b (by simp)
    have h1 : b < 128 := by
      by_cases h : b < 128
      · exact h
      · have : (if b < 128 then 0 else 1 + runB F bs) = 0 := hr
        rw [if_neg h] at this; omega
    show numF f (b % 128).toNat = [b]
    rw [numF_small (by omega)]
    congr 1
    omega
  | k + 1, b :: bs, F + 1, 0, _, _, _, _, _, hf => by omega
  | k + 1, b :: bs, F + 1, f + 1, hr, hF, hl, h0, hok, hf => by
    have hb := hok b (by simp)
    have hr' : (if b < 128 then 0 else 1 + runB F bs) = k + 1 := hr
    have h1 : ¬ b < 128 := by
      intro h
      rw [if_pos h] at hr'; omega
    rw [if_neg h1] at hr'
    have hd : bs.getD k 0 ≠ 0 := h0 (by omega)
    have ih := back_num k bs F f (by omega) (by omega) (by simpa using hl) (fun _ => hd) (fun x hx => hok x (by simp [hx])) (by omega)
    have hS := sumB_nonneg k bs
    have hS0 : sumB k bs ≠ 0 := by
      intro h
      rw [h, show (0 : Int).toNat = 0 from rfl, numF_small (by decide)] at ih
      have hlk : (bs.take (k + 1)).length = k + 1 := by rw [List.length_take]; simp at hl; omega
      rw [← ih] at hlk
      obtain rfl : k = 0 := by simpa using hlk.symm
      apply hd
      rw [List.getD_eq_getElem?_getD, show bs[0]? = (bs.take (0 + 1))[0]? by rw [List.getElem?_take]; simp, ← ih]
      rfl
    show numF (f + 1) (b % 128 + 128 * sumB k bs).toNat = b :: bs.take (k + 1)
    rw [numF_big (by omega), ← ih]
    congr 1
    · omega
    · congr 1
      omega
theorem runB_le : ∀ (F : Nat) (bs : List Int), runB F bs ≤ F ∧ runB F bs ≤ bs.length
  | 0, _ => ⟨Nat.le_refl _, Nat.zero_le _⟩
  | F + 1, [] => ⟨Nat.zero_le _, Nat.le_refl _⟩
  | F + 1, b :: bs => by
    show (if b < 128 then 0 else 1 + runB F bs) ≤ F + 1 ∧ (if b < 128 then 0 else 1 + runB F bs) ≤ (b :: bs).length
    have := runB_le F bs
    rw [List.length_cons]
    split <;> omega
theorem sum_top : ∀ (k : Nat) (bs : List Int), k < bs.length → sumB k bs < 128 ^ k * (bs.getD k 0 % 128 + 1)
  | _, [], h => by simp at h
  | 0, b :: bs, _ => by
    show b % 128 < 128 ^ 0 * (b % 128 + 1)
    omega
  | k + 1, b :: bs, h => by
    have ih := sum_top k bs (by simpa using h)
    show b % 128 + 128 * sumB k bs < 128 ^ (k + 1) * (bs.getD k 0 % 128 + 1)
    rw [Int.pow_succ, Int.mul_comm (128 ^ k) 128, Int.mul_assoc]
    generalize (128 : Int) ^ k * (bs.getD k 0 % 128 + 1) = M at ih
    omega
/-- Bytes in which a number is looked up begin with that number's bytes. -/
theorem look_back (bs : List Int) (v : Int) (s : Nat) (hok : ∀ b ∈ bs, 0 ≤ b ∧ b < 256) (h : lookB bs = (v, s, 0)) :
    0 ≤ v ∧ v < 18446744073709551616 ∧ 1 ≤ s ∧ s ≤ bs.length ∧ bs.take s = numB v.toNat := by
  have hle := runB_le 10 bs
  unfold lookB at h
  obtain ⟨k, hk⟩ : ∃ k, runB 10 bs = k := ⟨_, rfl⟩
  rw [hk] at h hle
  simp only at h
  by_cases c1 : k = bs.length ∧ k < 10
  · rw [if_pos c1] at h; simp at h
  · rw [if_neg c1] at h
    by_cases c2 : k = 10 ∨ (0 < k ∧ bs.getD k 0 = 0) ∨ (k = 9 ∧ 1 < bs.getD 9 0)
    · rw [if_pos c2] at h; simp at h
    · rw [if_neg c2] at h
      simp only [Prod.mk.injEq] at h
      obtain ⟨rfl, rfl, -⟩ := h
      have hk9 : k ≤ 9 := by
        have : k ≠ 10 := fun e => c2 (.inl e)
        omega
      have hkl : k < bs.length := by
        have : k ≠ bs.length := fun e => c1 ⟨e, by omega⟩
        omega
      have hb := back_num k bs 10 9 hk (by omega) hkl (fun h0 h1 => c2 (.inr (.inl ⟨h0, h1⟩))) hok hk9
      refine ⟨sumB_nonneg _ _, ?_, by omega, by omega, hb.symm⟩
      have ht := sum_top k bs hkl
      by_cases h9 : k = 9
      · subst h9
        have h1 : ¬ 1 < bs.getD 9 0 := fun h1 => c2 (.inr (.inr ⟨rfl, h1⟩))
        have hm : bs.getD 9 0 ∈ bs := by
          rw [List.getD_eq_getElem?_getD, List.getElem?_eq_getElem hkl]
          exact List.getElem_mem hkl
        have h2 := hok _ hm
        generalize bs.getD 9 0 = c at ht h1 h2
        omega
      · have h2 : bs.getD k 0 % 128 + 1 ≤ 128 := by omega
        have h3 : (128 : Int) ^ k ≤ 128 ^ 8 := by
          have : k ≤ 8 := by omega
          have h4 : (128 : Nat) ^ k ≤ 128 ^ 8 := Nat.pow_le_pow_right (by decide) this
          exact_mod_cast h4
        have h5 : (128 : Int) ^ k * (bs.getD k 0 % 128 + 1) ≤ 128 ^ 8 * 128 := Int.mul_le_mul h3 h2 (by omega) (by decide)
        have h6 : (128 : Int) ^ 8 * 128 < 18446744073709551616 := by decide
        omega
end Go.Proofs.Ythibihjblodfmaa
