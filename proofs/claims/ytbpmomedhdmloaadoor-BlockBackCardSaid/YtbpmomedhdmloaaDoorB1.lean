/- Transactions and blocks: the words. -/
import Derived.Test.YtbpmomedhdmloaaDoorOC
namespace Go.Proofs.YtbpmomedhdmloaaDoor
set_option linter.unusedSimpArgs false
set_option linter.unusedVariables false
open Go.RowKit

/-- A transaction: from, nonce, fee, kind, body, signature. -/
structure TxT where
  f : List Int
  n : Int
  e : Int
  k : Int
  b : List Int
  s : List Int
def paidE (b : List Int) : Int := endR (numR (numR ⟨b, 0⟩ 18446744073709551615).1 1125899906842624).1
def txFit (t : TxT) : Bool := ((decide (0 ≤ t.n) && decide (t.n ≤ 1099511627776)) && (decide (0 ≤ t.e) && decide (t.e ≤ 1125899906842624))) && ((decide (0 ≤ t.k) && decide (t.k ≤ 2)) && (decide (t.b.length ≤ 32768) && decide (t.s.length ≤ 1024)))
def txE (t : TxT) : Int := if txFit t then (if t.k = 0 then paidE t.b else 0) else 2
def turnB (t u : TxT) : Bool := (t.f == u.f) && (t.n == u.n)
/-- The first thing that is wrong with one of them, behind those ahead. -/
def txsE : List TxT → List TxT → Int
  | _, [] => 0
  | pre, t :: ts => if txE t ≠ 0 then txE t else if pre.any (turnB t) then 7 else txsE (pre ++ [t]) ts
def feesS (L : List TxT) : Int := (L.map TxT.e).foldl (· + ·) 0
def blkE (h : Int) (L : List TxT) : Int :=
  if h < 0 ∨ 1099511627776 < h then 2 else if 64 < L.length then 8 else if txsE [] L ≠ 0 then txsE [] L else if 1125899906842624 < feesS L then 2 else 0
theorem txE_fit {t : TxT} (h : txE t = 0) : txFit t = true := by
  unfold txE at h
  by_cases hf : txFit t = true
  · exact hf
  · rw [if_neg hf] at h; exact absurd h (by decide)
theorem fit_fee {t : TxT} (h : txFit t = true) : 0 ≤ t.e ∧ t.e ≤ 1125899906842624 := by
  unfold txFit at h
  simp only [Bool.and_eq_true, decide_eq_true_eq] at h
  exact h.1.2
theorem txsE_app : ∀ (a pre b : List TxT), txsE pre (a ++ b) = if txsE pre a ≠ 0 then txsE pre a else txsE (pre ++ a) b
  | [], pre, b => by simp [txsE]
  | t :: a, pre, b => by
    have ih := txsE_app a (pre ++ [t]) b
    rw [List.cons_append]
    by_cases h1 : txE t = 0
    · by_cases h2 : pre.any (turnB t) = true
      · have e1 : ∀ X, txsE pre (t :: X) = 7 := fun X => by rw [txsE, if_neg (by simp [h1]), if_pos h2]
        rw [e1, e1, if_pos (by decide)]
      · have e1 : ∀ X, txsE pre (t :: X) = txsE (pre ++ [t]) X := fun X => by rw [txsE, if_neg (by simp [h1]), if_neg h2]
        rw [e1, e1, ih, List.append_assoc]; rfl
    · have e1 : ∀ X, txsE pre (t :: X) = txE t := fun X => by rw [txsE, if_pos h1]
      rw [e1, e1, if_pos h1]
theorem txsE_less : ∀ (l p p' : List TxT), (∀ x ∈ p', x ∈ p) → txsE p l = 0 → txsE p' l = 0
  | [], _, _, _, _ => rfl
  | t :: l, p, p', hs, h => by
    rw [txsE] at h ⊢
    by_cases h1 : txE t = 0
    · rw [if_neg (by simp [h1])] at h ⊢
      by_cases h2 : p.any (turnB t) = true
      · rw [if_pos h2] at h; exact absurd h (by decide)
      · rw [if_neg h2] at h
        have h3 : ¬ p'.any (turnB t) = true := fun h3 => h2 (by
          obtain ⟨x, hx, hy⟩ := List.any_eq_true.1 h3
          exact List.any_eq_true.2 ⟨x, hs x hx, hy⟩)
        rw [if_neg h3]
        exact txsE_less l _ _ (fun x hx => by
          rcases List.mem_append.1 hx with hx | hx
          · exact List.mem_append_left _ (hs x hx)
          · exact List.mem_append_right _ hx) h
    · rw [if_pos h1] at h; exact absurd h h1
theorem txsE_all : ∀ (l p : List TxT), txsE p l = 0 → ∀ t ∈ l, txE t = 0
  | [], _, _, t, ht => by cases ht
  | u :: l, p, h, t, ht => by
    rw [txsE] at h
    by_cases h1 : txE u = 0
    · rw [if_neg (by simp [h1])] at h
      by_cases h2 : p.any (turnB u) = true
      · rw [if_pos h2] at h; exact absurd h (by decide)
      · rw [if_neg h2] at h
        rcases List.mem_cons.1 ht with rfl | ht
        · exact h1
        · exact txsE_all l _ h t ht
    · rw [if_pos h1] at h; exact absurd h h1
theorem feesS_cons (t : TxT) (L : List TxT) : feesS (t :: L) = t.e + feesS L := by
  have h : ∀ (l : List Int) (s : Int), l.foldl (· + ·) s = s + l.foldl (· + ·) 0 := by
    intro l
    induction l with
    | nil => intro s; simp
    | cons x l ih => intro s; simp only [List.foldl_cons]; rw [ih, ih (0 + x)]; omega
  show (t.e :: L.map TxT.e).foldl (· + ·) 0 = _
  rw [List.foldl_cons, h]; simp [feesS]
theorem feesS_pos : ∀ L : List TxT, (∀ t ∈ L, 0 ≤ t.e ∧ t.e ≤ 1125899906842624) → 0 ≤ feesS L
  | [], _ => Int.le_refl _
  | t :: L, h => by
    have h1 := feesS_pos L (fun x hx => h x (List.mem_cons_of_mem _ hx))
    have h2 := h t List.mem_cons_self
    rw [feesS_cons]; omega
theorem feesS_app : ∀ a b : List TxT, feesS (a ++ b) = feesS a + feesS b
  | [], b => by show feesS b = 0 + feesS b; omega
  | t :: a, b => by rw [List.cons_append, feesS_cons, feesS_cons, feesS_app a b]; omega
theorem blkE_zero {h : Int} {L : List TxT} (hb : blkE h L = 0) : ¬ (h < 0 ∨ 1099511627776 < h) ∧ L.length ≤ 64 ∧ txsE [] L = 0 ∧ feesS L ≤ 1125899906842624 := by
  unfold blkE at hb
  by_cases h1 : h < 0 ∨ 1099511627776 < h
  · rw [if_pos h1] at hb; exact absurd hb (by decide)
  rw [if_neg h1] at hb
  by_cases h2 : 64 < L.length
  · rw [if_pos h2] at hb; exact absurd hb (by decide)
  rw [if_neg h2] at hb
  by_cases h3 : txsE [] L = 0
  · rw [if_neg (by simp [h3])] at hb
    by_cases h4 : 1125899906842624 < feesS L
    · rw [if_pos h4] at hb; exact absurd hb (by decide)
    · exact ⟨h1, by omega, h3, by omega⟩
  · rw [if_pos h3] at hb; exact absurd hb h3
theorem blkE_of {h : Int} {L : List TxT} (h1 : ¬ (h < 0 ∨ 1099511627776 < h)) (h2 : L.length ≤ 64) (h3 : txsE [] L = 0) (h4 : feesS L ≤ 1125899906842624) : blkE h L = 0 := by
  unfold blkE
  rw [if_neg h1, if_neg (by omega), if_neg (by simp [h3]), if_neg (by omega)]
theorem fees_ok {h : Int} {L : List TxT} (hb : blkE h L = 0) : ∀ t ∈ L, 0 ≤ t.e ∧ t.e ≤ 1125899906842624 := fun t ht => fit_fee (txE_fit (txsE_all L [] (blkE_zero hb).2.2.1 t ht))
theorem blk_half {h : Int} {a b : List TxT} (hb : blkE h (a ++ b) = 0) : blkE h a = 0 ∧ blkE h b = 0 ∧ feesS a + feesS b = feesS (a ++ b) := by
  have hf := fees_ok hb
  obtain ⟨h1, h2, h3, h4⟩ := blkE_zero hb
  rw [List.length_append] at h2
  rw [feesS_app] at h4
  have pa := feesS_pos a (fun t ht => hf t (List.mem_append_left _ ht))
  have pb := feesS_pos b (fun t ht => hf t (List.mem_append_right _ ht))
  rw [txsE_app] at h3
  by_cases h5 : txsE [] a = 0
  · rw [if_neg (by simp [h5])] at h3
    exact ⟨blkE_of h1 (by omega) h5 (by omega), blkE_of h1 (by omega) (txsE_less b _ _ (fun x hx => by cases hx) h3) (by omega), (feesS_app a b).symm⟩
  · rw [if_pos h5] at h3; exact absurd h3 h5
/-- One transaction more. -/
theorem blk_more {h : Int} {L : List TxT} (t : TxT) (hb : blkE h L = 0) : blkE h (L ++ [t]) = if L.length = 64 then 8 else if txE t ≠ 0 then txE t else if L.any (turnB t) then 7 else if 1125899906842624 < feesS L + t.e then 2 else 0 := by
  obtain ⟨h1, h2, h3, h4⟩ := blkE_zero hb
  have ht : txsE [] (L ++ [t]) = if txE t ≠ 0 then txE t else if L.any (turnB t) then 7 else 0 := by
    rw [txsE_app, if_neg (by simp [h3]), List.nil_append, txsE]
    rfl
  unfold blkE
  rw [if_neg h1, ht, feesS_app, show feesS [t] = t.e by rw [feesS_cons]; show t.e + 0 = _; omega, List.length_append]
  by_cases h6 : L.length = 64
  · rw [if_pos (by show 64 < L.length + 1; omega), if_pos h6]
  · rw [if_neg (by show ¬ 64 < L.length + 1; omega), if_neg h6]
    by_cases h7 : txE t = 0
    · rw [if_neg (c := txE t ≠ 0) (by simp [h7])]
      by_cases h8 : L.any (turnB t) = true
      · rw [if_pos h8]; simp [h7, h8]
      · rw [if_neg h8]; simp [h7, h8]
    · simp [h7]
end Go.Proofs.YtbpmomedhdmloaaDoor
