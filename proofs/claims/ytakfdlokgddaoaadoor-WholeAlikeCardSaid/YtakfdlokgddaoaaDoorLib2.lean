/- More words of my own for memory: slices of whatever elements, slices of pairs. No program in sight. -/
import Derived.Test.YtakfdlokgddaoaaDoorLib
namespace Go.Proofs.YtakfdlokgddaoaaDoor
open Go.RowKit

section
variable {w w' : World} {B B' size n : Nat} {A : Option Addr} {xs : List Value}
/-- The k-th element, one cell each. -/
theorem Sl.atg {α : Type} {f : α → Value} {zs : List α} {k : Nat} (h : Sl w B 1 A n (zs.map f)) (hk : k < n) : ∃ ad z, A = some ad ∧ ad.block < B ∧ zs[k]? = some z ∧ w.cell? (ad.add k) = some (f z) := by
  obtain ⟨ad, e, hb, hc⟩ := h.mem (by omega)
  have hl : k < zs.length := by have := h.len; simp at this; omega
  exact ⟨ad, zs[k], e, hb, List.getElem?_eq_getElem hl, hc k _ (by simp [hl])⟩
/-- The k-th element, m cells each: its j-th cell. -/
theorem Sl.cellN {α : Type} {f : α → List Value} {zs : List α} {k m : Nat} (hf : ∀ z, (f z).length = m) (h : Sl w B m A n (zs.flatMap f)) (hk : k < n) (hz : zs.length = n) :
    ∃ ad z, A = some ad ∧ ad.block < B ∧ zs[k]? = some z ∧ ∀ (j : Nat) (u : Value), (f z)[j]? = some u → w.cell? (ad.add (k * m + j)) = some u := by
  obtain ⟨ad, e, hb, hc⟩ := h.mem (by omega)
  have hl : k < zs.length := by omega
  refine ⟨ad, zs[k], e, hb, List.getElem?_eq_getElem hl, fun j u hu => hc _ _ ?_⟩
  have hfl : ∀ (l : List α) (i : Nat), i < l.length → ∀ (q : List Value), l[i]?.map f = some q → (j : Nat) → j < m → (l.flatMap f)[i * m + j]? = q[j]? := by
    intro l
    induction l with
    | nil => intro i hi; simp at hi
    | cons x l ih =>
      intro i hi q hq j hj
      cases i with
      | zero =>
        simp at hq; subst hq
        rw [List.flatMap_cons, List.getElem?_append_left (by rw [hf]; omega)]; simp
      | succ i =>
        rw [List.flatMap_cons, List.getElem?_append_right (by rw [hf, Nat.succ_mul]; omega), hf]
        have : (i + 1) * m + j - m = i * m + j := by rw [Nat.succ_mul]; omega
        rw [this]
        exact ih i (by simpa using hi) q (by simpa using hq) j hj
  have hj : j < m := by
    have := (List.getElem?_eq_some_iff.1 hu).1; rw [hf] at this; exact this
  rw [hfl zs k hl (f zs[k]) (by simp [hl]) j hj]
  exact hu
end

theorem add_plain (b o k : Nat) : (⟨b, o, none⟩ : Addr).add k = ⟨b, o + k, none⟩ := by unfold Addr.add; split <;> simp_all
/-- Where a slice that is not empty lies: block and offset. -/
theorem Sl.spot {w : World} {B m n : Nat} {A : Option Addr} {xs : List Value} (h : Sl w B m A n xs) (hn : 0 < n) (hm : 0 < m) :
    ∃ b o, A = some ⟨b, o, none⟩ ∧ b < B ∧ ∀ (j : Nat) (u : Value), xs[j]? = some u → w.cell? ⟨b, o + j, none⟩ = some u := by
  obtain ⟨ad, rfl, hb, hc⟩ := h.mem hn
  have hl : 0 < xs.length := by rw [h.len]; exact Nat.mul_pos hn hm
  have h0 := hc 0 _ (List.getElem?_eq_getElem hl)
  have hs : ad.spot = none := by
    have := World.cell?_spot h0
    simpa [Addr.add] using this
  obtain ⟨b, o, sp⟩ := ad
  simp at hs; subst hs
  exact ⟨b, o, rfl, hb, fun j u hu => by have := hc j u hu; rwa [add_plain] at this⟩
/-- The k-th element of m cells, by block and offset. -/
theorem Sl.cellO {α : Type} {f : α → List Value} {zs : List α} {w : World} {B k m n : Nat} {A : Option Addr} (hf : ∀ z, (f z).length = m) (hm : 0 < m) (h : Sl w B m A n (zs.flatMap f)) (hk : k < n) (hz : zs.length = n) :
    ∃ b o z, A = some ⟨b, o, none⟩ ∧ b < B ∧ zs[k]? = some z ∧ ∀ (j : Nat) (u : Value), (f z)[j]? = some u → w.cell? ⟨b, o + k * m + j, none⟩ = some u := by
  obtain ⟨b, o, rfl, hb, _⟩ := h.spot (by omega) hm
  obtain ⟨ad, z, e, _, h1, h2⟩ := Sl.cellN hf h hk hz
  injection e with e; subst e
  exact ⟨b, o, z, rfl, hb, h1, fun j u hu => by have := h2 j u hu; rwa [add_plain, ← Nat.add_assoc] at this⟩

theorem toList_made {z : Value} {n : Nat} : (madeCells #[z] n).toList = List.replicate n z := toList_madeCells_one z n
theorem drop_getElem {α : Type} {l l' : List α} {k : Nat} (h : l.drop k = l'.drop k) {x : α} (hx : l'[k]? = some x) : l[k]? = some x := by
  have := congrArg (·[0]?) h
  simpa [hx] using this
theorem drop_step {α : Type} {l l' : List α} {k : Nat} (h : l.drop k = l'.drop k) : l.drop (k + 1) = l'.drop (k + 1) := by
  have := congrArg (List.drop 1) h; simpa using this
end Go.Proofs.YtakfdlokgddaoaaDoor
