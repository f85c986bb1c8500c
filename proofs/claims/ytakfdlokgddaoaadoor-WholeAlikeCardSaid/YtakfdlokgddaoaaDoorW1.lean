/- A ring's ledger: the plain law. -/
import Derived.Test.YtakfdlokgddaoaaDoorW0
namespace Go.Proofs.YtakfdlokgddaoaaDoor
set_option linter.unusedSimpArgs false
set_option linter.unusedVariables false
open Go.RowKit

/-- A ledger with one message more, as far as there are keys. -/
def stepL (cap : Nat) (L : List (List Int)) (m : List Int) : List (List Int) := if m ∈ L then L else if L.length < cap then L ++ [m] else L
structure LedOk (cap : Nat) (L : List (List Int)) : Prop where
  ok : DsOk L
  nd : L.Nodup
  le : L.length ≤ cap
theorem LedOk.nil (cap : Nat) : LedOk cap [] := ⟨(fun d hd => by cases hd), List.nodup_nil, Nat.zero_le _⟩
theorem LedOk.snoc {cap : Nat} {L : List (List Int)} {m : List Int} (h : LedOk cap L) (hm : DgOk m) (hn : m ∉ L) (hl : L.length < cap) : LedOk cap (L ++ [m]) :=
  ⟨fun d hd => by
    rcases List.mem_append.1 hd with hd | hd
    · exact h.ok d hd
    · rw [List.mem_singleton] at hd; subst hd; exact hm,
   List.nodup_append.2 ⟨h.nd, by simp, fun a ha b hb => by rw [List.mem_singleton] at hb; subst hb; rintro rfl; exact hn ha⟩,
   by rw [List.length_append]; simp; omega⟩
theorem LedOk.step {cap : Nat} {L : List (List Int)} {m : List Int} (h : LedOk cap L) (hm : DgOk m) : LedOk cap (stepL cap L m) := by
  unfold stepL
  split
  · exact h
  · split
    · rename_i h1 h2; exact h.snoc hm h1 h2
    · exact h
theorem stepL_idx {cap : Nat} {L : List (List Int)} {m x : List Int} (hx : x ∈ L) : x ∈ stepL cap L m ∧ (stepL cap L m).idxOf x = L.idxOf x := by
  unfold stepL
  split
  · exact ⟨hx, rfl⟩
  · split
    · exact ⟨by simp [hx], by rw [List.idxOf_append, if_pos hx]⟩
    · exact ⟨hx, rfl⟩
theorem stepL_not {cap : Nat} {L : List (List Int)} {m : List Int} (h : LedOk cap L) (hn : m ∉ stepL cap L m) : (stepL cap L m).length = cap := by
  unfold stepL at hn ⊢
  split
  · rename_i h1; rw [if_pos h1] at hn; exact absurd h1 hn
  · rename_i h1
    rw [if_neg h1] at hn
    split
    · rename_i h2; rw [if_pos h2] at hn; simp at hn
    · have := h.le; omega
theorem stepL_twice (cap : Nat) (L : List (List Int)) (m : List Int) : stepL cap (stepL cap L m) m = stepL cap L m := by
  unfold stepL
  by_cases h1 : m ∈ L
  · rw [if_pos h1, if_pos h1]
  · rw [if_neg h1]
    by_cases h2 : L.length < cap
    · rw [if_pos h2, if_pos (by simp)]
    · rw [if_neg h2, if_neg h1, if_neg h2]
theorem led_idx {cap : Nat} {L : List (List Int)} {m : List Int} (h : LedOk cap L) (hm : m ∈ L) : L.idxOf m < cap := Nat.lt_of_lt_of_le (List.idxOf_lt_length_of_mem hm) h.le
theorem led_at {L : List (List Int)} {m : List Int} (hm : m ∈ L) : L[L.idxOf m]? = some m := by
  have h := List.idxOf_lt_length_of_mem hm
  rw [List.getElem?_eq_getElem h, List.getElem_idxOf h]
theorem led_inj {L : List (List Int)} {a b : List Int} (ha : a ∈ L) (hb : b ∈ L) (h : L.idxOf a = L.idxOf b) : a = b := by
  have h1 := led_at ha
  rw [h, led_at hb] at h1
  exact (Option.some.inj h1).symm
/-- The signature of a message by a ring of that ledger. -/
def sgI (sec : List Int) (h : Nat) (L : List (List Int)) (m : List Int) : List Int := sigI sec h (L.idxOf m) m
theorem sg_inj {sec : List Int} {h : Nat} {L : List (List Int)} (hL : LedOk (2 ^ h) L) (hh : h ≤ 8) {a b : List Int} (ha : a ∈ L) (hb : b ∈ L) (e : sgI sec h L a = sgI sec h L b) : a = b := by
  have s1 := split_sig sec hh (led_idx hL ha) a
  have s2 := split_sig sec hh (led_idx hL hb) b
  rw [sgI, sgI] at e
  rw [e, s2] at s1
  injection s1 with s1
  injection s1 with s1 _
  exact led_inj ha hb s1.symm
/-- A ring as bytes. -/
def saveI (sec : List Int) (h : Nat) (L : List (List Int)) : List Int := lstB sec ++ numB h ++ numB L.length ++ L.flatMap lstB
end Go.Proofs.YtakfdlokgddaoaaDoor
