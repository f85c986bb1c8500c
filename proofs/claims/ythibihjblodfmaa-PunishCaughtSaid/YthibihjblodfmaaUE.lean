/- Of things that were signed, the first two that show it: the plain law. -/
import Derived.Test.YthibihjblodfmaaUD
namespace Go.Proofs.Ythibihjblodfmaa
open Go.RowKit Go.Maps

/-- One deed more: its thing, and the book behind it. -/
def stepS (p : List Tg × List Ent) (d : DeT) : List Tg × List Ent := (p.1 ++ [deT d p.2], bookS p.2 (deE d))
def signS (ds : List DeT) : List Tg × List Ent := ds.foldl stepS ([], [])
theorem signS_add (ds : List DeT) (d : DeT) : signS (ds ++ [d]) = stepS (signS ds) d := by simp [signS, List.foldl_append]
theorem bookS_le (es : List Ent) (e : Ent) : (bookS es e).length ≤ es.length + 1 := by unfold bookS; split <;> simp
theorem signS_len : ∀ (n : Nat) (ds : List DeT), ds.length = n → (signS ds).1.length = n ∧ (signS ds).2.length ≤ n
  | 0, ds, h => by
    have : ds = [] := List.length_eq_zero_iff.1 h
    subst this; simp [signS]
  | n + 1, ds, h => by
    obtain ⟨l, d, rfl⟩ : ∃ l d, ds = l ++ [d] := ⟨ds.dropLast, ds.getLast (by intro e; subst e; simp at h), (List.dropLast_concat_getLast _).symm⟩
    have hl : l.length = n := by simpa using h
    obtain ⟨h1, h2⟩ := signS_len n l hl
    rw [signS_add]
    have h3 := bookS_le (signS l).2 (deE d)
    exact ⟨by simp [stepS, h1], by show (bookS (signS l).2 (deE d)).length ≤ _; omega⟩
/-- Who shows it shows it in either order. -/
theorem firstE_zero : ∀ {l : List Int}, firstE l = 0 ↔ ∀ e ∈ l, e = 0
  | [] => by simp [firstE]
  | e :: l => by
    rw [firstE]
    by_cases h : e = 0
    · rw [if_pos h, firstE_zero]; simp [h]
    · rw [if_neg h]; simp [h]
def chkT (A : Tg) : Int := checkT A.k A.n A.m A.t A.u A.v A.ps A.qs A.ss
/-- What it takes that two things show it. -/
structure Shows (es : List Ent) (tb ky : List Int) (A B : Tg) : Prop where
  a : chkT A = 0
  b : chkT B = 0
  k : A.k = B.k
  ta : placeT A.k A.t A.u = tb
  tb : placeT B.k B.t B.u = tb
  n : placeN A.k A.n A.m = placeN B.k B.n B.m
  p : placeA A.k A.v = placeA B.k B.v
  d : dgT A ≠ dgT B
  va : verB es (ky, dgT A) A.ss = true
  vb : verB es (ky, dgT B) B.ss = true
theorem Shows.symm {es : List Ent} {tb ky : List Int} {A B : Tg} (h : Shows es tb ky A B) : Shows es tb ky B A := ⟨h.b, h.a, h.k.symm, h.tb, h.ta, h.n.symm, h.p.symm, h.d.symm, h.vb, h.va⟩
theorem unlG_zero {b : Bool} {e : Int} (he : e ≠ 0) : unlG b e = 0 ↔ b = true := by cases b <;> simp [unlG, he]
theorem twT_zero {es : List Ent} {tb ky : List Int} {A B : Tg} : twT es tb ky A B = 0 ↔ Shows es tb ky A B := by
  rw [twT, firstE_zero, asksT]
  simp only [List.mem_cons, List.not_mem_nil, or_false, forall_eq_or_imp, forall_eq]
  rw [unlG_zero (by decide), unlG_zero (by decide), unlG_zero (by decide), unlG_zero (by decide), unlG_zero (by decide)]
  simp only [eqL, Bool.and_eq_true, beq_iff_eq, decide_eq_true_eq, Bool.not_eq_true', decide_eq_false_iff_not]
  constructor
  · rintro ⟨h1, h2, h3, ⟨h4, h5⟩, ⟨h6, h7⟩, h8, h9, h10⟩
    exact ⟨h1, h2, h3, h4, h5, h6, h7, h8, h9, h10⟩
  · intro h
    exact ⟨h.a, h.b, h.k, ⟨h.ta, h.tb⟩, ⟨h.n, h.p⟩, h.d, h.va, h.vb⟩
theorem twT_comm {es : List Ent} {tb ky : List Int} {A B : Tg} (h : twT es tb ky A B = 0) : twT es tb ky B A = 0 := twT_zero.2 (twT_zero.1 h).symm
end Go.Proofs.Ythibihjblodfmaa
