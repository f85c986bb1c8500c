/- Who signs one thing of a place is never shown: the plain law. -/
import Derived.Test.YthibihjblodfmaaUE
namespace Go.Proofs.Ythibihjblodfmaa
open Go.RowKit Go.Maps

/-- Are two things of one kind and place? -/
def sameP (o n : Tg) : Bool := (o.k == n.k) && eqL (placeT o.k o.t o.u) (placeT n.k n.t n.u) && (placeN o.k o.n o.m == placeN n.k n.n n.m) && eqL (placeA o.k o.v) (placeA n.k n.v)
structure OneP (o n : Tg) : Prop where
  k : o.k = n.k
  t : placeT o.k o.t o.u = placeT n.k n.t n.u
  nn : placeN o.k o.n o.m = placeN n.k n.n n.m
  a : placeA o.k o.v = placeA n.k n.v
theorem sameP_iff {o n : Tg} : sameP o n = true ↔ OneP o n := by
  simp only [sameP, eqL, Bool.and_eq_true, beq_iff_eq, decide_eq_true_eq]
  exact ⟨fun ⟨⟨⟨a, b⟩, c⟩, d⟩ => ⟨a, b, c, d⟩, fun h => ⟨⟨⟨h.k, h.t⟩, h.nn⟩, h.a⟩⟩
theorem OneP.trans {a b c : Tg} (h : OneP a b) (g : OneP b c) : OneP a c := ⟨h.k.trans g.k, h.t.trans g.t, h.nn.trans g.nn, h.a.trans g.a⟩
theorem OneP.symm {a b : Tg} (h : OneP a b) : OneP b a := ⟨h.k.symm, h.t.symm, h.nn.symm, h.a.symm⟩
theorem OneP.sig {a b : Tg} {s : List Int} (h : OneP a b) : OneP a { b with ss := s } := ⟨h.k, h.t, h.nn, h.a⟩
theorem OneP.sig' {a b : Tg} {s : List Int} (h : OneP a { b with ss := s }) : OneP a b := ⟨h.k, h.t, h.nn, h.a⟩
/-- What it signed of that place already, it signs again. -/
def pickH (own : List Tg) (T : Tg) : Tg := own.foldl (fun n o => if sameP o n = true then o else n) T
theorem pickH_add (l : List Tg) (o T : Tg) : pickH (l ++ [o]) T = if sameP o (pickH l T) = true then o else pickH l T := by rw [pickH, List.foldl_append]; rfl
theorem pickH_spec : ∀ (l : List Tg) (T : Tg), OneP (pickH l T) T ∧ (pickH l T ∈ l ∨ (pickH l T = T ∧ ∀ o ∈ l, ¬ OneP o T))
  | [], T => ⟨⟨rfl, rfl, rfl, rfl⟩, .inr ⟨rfl, fun o h => by simp at h⟩⟩
  | o :: l, T => by
    show OneP (pickH l (if sameP o T = true then o else T)) T ∧ (pickH l (if sameP o T = true then o else T) ∈ o :: l ∨ (pickH l (if sameP o T = true then o else T) = T ∧ _))
    by_cases h : sameP o T = true
    · rw [if_pos h]
      obtain ⟨h1, h2⟩ := pickH_spec l o
      refine ⟨h1.trans (sameP_iff.1 h), .inl ?_⟩
      rcases h2 with h2 | ⟨h2, _⟩
      · exact List.mem_cons_of_mem _ h2
      · rw [h2]; exact List.mem_cons_self
    · rw [if_neg h]
      obtain ⟨h1, h2⟩ := pickH_spec l T
      refine ⟨h1, ?_⟩
      rcases h2 with h2 | ⟨h2, h3⟩
      · exact .inl (List.mem_cons_of_mem _ h2)
      · refine .inr ⟨h2, fun o' ho' => ?_⟩
        rcases List.mem_cons.1 ho' with rfl | ho'
        · exact fun hh => h (sameP_iff.2 hh)
        · exact h3 o' ho'
structure HSt where
  ts : List Tg
  own : List Tg
  es : List Ent
def entH (hon : Int) (own : List Tg) (d : DeT) : Ent := (keyD hon, dgT (pickH own (toT (deR d))))
def ownH (hon : Int) (own : List Tg) (es : List Ent) (d : DeT) : Tg := { pickH own (toT (deR d)) with ss := sigB (es.idxOf (entH hon own d)) }
def stepH (hon : Int) (p : HSt) (d : DeT) : HSt :=
  if keyD d.seat = keyD hon then ⟨p.ts ++ [ownH hon p.own p.es d], p.own ++ [ownH hon p.own p.es d], bookS p.es (entH hon p.own d)⟩
  else ⟨p.ts ++ [deT d p.es], p.own, bookS p.es (deE d)⟩
def signH (hon : Int) (ds : List DeT) : HSt := ds.foldl (stepH hon) ⟨[], [], []⟩
theorem signH_add (hon : Int) (ds : List DeT) (d : DeT) : signH hon (ds ++ [d]) = stepH hon (signH hon ds) d := by simp [signH, List.foldl_append]
/-- Another's signature. -/
def ForB (hon : Int) (es : List Ent) (ss : List Int) : Prop := ∃ (i : Nat) (e : Ent), es[i]? = some e ∧ e.1 ≠ keyD hon ∧ (ss = sigB i ∨ ss = sigB i ++ [1])
theorem bookS_get {es : List Ent} {e f : Ent} {i : Nat} (h : es[i]? = some f) : (bookS es e)[i]? = some f := by
  unfold bookS
  split
  · exact h
  · rw [List.getElem?_append_left (List.getElem?_eq_some_iff.1 h).1]; exact h
theorem bookS_idx (es : List Ent) (e : Ent) : (bookS es e)[es.idxOf e]? = some e := by
  unfold bookS
  split
  · rename_i h
    rw [List.getElem?_eq_getElem (List.idxOf_lt_length_of_mem h), List.getElem_idxOf]
  · rename_i h
    rw [idx_new h]; simp
theorem sigB_inj {i j : Nat} (h : sigB i = sigB j) : i = j := by
  unfold sigB at h
  injection h with h1 h2
  injection h2 with h2 _
  omega
theorem ForB.ver {hon : Int} {es : List Ent} {ss dg : List Int} (h : ForB hon es ss) : verB es (keyD hon, dg) ss = false := by
  obtain ⟨i, e, h1, h2, h3⟩ := h
  rw [verB, decide_eq_false_iff_not]
  rintro ⟨hm, hs⟩
  rcases h3 with h3 | h3
  · rw [h3] at hs
    have hi := sigB_inj hs
    rw [hi, List.getElem?_eq_getElem (List.idxOf_lt_length_of_mem hm), List.getElem_idxOf] at h1
    injection h1 with h1
    rw [← h1] at h2
    exact h2 rfl
  · rw [h3] at hs
    have := congrArg List.length hs
    simp [sigB] at this
structure HInv (hon : Int) (p : HSt) : Prop where
  a : ∀ y ∈ p.ts, y ∈ p.own ∨ ForB hon p.es y.ss
  b : ∀ x ∈ p.own, ∀ y ∈ p.own, OneP x y → dgT x = dgT y
theorem HInv.step {hon : Int} {p : HSt} (h : HInv hon p) (d : DeT) : HInv hon (stepH hon p d) := by
  unfold stepH
  by_cases hk : keyD d.seat = keyD hon
  · rw [if_pos hk]
    refine ⟨fun y hy => ?_, ?_⟩
    · rcases List.mem_append.1 hy with hy | hy
      · rcases h.a y hy with h1 | ⟨i, e, h1, h2⟩
        · exact .inl (List.mem_append_left _ h1)
        · exact .inr ⟨i, e, bookS_get h1, h2⟩
      · exact .inl (List.mem_append_right _ hy)
    · obtain ⟨h1, h2⟩ := pickH_spec p.own (toT (deR d))
      have hq : ∀ x ∈ p.own, OneP x (pickH p.own (toT (deR d))) → dgT x = dgT (pickH p.own (toT (deR d))) := fun x hx ho => by
        rcases h2 with h2 | ⟨h2, h3⟩
        · exact h.b x hx _ h2 ho
        · rw [h2] at ho
          exact absurd ho (h3 x hx)
      intro x hx y hy ho
      rcases List.mem_append.1 hx with hx | hx <;> rcases List.mem_append.1 hy with hy | hy
      · exact h.b x hx y hy ho
      · simp only [List.mem_singleton] at hy
        subst hy
        exact hq x hx ho.sig'
      · simp only [List.mem_singleton] at hx
        subst hx
        exact (hq y hy ho.symm.sig').symm
      · simp only [List.mem_singleton] at hx hy
        subst hx; subst hy; rfl
  · rw [if_neg hk]
    refine ⟨fun y hy => ?_, h.b⟩
    rcases List.mem_append.1 hy with hy | hy
    · rcases h.a y hy with h1 | ⟨i, e, h1, h2⟩
      · exact .inl h1
      · exact .inr ⟨i, e, bookS_get h1, h2⟩
    · simp only [List.mem_singleton] at hy
      subst hy
      refine .inr ⟨_, _, bookS_idx p.es (deE d), hk, ?_⟩
      rw [deT, toT_ss]
      show deS d p.es = _ ∨ deS d p.es = _
      unfold deS
      cases d.sp
      · exact .inl (by simp)
      · exact .inr (by simp)
theorem signH_len (hon : Int) : ∀ (n : Nat) (ds : List DeT), ds.length = n → (signH hon ds).ts.length = n ∧ (signH hon ds).es.length ≤ n ∧ (signH hon ds).own.length ≤ n ∧ HInv hon (signH hon ds)
  | 0, ds, h => by
    have : ds = [] := List.length_eq_zero_iff.1 h
    subst this
    exact ⟨rfl, Nat.le_refl _, Nat.le_refl _, fun y hy => by simp [signH] at hy, fun y hy => by simp [signH] at hy⟩
  | n + 1, ds, h => by
    obtain ⟨l, d, rfl⟩ : ∃ l d, ds = l ++ [d] := ⟨ds.dropLast, ds.getLast (by intro e; subst e; simp at h), (List.dropLast_concat_getLast _).symm⟩
    have hl : l.length = n := by simpa using h
    obtain ⟨h1, h2, h3, h4⟩ := signH_len hon n l hl
    rw [signH_add]
    refine ⟨?_, ?_, ?_, h4.step d⟩
    · unfold stepH; split <;> simp [h1]
    · unfold stepH; split
      · have := bookS_le (signH hon l).es (entH hon (signH hon l).own d); show (bookS _ _).length ≤ _; omega
      · have := bookS_le (signH hon l).es (deE d); show (bookS _ _).length ≤ _; omega
    · unfold stepH; split
      · simp; omega
      · show (signH hon l).own.length ≤ n + 1; omega
/-- Nobody shows it of the honest one. -/
theorem HInv.none {hon : Int} {p : HSt} (h : HInv hon p) (tb : List Int) {A B : Tg} (hA : A ∈ p.ts) (hB : B ∈ p.ts) : twT p.es tb (keyD hon) A B ≠ 0 := fun h0 => by
  have hs := twT_zero.1 h0
  have hm : ∀ X ∈ p.ts, verB p.es (keyD hon, dgT X) X.ss = true → X ∈ p.own := fun X hX hv => by
    rcases h.a X hX with h1 | h1
    · exact h1
    · rw [h1.ver] at hv; cases hv
  exact hs.d (h.b A (hm A hA hs.va) B (hm B hB hs.vb) ⟨hs.k, hs.ta.trans hs.tb.symm, hs.n, hs.p⟩)
end Go.Proofs.Ythibihjblodfmaa
