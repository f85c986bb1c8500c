/- Who signs two unlike ones is shown: the plain law. -/
import Derived.Test.YthibihjblodfmaaUK
namespace Go.Proofs.Ythibihjblodfmaa
open Go.RowKit Go.Maps

theorem idx_book {es : List Ent} {e : Ent} (h : e ∈ es) (f : Ent) : (bookS es f).idxOf e = es.idxOf e := by
  unfold bookS
  split
  · rfl
  · exact idx_app_old h _
theorem idx_book_self (es : List Ent) (e : Ent) : (bookS es e).idxOf e = es.idxOf e := by
  unfold bookS
  split
  · rfl
  · rename_i h
    rw [idx_app_new h, idx_new h]
theorem mem_book (es : List Ent) (e : Ent) : e ∈ bookS es e := by
  unfold bookS
  split
  · assumption
  · simp
theorem mem_book_of {es : List Ent} {e : Ent} (h : e ∈ es) (f : Ent) : e ∈ bookS es f := by
  unfold bookS
  split
  · exact h
  · exact List.mem_append_left _ h
theorem ForB.more {hon : Int} {es : List Ent} {ss : List Int} (h : ForB hon es ss) (e : Ent) : ForB hon (bookS es e) ss := by
  obtain ⟨i, f, h1, h2⟩ := h
  exact ⟨i, f, bookS_get h1, h2⟩
theorem deT_dg (d : DeT) (es : List Ent) : dgT (deT d es) = dgT (toT (deR d)) := by
  rw [deT, ← toT_sig', dgT_sig]
theorem deT_ss (d : DeT) (es : List Ent) : (deT d es).ss = deS d es := by rw [deT, toT_ss]
theorem kind2 (k : Int) : k % 2 = 0 ∨ k % 2 = 1 := by omega
theorem deT_place (d : DeT) (es : List Ent) : placeT (deT d es).k (deT d es).t (deT d es).u = tabD d.tb ∧ placeN (deT d es).k (deT d es).n (deT d es).m = d.n ∧ placeA (deT d es).k (deT d es).v = ratT (d.kind % 2) (plD d.pl) :=
  toT_place (R := { deR d with ss := deS d es }) (kind2 d.kind)
theorem deT_k (d : DeT) (es : List Ent) : (deT d es).k = d.kind % 2 := toT_k _
theorem deT_chk (d : DeT) (es : List Ent) (hn : 0 ≤ d.n) (hm : d.n ≤ 1099511627776) (hb : d.bs.length ≤ 60) : chkT (deT d es) = 0 := by
  have h1 : (deS d es).length ≤ 3 := by unfold deS; cases d.sp <;> simp [sigB]
  rw [chkT, deT, toT_check]
  show rcheckT (d.kind % 2) d.n d.bs.length (deS d es).length false = 0
  rw [rcheckT, if_pos (kind2 _), if_neg (by simp), if_pos ⟨hn, hm, by omega, by omega⟩]
theorem key_other (s : Int) : keyD (IntKind.i64.wrap (s + 1)) ≠ keyD s := by
  intro h
  unfold keyD at h
  injection h with h _
  simp only [IntKind.wrap, IntKind.bits, IntKind.signed] at h
  simp at h
  omega
theorem signS_for (seat : Int) : ∀ (n : Nat) (ds : List DeT), ds.length = n → (∀ d ∈ ds, keyD d.seat ≠ keyD seat) → ∀ y ∈ (signS ds).1, ForB seat (signS ds).2 y.ss
  | 0, ds, h, _ => by
    have : ds = [] := List.length_eq_zero_iff.1 h
    subst this
    intro y hy
    simp [signS] at hy
  | n + 1, ds, h, hk => by
    obtain ⟨l, d, rfl⟩ : ∃ l d, ds = l ++ [d] := ⟨ds.dropLast, ds.getLast (by intro e; subst e; simp at h), (List.dropLast_concat_getLast _).symm⟩
    have hl : l.length = n := by simpa using h
    have ih := signS_for seat n l hl (fun d' hd' => hk d' (List.mem_append_left _ hd'))
    rw [signS_add]
    intro y hy
    rcases List.mem_append.1 hy with hy | hy
    · exact (ih y hy).more _
    · simp only [List.mem_singleton] at hy
      subst hy
      refine ⟨_, _, bookS_idx (signS l).2 (deE d), hk d (by simp), ?_⟩
      rw [deT_ss]
      unfold deS
      cases d.sp
      · exact .inl (by simp)
      · exact .inr (by simp)
/-- Two deeds that a seat signs behind others. -/
structure Cgt (seat : Int) (es : List Ent) (ts : List Tg) (o t : DeT) : Prop where
  fo : ∀ y ∈ ts, ForB seat es y.ss
  os : o.seat = seat
  ts' : t.seat = seat
  osp : o.sp = false
  tsp : t.sp = false
  k : o.kind = t.kind
  n : o.n = t.n
  tb : o.tb = t.tb
  pl : o.pl = t.pl
section
variable {seat : Int} {es : List Ent} {ts : List Tg} {o t : DeT} {xs : List (List Value × Tg)}
theorem Cgt.cand (h : Cgt seat es ts o t) (hx : xs.map (·.2) = deT o es :: (ts ++ [deT t (bookS es (deE o))])) {i : Nat} {x : List Value × Tg} (hi : xs[i]? = some x) {dg : List Int} (hv : verB (bookS (bookS es (deE o)) (deE t)) (keyD seat, dg) x.2.ss = true) : i = 0 ∧ x.2 = deT o es ∨ i = ts.length + 1 ∧ x.2 = deT t (bookS es (deE o)) := by
  have h1 : (deT o es :: (ts ++ [deT t (bookS es (deE o))]))[i]? = some x.2 := by rw [← hx, List.getElem?_map, hi]; rfl
  rcases i with _ | i
  · simp at h1
    exact .inl ⟨rfl, h1.symm⟩
  · rw [List.getElem?_cons_succ] at h1
    rcases Nat.lt_or_ge i ts.length with hl | hl
    · rw [List.getElem?_append_left hl] at h1
      have := (((h.fo _ (List.mem_of_getElem? h1)).more (deE o)).more (deE t)).ver (dg := dg)
      rw [this] at hv
      cases hv
    · rw [List.getElem?_append_right hl] at h1
      have h2 : i - ts.length = 0 := by
        rcases hq : i - ts.length with _ | q
        · rfl
        · rw [hq] at h1; simp at h1
      rw [h2] at h1
      simp at h1
      exact .inr ⟨by omega, h1.symm⟩
theorem Cgt.pair (h : Cgt seat es ts o t) (hx : xs.map (·.2) = deT o es :: (ts ++ [deT t (bookS es (deE o))])) {tb : List Int} {i j : Nat} (hij : i < j) (h0 : twI (bookS (bookS es (deE o)) (deE t)) tb (keyD seat) xs i j = 0) : i = 0 ∧ j = ts.length + 1 ∧ tb = tabD o.tb ∧ dgT (deT o es) ≠ dgT (deT t (bookS es (deE o))) := by
  rw [twI] at h0
  split at h0
  · rename_i x y hi hj
    have hs := twT_zero.1 h0
    rcases h.cand hx hi hs.va with ⟨e1, f1⟩ | ⟨e1, f1⟩ <;> rcases h.cand hx hj hs.vb with ⟨e2, f2⟩ | ⟨e2, f2⟩
    · omega
    · refine ⟨e1, e2, ?_, ?_⟩
      · rw [← hs.ta, f1, (deT_place o es).1]
      · rw [← f1, ← f2]; exact hs.d
    · omega
    · omega
  · cases h0
theorem Cgt.hit (h : Cgt seat es ts o t) (hx : xs.map (·.2) = deT o es :: (ts ++ [deT t (bookS es (deE o))])) (hn : 0 ≤ o.n) (hm : o.n ≤ 1099511627776) (hb : o.bs.length ≤ 60) (hb' : t.bs.length ≤ 60) (hd : dgT (deT o es) ≠ dgT (deT t (bookS es (deE o)))) : twI (bookS (bookS es (deE o)) (deE t)) (tabD o.tb) (keyD seat) xs 0 (ts.length + 1) = 0 := by
  have hl : xs.length = ts.length + 2 := by have := congrArg List.length hx; simpa using this
  have h0 : (xs.map (·.2))[0]? = some (deT o es) := by rw [hx]; rfl
  have h1 : (xs.map (·.2))[ts.length + 1]? = some (deT t (bookS es (deE o))) := by rw [hx, List.getElem?_cons_succ, List.getElem?_append_right (Nat.le_refl _)]; simp
  rw [List.getElem?_map] at h0 h1
  rw [twI]
  obtain ⟨x, hx0⟩ : ∃ x, xs[0]? = some x := ⟨_, List.getElem?_eq_getElem (by omega)⟩
  obtain ⟨y, hy0⟩ : ∃ y, xs[ts.length + 1]? = some y := ⟨_, List.getElem?_eq_getElem (by omega)⟩
  rw [hx0] at h0 ⊢
  rw [hy0] at h1 ⊢
  simp only [Option.map_some, Option.some.injEq] at h0 h1
  show twT _ _ _ x.2 y.2 = 0
  rw [h0, h1]
  have ho : keyD seat = (deE o).1 := by rw [← h.os]; rfl
  have ht : keyD seat = (deE t).1 := by rw [← h.ts']; rfl
  refine twT_zero.2 ⟨deT_chk _ _ hn hm hb, deT_chk _ _ (h.n ▸ hn) (h.n ▸ hm) hb', by rw [deT_k, deT_k, h.k], (deT_place _ _).1, by rw [(deT_place _ _).1, h.tb], by rw [(deT_place _ _).2.1, (deT_place _ _).2.1, h.n], by rw [(deT_place _ _).2.2, (deT_place _ _).2.2, h.k, h.pl], hd, ?_, ?_⟩
  · rw [deT_dg, deT_ss, ho, deS, h.osp]
    show decide (deE o ∈ _ ∧ _) = true
    refine decide_eq_true ⟨mem_book_of (mem_book _ _) _, ?_⟩
    show _ = sigB (List.idxOf (deE o) _)
    rw [idx_book (mem_book _ _), idx_book_self]
    simp
  · rw [deT_dg, deT_ss, ht, deS, h.tsp]
    show decide (deE t ∈ _ ∧ _) = true
    refine decide_eq_true ⟨mem_book _ _, ?_⟩
    show _ = sigB (List.idxOf (deE t) _)
    rw [idx_book_self]
    simp
/-- What the three searches say. -/
theorem Cgt.is (h : Cgt seat es ts o t) (hx : xs.map (·.2) = deT o es :: (ts ++ [deT t (bookS es (deE o))])) (hn : 0 ≤ o.n) (hm : o.n ≤ 1099511627776) (hb : o.bs.length ≤ 60) (hb' : t.bs.length ≤ 60) {fi fj : Nat} {is : Bool} (hf : FindR xs.length (twI (bookS (bookS es (deE o)) (deE t)) (tabD o.tb) (keyD seat) xs) fi fj is) : is = !(decide (dgT (deT o es) = dgT (deT t (bookS es (deE o))))) ∧ (is = true → fi = 0 ∧ fj = ts.length + 1) := by
  have hl : xs.length = ts.length + 2 := by have := congrArg List.length hx; simpa using this
  rcases hf with ⟨e, a, b, c, d, f⟩ | ⟨e, a, b, c⟩
  · obtain ⟨p1, p2, p3, p4⟩ := h.pair hx a c
    subst e
    exact ⟨by simp [p4], fun _ => ⟨p1, p2⟩⟩
  · subst e
    refine ⟨?_, fun h => by cases h⟩
    by_cases hd : dgT (deT o es) = dgT (deT t (bookS es (deE o)))
    · simp [hd]
    · exact absurd (h.hit hx hn hm hb hb' hd) (c (ts.length + 1) (by omega) 0 (by omega))
theorem Cgt.other (h : Cgt seat es ts o t) (hx : xs.map (·.2) = deT o es :: (ts ++ [deT t (bookS es (deE o))])) {N fi fj : Nat} {is : Bool} (hf : FindR N (twI (bookS (bookS es (deE o)) (deE t)) (tabD (!o.tb)) (keyD seat) xs) fi fj is) : is = false := by
  rcases hf with ⟨e, a, b, c, d, f⟩ | ⟨e, a, b, c⟩
  · obtain ⟨p1, p2, p3, p4⟩ := h.pair hx a c
    cases hb : o.tb <;> rw [hb] at p3 <;> cases p3
  · exact e
theorem twI_front {es : List Ent} {tb ky : List Int} {l m : List (List Value × Tg)} {i j : Nat} (hij : i < j) (hj : j < l.length) : twI es tb ky (l ++ m) i j = twI es tb ky l i j := by
  rw [twI, twI, List.getElem?_append_left (by omega), List.getElem?_append_left hj]
theorem Cgt.front (h : Cgt seat es ts o t) {x : List Value × Tg} (hx : (xs ++ [x]).map (·.2) = deT o es :: (ts ++ [deT t (bookS es (deE o))])) {tb : List Int} {fi fj : Nat} {is : Bool} (hf : FindR xs.length (twI (bookS (bookS es (deE o)) (deE t)) tb (keyD seat) xs) fi fj is) : is = false := by
  have hl : xs.length = ts.length + 1 := by have := congrArg List.length hx; simpa using this
  rcases hf with ⟨e, a, b, c, d, f⟩ | ⟨e, a, b, c⟩
  · rw [← twI_front (m := [x]) a b] at c
    obtain ⟨p1, p2, p3, p4⟩ := h.pair hx a c
    omega
  · exact e
end
end Go.Proofs.Ythibihjblodfmaa
