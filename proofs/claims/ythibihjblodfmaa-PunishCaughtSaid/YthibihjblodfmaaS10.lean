/- Who signed, and whether all did: the plain law of StateFull. -/
import Derived.Test.YthibihjblodfmaaNC
namespace Go.Proofs.Ythibihjblodfmaa
open Go.RowKit

def keyF (i : Nat) : List Int := [(i : Int), 5, 0, 0, 0, 0, 0, 0]
theorem keyF_ok {i : Nat} (h : i < 256) : DgOk (keyF i) := ⟨rfl, fun b hb => by simp [keyF] at hb; omega⟩
theorem keyF_inj {i j : Nat} (h : keyF i = keyF j) : i = j := by
  unfold keyF at h
  injection h with h
  omega
def keysF (k : Nat) : List (List Int) := (List.range k).map keyF
theorem keysF_succ (k : Nat) : keysF (k + 1) = keysF k ++ [keyF k] := by simp [keysF, List.range_succ]
theorem keysF_len (k : Nat) : (keysF k).length = k := by simp [keysF]
theorem keysF_ok {k : Nat} (h : k ≤ 256) : DsOk (keysF k) := fun d hd => by
  obtain ⟨i, hi, rfl⟩ := List.mem_map.1 hd
  exact keyF_ok (by have := List.mem_range.1 hi; omega)
theorem keysF_get {k i : Nat} (h : i < k) : (keysF k)[i]? = some (keyF i) := by simp [keysF, h]

/-- What the loop keeps: the book and the signatures so far. -/
structure FullI (m : List Int) (sg : Nat → Bool) (k : Nat) (es : List Ent) (bs : List (List Int)) : Prop where
  len : bs.length = k
  le : es.length ≤ k
  of : ∀ e ∈ es, ∃ i, i < k ∧ e = (keyF i, m)
  ver : ∀ i, i < k → verB es (keyF i, m) (bs.getD i []) = sg i
  nil : ∀ i, i < k → sg i = false → bs.getD i [] = []
  by_ : ∀ b ∈ bs, ByOk b
  two : ∀ b ∈ bs, b.length ≤ 2
theorem FullI.zero (m : List Int) (sg : Nat → Bool) : FullI m sg 0 [] [] := ⟨rfl, Nat.le_refl _, fun e h => by simp at h, fun i h => by omega, fun i h => by omega, fun b h => by simp at h, fun b h => by simp at h⟩
theorem FullI.new {m : List Int} {sg : Nat → Bool} {k : Nat} {es : List Ent} {bs : List (List Int)} (h : FullI m sg k es bs) : (keyF k, m) ∉ es := fun hm => by
  obtain ⟨i, hi, e⟩ := h.of _ hm
  have := keyF_inj (congrArg Prod.fst e)
  omega
theorem sigB_ne (i : Nat) : sigB i ≠ [] := by simp [sigB]
theorem sigB_ok {i : Nat} (h : i < 65536) : ByOk (sigB i) := fun b hb => by simp [sigB] at hb; omega
theorem verB_nil (es : List Ent) (e : Ent) : verB es e [] = false := by
  rw [verB, decide_eq_false_iff_not]; exact fun h => sigB_ne _ h.2.symm
theorem verB_add {es : List Ent} {e f : Ent} (hne : e ≠ f) (sig : List Int) : verB (es ++ [f]) e sig = verB es e sig := by
  unfold verB
  by_cases hm : e ∈ es
  · rw [idx_app_old hm]; simp [hm]
  · simp [hm, hne]
theorem getD_snoc_lt {α : Type} {l : List α} {a d : α} {i : Nat} (h : i < l.length) : (l ++ [a]).getD i d = l.getD i d := by
  rw [List.getD_eq_getElem?_getD, List.getD_eq_getElem?_getD, List.getElem?_append_left h]
theorem getD_snoc_at {α : Type} {l : List α} {a d : α} {i : Nat} (h : i = l.length) : (l ++ [a]).getD i d = a := by
  subst h; rw [List.getD_eq_getElem?_getD, List.getElem?_append_right (Nat.le_refl _)]; simp
theorem FullI.yes {m : List Int} {sg : Nat → Bool} {k : Nat} {es : List Ent} {bs : List (List Int)} (h : FullI m sg k es bs) (hs : sg k = true) (hk : k < 65536) : FullI m sg (k + 1) (es ++ [(keyF k, m)]) (bs ++ [sigB es.length]) := by
  have hn := h.new
  refine ⟨by simp [h.len], by have := h.le; simp; omega, fun e he => ?_, fun i hi => ?_, fun i hi hf => ?_, fun b hb => ?_, fun b hb => ?_⟩
  · rcases List.mem_append.1 he with he | he
    · obtain ⟨i, hi, e1⟩ := h.of e he; exact ⟨i, by omega, e1⟩
    · rw [List.mem_singleton] at he; exact ⟨k, by omega, he⟩
  · rcases Nat.lt_or_ge i k with hlt | hge
    · rw [getD_snoc_lt (by rw [h.len]; exact hlt), verB_add (fun e => by have := keyF_inj (congrArg Prod.fst e); omega)]
      exact h.ver i hlt
    · obtain rfl : i = k := by omega
      rw [getD_snoc_at h.len.symm, hs, verB, idx_app_new hn]; simp
  · rcases Nat.lt_or_ge i k with hlt | hge
    · rw [getD_snoc_lt (by rw [h.len]; exact hlt)]; exact h.nil i hlt hf
    · obtain rfl : i = k := by omega
      rw [hs] at hf; cases hf
  · rcases List.mem_append.1 hb with hb | hb
    · exact h.by_ b hb
    · rw [List.mem_singleton] at hb; subst hb; exact sigB_ok (by have := h.le; omega)
  · rcases List.mem_append.1 hb with hb | hb
    · exact h.two b hb
    · rw [List.mem_singleton] at hb; subst hb; simp [sigB]
theorem FullI.no {m : List Int} {sg : Nat → Bool} {k : Nat} {es : List Ent} {bs : List (List Int)} (h : FullI m sg k es bs) (hs : sg k = false) : FullI m sg (k + 1) es (bs ++ [[]]) := by
  refine ⟨by simp [h.len], by have := h.le; omega, fun e he => ?_, fun i hi => ?_, fun i hi hf => ?_, fun b hb => ?_, fun b hb => ?_⟩
  · obtain ⟨i, hi, e1⟩ := h.of e he; exact ⟨i, by omega, e1⟩
  · rcases Nat.lt_or_ge i k with hlt | hge
    · rw [getD_snoc_lt (by rw [h.len]; exact hlt)]; exact h.ver i hlt
    · obtain rfl : i = k := by omega
      rw [getD_snoc_at h.len.symm, hs, verB_nil]
  · rcases Nat.lt_or_ge i k with hlt | hge
    · rw [getD_snoc_lt (by rw [h.len]; exact hlt)]; exact h.nil i hlt hf
    · obtain rfl : i = k := by omega
      rw [getD_snoc_at h.len.symm]
  · rcases List.mem_append.1 hb with hb | hb
    · exact h.by_ b hb
    · rw [List.mem_singleton] at hb; subst hb; exact fun x hx => by simp at hx
  · rcases List.mem_append.1 hb with hb | hb
    · exact h.two b hb
    · rw [List.mem_singleton] at hb; subst hb; simp
theorem bookS_new {es : List Ent} {e : Ent} (h : e ∉ es) : bookS es e = es ++ [e] := by rw [bookS, if_neg h]
theorem idx_new {es : List Ent} {e : Ent} (h : e ∉ es) : es.idxOf e = es.length := List.idxOf_eq_length h

/-- How many of the first. -/
def cntF (sg : Nat → Bool) : Nat → Nat
  | 0 => 0
  | k + 1 => cntF sg k + (if sg k then 1 else 0)
theorem cntF_le (sg : Nat → Bool) : ∀ k, cntF sg k ≤ k
  | 0 => Nat.le_refl _
  | k + 1 => by have := cntF_le sg k; simp only [cntF]; split <;> omega
def wantF (sg gn : Nat → Bool) : Nat → Bool
  | 0 => true
  | k + 1 => wantF sg gn k && (sg k || gn k)
theorem cntB_snoc (es : List Ent) (m : List Int) : ∀ (ks : List (List Int)) (ps : List Pc) (k : List Int) (p : Pc), ks.length = ps.length → cntB es m (ks ++ [k]) (ps ++ [p]) = cntB es m ks ps + (if verB es (k, m) p.bs then 1 else 0)
  | [], [], k, p, _ => by simp [cntB]
  | [], _ :: _, _, _, h => by simp at h
  | _ :: _, [], _, _, h => by simp at h
  | a :: ks, b :: ps, k, p, h => by
    have := cntB_snoc es m ks ps k p (by simpa using h)
    simp only [List.cons_append, cntB, this]; omega
theorem pc_snoc : ∀ (ps : List Pc), ps ≠ [] → ∃ qs p, ps = qs ++ [p] := fun ps h => ⟨ps.dropLast, ps.getLast h, (List.dropLast_concat_getLast h).symm⟩
theorem cnt_full (es : List Ent) (m : List Int) (sg : Nat → Bool) : ∀ (k : Nat) (ps : List Pc), ps.length = k → (∀ i, i < k → verB es (keyF i, m) ((ps.map Pc.bs).getD i []) = sg i) → cntB es m (keysF k) ps = cntF sg k
  | 0, ps, hl, _ => by
    obtain rfl : ps = [] := List.eq_nil_of_length_eq_zero hl
    simp [keysF, cntB, cntF]
  | k + 1, ps, hl, hv => by
    obtain ⟨qs, p, rfl⟩ := pc_snoc ps (fun e => by subst e; simp at hl)
    have hq : qs.length = k := by simpa using hl
    rw [keysF_succ, cntB_snoc _ _ _ _ _ _ (by rw [keysF_len, hq]), cntF]
    rw [cnt_full es m sg k qs hq (fun i hi => by have := hv i (by omega); rwa [List.map_append, List.map_cons, List.map_nil, getD_snoc_lt (by simp [hq]; exact hi)] at this)]
    have := hv k (by omega)
    rw [List.map_append, List.map_cons, List.map_nil, getD_snoc_at (by simp [hq])] at this
    rw [this]
theorem want_all (sg gn : Nat → Bool) : ∀ k, wantF sg gn k = true ↔ ∀ i, i < k → (sg i || gn i) = true
  | 0 => by simp [wantF]
  | k + 1 => by
    rw [wantF, Bool.and_eq_true, want_all sg gn k]
    constructor
    · rintro ⟨h1, h2⟩ i hi
      rcases Nat.lt_or_ge i k with hlt | hge
      · exact h1 i hlt
      · obtain rfl : i = k := by omega
        exact h2
    · intro h; exact ⟨fun i hi => h i (by omega), h k (by omega)⟩
theorem all_full (es : List Ent) (m : List Int) (sg gn : Nat → Bool) (n : Nat) (ps : List Pc) (fs : List Bool) (hv : ∀ i, i < n → verB es (keyF i, m) ((ps.map Pc.bs).getD i []) = sg i) (hg : ∀ i, i < n → fs.getD i false = gn i) :
    allB es m (keysF n) ps fs = wantF sg gn n := by
  have hbad : ∀ i, i < n → badB es m (keysF n) ps fs i = !(sg i || gn i) := fun i hi => by
    unfold badB
    have hk : (keysF n).getD i [] = keyF i := by rw [List.getD_eq_getElem?_getD, keysF_get hi]; rfl
    rw [hk, hv i hi, hg i hi]
    cases sg i <;> cases gn i <;> rfl
  rw [Bool.eq_iff_iff, want_all, allB, keysF_len, missB, List.isEmpty_iff, List.filter_eq_nil_iff]
  constructor
  · intro h i hi
    have := h i (List.mem_range.2 hi)
    rw [hbad i hi] at this
    cases h1 : sg i <;> cases h2 : gn i <;> simp_all
  · intro h i hi
    rw [hbad i (List.mem_range.1 hi), h i (List.mem_range.1 hi)]; simp
end Go.Proofs.Ythibihjblodfmaa
