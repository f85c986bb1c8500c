/- Signatures of another state, or of other seats: the plain law of StateOthers. -/
import Derived.Test.YthibihjblodfmaaS11
namespace Go.Proofs.Ythibihjblodfmaa
open Go.RowKit Go.Maps

def keyO (i : Nat) : List Int := [((i + 1 : Nat) : Int), 0, 0, 0, 0, 0, 0, 0]
theorem keyO_ok {i : Nat} (h : i < 3) : DgOk (keyO i) := ⟨rfl, fun b hb => by simp [keyO] at hb; omega⟩
theorem keyO_inj {i j : Nat} (h : keyO i = keyO j) : i = j := by
  unfold keyO at h
  injection h with h
  omega
def keysO : List (List Int) := [keyO 0, keyO 1, keyO 2]
theorem keysO_ok : DsOk keysO := fun d hd => by
  simp [keysO] at hd
  rcases hd with rfl | rfl | rfl
  · exact keyO_ok (by omega)
  · exact keyO_ok (by omega)
  · exact keyO_ok (by omega)
theorem keysO_get {i : Nat} (h : i < 3) : keysO[i]? = some (keyO i) := by
  match i, h with
  | 0, _ => rfl
  | 1, _ => rfl
  | 2, _ => rfl
def entO (m : List Int) (k : Nat) : List Ent := (List.range k).map fun i => (keyO i, m)
def sigO (k : Nat) : List (List Int) := (List.range k).map sigB
theorem entO_succ (m : List Int) (k : Nat) : entO m (k + 1) = entO m k ++ [(keyO k, m)] := by simp [entO, List.range_succ]
theorem sigO_succ (k : Nat) : sigO (k + 1) = sigO k ++ [sigB k] := by simp [sigO, List.range_succ]
theorem entO_len (m : List Int) (k : Nat) : (entO m k).length = k := by simp [entO]
theorem entO_new (m : List Int) (k : Nat) : (keyO k, m) ∉ entO m k := fun h => by
  obtain ⟨i, hi, e⟩ := List.mem_map.1 h
  have := keyO_inj (congrArg Prod.fst e)
  have := List.mem_range.1 hi
  omega
theorem sigO_ok {k : Nat} (h : k < 65536) : ∀ b ∈ sigO k, ByOk b := fun b hb => by
  obtain ⟨i, hi, rfl⟩ := List.mem_map.1 hb
  exact sigB_ok (by have := List.mem_range.1 hi; omega)
theorem verO (m m' : List Int) (i j : Nat) (hi : i < 3) (_hj : j < 3) : verB (entO m 3) (keyO i, m') (sigB j) = (decide (m = m') && decide (i = j)) := by
  have e : entO m 3 = [(keyO 0, m), (keyO 1, m), (keyO 2, m)] := rfl
  have n01 : keyO 0 ≠ keyO 1 := fun h => by have := keyO_inj h; omega
  have n02 : keyO 0 ≠ keyO 2 := fun h => by have := keyO_inj h; omega
  have n12 : keyO 1 ≠ keyO 2 := fun h => by have := keyO_inj h; omega
  have b01 : ((keyO 0, m) == (keyO 1, m)) = false := beq_eq_false_iff_ne.2 fun h => n01 (congrArg Prod.fst h)
  have b02 : ((keyO 0, m) == (keyO 2, m)) = false := beq_eq_false_iff_ne.2 fun h => n02 (congrArg Prod.fst h)
  have b12 : ((keyO 1, m) == (keyO 2, m)) = false := beq_eq_false_iff_ne.2 fun h => n12 (congrArg Prod.fst h)
  have hs : ∀ a b : Nat, a < 3 → b < 3 → (sigB a = sigB b ↔ a = b) := fun a b ha hb => by
    constructor
    · intro h; simp [sigB] at h; omega
    · rintro rfl; rfl
  by_cases hm : m = m'
  · subst hm
    rw [verB, e]
    match i, hi with
    | 0, _ => simp [hs j 0 _hj (by omega), eq_comm]
    | 1, _ => simp [List.idxOf_cons, b01, hs j 1 _hj (by omega), eq_comm]
    | 2, _ => simp [List.idxOf_cons, b02, b12, hs j 2 _hj (by omega), eq_comm]
  · have : (keyO i, m') ∉ entO m 3 := fun h => by
      obtain ⟨a, _, h2⟩ := List.mem_map.1 h
      exact hm (congrArg Prod.snd h2)
    simp [verB, this, hm]
/-- What is to be told of three pieces. -/
theorem others (m m' : List Int) (p q r : Pc) (hp : p.bs = sigB 0) (hq : q.bs = sigB 1) (hr : r.bs = sigB 2) :
    allB (entO m 3) m' keysO [p, q, r] [] = decide (m = m') ∧ cntB (entO m 3) m keysO [q, r, p] = 0 ∧ cntB (entO m 3) m' keysO [p, q, r] = if m = m' then 3 else 0 := by
  have v := fun (m' : List Int) (i j : Nat) (hi : i < 3) (hj : j < 3) => verO m m' i j hi hj
  refine ⟨?_, ?_, ?_⟩
  · have b0 : badB (entO m 3) m' keysO [p, q, r] [] 0 = !decide (m = m') := by unfold badB; simp [keysO, hp, v m' 0 0]
    have b1 : badB (entO m 3) m' keysO [p, q, r] [] 1 = !decide (m = m') := by unfold badB; simp [keysO, hq, v m' 1 1]
    have b2 : badB (entO m 3) m' keysO [p, q, r] [] 2 = !decide (m = m') := by unfold badB; simp [keysO, hr, v m' 2 2]
    have hl : keysO.length = 3 := rfl
    unfold allB missB
    rw [hl]
    by_cases hm : m = m'
    · subst hm; simp [List.range, List.range.loop, b0, b1, b2]
    · simp [List.range, List.range.loop, b0, b1, b2, hm]
  · simp [cntB, keysO, hp, hq, hr, v m 0 1, v m 1 2, v m 2 0]
  · by_cases hm : m = m'
    · subst hm; simp [cntB, keysO, hp, hq, hr, v m 0 0, v m 1 1, v m 2 2]
    · simp [cntB, keysO, hp, hq, hr, v m' 0 0, v m' 1 1, v m' 2 2, hm]
end Go.Proofs.Ythibihjblodfmaa
