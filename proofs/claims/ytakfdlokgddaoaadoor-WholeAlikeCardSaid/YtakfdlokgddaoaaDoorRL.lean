/- A region that draws its order, whose loads are held each up to an operation of its own: what is loaded may be written behind that. No program in sight. -/
import Derived.Deep.RegionHeld3
namespace Go.Proofs.YtakfdlokgddaoaaDoor
open Go

section
variable {P : Program} {ops : Array Oper} {Q : Exit → Act → World → Prop} {md : Region.Mode}
/-- Each fact is held as long as its operation has not come up. -/
def heldL : List (Nat × (World → Prop)) → Array Bool → World → Prop
  | [], _, _ => True
  | (k, F) :: T, l, w => (l.getD k true = false → F w) ∧ heldL T l w
theorem heldL_mem : ∀ {T : List (Nat × (World → Prop))} {l : Array Bool} {w : World} {k : Nat} {F : World → Prop}, heldL T l w → (k, F) ∈ T → l.getD k true = false → F w
  | (k', F') :: T, l, w, k, F, h, hm, hl => by
    rcases List.mem_cons.1 hm with e | hm
    · injection e with e1 e2; subst e1; subst e2; exact h.1 hl
    · exact heldL_mem h.2 hm hl
theorem heldL_of : ∀ {T : List (Nat × (World → Prop))} {l l' : Array Bool} {w : World}, heldL T l w → (∀ p ∈ T, l'.getD p.1 true = false → l.getD p.1 true = false) → heldL T l' w
  | [], _, _, _, _, _ => trivial
  | (k, F) :: _, _, _, _, h, hk => ⟨fun hl => h.1 (hk (k, F) (by simp) hl), heldL_of h.2 fun p hp => hk p (by simp [hp])⟩
def wpAnyL (P : Program) (md : Region.Mode) (ops : Array Oper) (Q : Exit → Act → World → Prop) (T : List (Nat × (World → Prop))) : Nat → Array Bool → Act → World → Prop
  | 0, listed, a, w => Region.ready md ops listed = [] ∧ Q .normal a w
  | fuel + 1, listed, a, w =>
    (Region.ready md ops listed = [] → Q .normal a w) ∧
    ∀ i ∈ Region.ready md ops listed, wpOp P ops Q i (fun a' w' => heldL T (listed.setIfInBounds i true) w' ∧ wpAnyL P md ops Q T fuel (listed.setIfInBounds i true) a' w') a w
variable {T : List (Nat × (World → Prop))}
theorem wpAny_of_L : ∀ (fuel : Nat) (listed : Array Bool) (a : Act) (w : World), wpAnyL P md ops Q T fuel listed a w → wpAny P md ops Q fuel listed a w
  | 0, _, _, _, h => h
  | fuel + 1, _, _, _, h => ⟨h.1, fun i hi => wpOp_mono (fun a' w' h' => wpAny_of_L fuel _ a' w' h'.2) (h.2 i hi)⟩

theorem wpAnyL_first {i : Nat} {oi : Oper} {v : Value} {F : World → Prop} {I : Array Bool → Prop} (hi : ops[i]? = some oi) (hsel : ∀ (j : Nat) (o : Oper) cs b, ops[j]? = some o → o.op ≠ .select cs b)
    (hQ : ∀ c a w, Q (.panic c) (a.put oi.dst v) w → Q (.panic c) a w) (hT : ∀ p ∈ T, p.1 ≠ i)
    (hIs : ∀ l j, I l → j ∈ Region.ready md ops l → i ∈ Region.ready md ops l → j ≠ i → I (l.setIfInBounds j true)) (hIg : ∀ l w, I l → heldL T l w → F w) :
    ∀ (fuel : Nat) (listed : Array Bool) (a : Act) (w : World),
      (∀ j oj, ops[j]? = some oj → j ≠ i → listed.getD j true = false → (∀ e ∈ oj.after, Region.binds md e = true → e.on ≠ i) → oi.apart ops oj = true) →
      i ∈ Region.ready md ops listed → I listed → YieldsIf P ops F oi v a → heldL T listed w →
      wpAnyL P md ops Q T fuel (listed.setIfInBounds i true) (a.put oi.dst v) w → wpAnyL P md ops Q T (fuel + 1) listed a w := by
  intro fuel
  have hset : ∀ (l : Array Bool) (w : World), heldL T l w → heldL T (l.setIfInBounds i true) w := fun l w h => heldL_of h fun p hp hl => by rwa [getD_set_ne true (Ne.symm (hT p hp))] at hl
  have hun : ∀ (l : Array Bool) (w : World), heldL T (l.setIfInBounds i true) w → heldL T l w := fun l w h => heldL_of h fun p hp hl => by rwa [getD_set_ne true (Ne.symm (hT p hp))]
  induction fuel with
  | zero =>
    intro listed a w _ hr hI hy hS H
    refine ⟨fun h => (by rw [h] at hr; cases hr), fun j hj => ?_⟩
    by_cases hji : j = i
    · subst hji; exact hy.wpOp hi (hIg _ _ hI hS) ⟨hset _ _ hS, H⟩
    · have := ready_mono hj hji
      rw [H.1] at this
      cases this
  | succ fuel ih =>
    intro listed a w hfree hr hI hy hS H
    refine ⟨fun h => (by rw [h] at hr; cases hr), fun j hj => ?_⟩
    by_cases hji : j = i
    · subst hji; exact hy.wpOp hi (hIg _ _ hI hS) ⟨hset _ _ hS, H⟩
    · have h1 := H.2 j (ready_mono hj hji)
      obtain ⟨hjun, oj, hoj, hall⟩ := mem_ready.1 hj
      have hnot : ∀ e ∈ oj.after, Region.binds md e = true → e.on ≠ i := fun e he hb heq => by
        have h1 := hall e he hb
        have h0 := (mem_ready.1 hr).1
        rw [heq] at h1
        rcases Nat.lt_or_ge i listed.size with h' | h'
        · simp [h'] at h0 h1; rw [h0] at h1; cases h1
        · simp [Array.getElem?_eq_none h'] at h1
      have h2 := wpOp_putIf hoj (hfree j oj hoj hji hjun hnot) (fun cs b => hsel i oi cs b hi) (fun cs b => hsel j oj cs b hoj) hQ hy h1
      have hfree' : ∀ k ok, ops[k]? = some ok → k ≠ i → (listed.setIfInBounds j true).getD k true = false →
          (∀ e ∈ ok.after, Region.binds md e = true → e.on ≠ i) → oi.apart ops ok = true := fun k ok hk hki hun hno => by
        refine hfree k ok hk hki ?_ hno
        by_cases hjk : j = k
        · subst hjk; exact hjun
        · rw [getD_set_ne true hjk] at hun; exact hun
      refine wpOp_mono (fun a' w' h3 => ?_) h2
      obtain ⟨hy', hS', h4⟩ := h3
      rw [Array.setIfInBounds_comm _ _ (Ne.symm hji)] at hS' h4
      have hS'' := hun _ _ hS'
      exact ⟨hS'', ih (listed.setIfInBounds j true) a' w' hfree' (ready_mono hr (Ne.symm hji)) (hIs _ _ hI hj hr hji) hy' hS'' h4⟩

/-- Does number k wait for number i? -/
def waits (md : Region.Mode) (ops : Array Oper) (k i : Nat) : Bool := match ops[k]? with | some o => o.after.any (fun e => Region.binds md e && e.on == i) | none => false
/-- Take number i first, by the fact that is held up to number k. -/
theorem wpAnyL_take {i k : Nat} (n : Nat) {oi : Oper} {v : Value} {F : World → Prop} {fuel : Nat} {listed : Array Bool} {a : Act} {w : World} (hi : ops[i]? = some oi) (hTn : T[n]? = some (k, F))
    (hs : Region.noSelect ops = true) (hf : Region.free md ops listed i = true) (hr : (Region.ready md ops listed).contains i = true) (hk : waits md ops k i = true) (hkl : listed.getD k true = false) (hTi : (T.map (·.1)).all (· != i) = true)
    (hQ : ∀ c a w, Q (.panic c) (a.put oi.dst v) w → Q (.panic c) a w) (hy : YieldsIf P ops F oi v a) (hS : heldL T listed w)
    (h : heldL T (listed.setIfInBounds i true) w → wpAnyL P md ops Q T fuel (listed.setIfInBounds i true) (a.put oi.dst v) w) : wpAnyL P md ops Q T (fuel + 1) listed a w := by
  have hTi' : ∀ p ∈ T, p.1 ≠ i := fun p hp => by
    have := List.all_eq_true.1 hTi p.1 (List.mem_map_of_mem hp)
    simpa using this
  have hT : (k, F) ∈ T := List.mem_of_getElem? hTn
  have hS2 : heldL T (listed.setIfInBounds i true) w := heldL_of hS fun p hp hl => by rwa [getD_set_ne true (Ne.symm (hTi' p hp))] at hl
  refine wpAnyL_first (I := fun l => l.getD k true = false) hi (Region.noSelect_spec hs) hQ hTi' (fun l j hl hj hi' hji => ?_) (fun l w hl hh => heldL_mem hh hT hl) fuel listed a w (Region.free_spec hi hf) (by simpa using hr) hkl hy hS (h hS2)
  have hjk : j ≠ k := by
    rintro rfl
    obtain ⟨_, oj, hoj, hall⟩ := mem_ready.1 hj
    unfold waits at hk
    rw [hoj] at hk
    obtain ⟨e, he, hb⟩ := Array.any_eq_true'.1 hk
    simp only [Bool.and_eq_true, beq_iff_eq] at hb
    have h1 := hall e he hb.1
    rw [hb.2] at h1
    have h0 := (mem_ready.1 hi').1
    rcases Nat.lt_or_ge i l.size with h' | h'
    · simp [h'] at h0 h1; rw [h0] at h1; cases h1
    · simp [Array.getElem?_eq_none h'] at h1
  rw [getD_set_ne true hjk]; exact hl
/-- Take number i first: it reads nothing. -/
theorem wpAnyL_take0 {i : Nat} {oi : Oper} {v : Value} {fuel : Nat} {listed : Array Bool} {a : Act} {w : World} (hi : ops[i]? = some oi)
    (hs : Region.noSelect ops = true) (hf : Region.free md ops listed i = true) (hr : (Region.ready md ops listed).contains i = true) (hTi : (T.map (·.1)).all (· != i) = true)
    (hQ : ∀ c a w, Q (.panic c) (a.put oi.dst v) w → Q (.panic c) a w) (hy : YieldsIf P ops (fun _ => True) oi v a) (hS : heldL T listed w)
    (h : heldL T (listed.setIfInBounds i true) w → wpAnyL P md ops Q T fuel (listed.setIfInBounds i true) (a.put oi.dst v) w) : wpAnyL P md ops Q T (fuel + 1) listed a w := by
  have hTi' : ∀ p ∈ T, p.1 ≠ i := fun p hp => by
    have := List.all_eq_true.1 hTi p.1 (List.mem_map_of_mem hp)
    simpa using this
  have hS2 : heldL T (listed.setIfInBounds i true) w := heldL_of hS fun p hp hl => by rwa [getD_set_ne true (Ne.symm (hTi' p hp))] at hl
  exact wpAnyL_first (I := fun _ => True) hi (Region.noSelect_spec hs) hQ hTi' (fun _ _ _ _ _ _ => trivial) (fun _ _ _ _ => trivial) fuel listed a w (Region.free_spec hi hf) (by simpa using hr) trivial hy hS (h hS2)
theorem dead {b : Bool} {p : Prop} (h : b = false) (h' : b = true) : p := by rw [h'] at h; cases h
theorem wpAnyL_done {listed : Array Bool} {a : Act} {w : World} (hr : Region.ready md ops listed = []) (h : Q .normal a w) : ∀ fuel, wpAnyL P md ops Q T fuel listed a w
  | 0 => ⟨hr, h⟩
  | _ + 1 => ⟨fun _ => h, by rw [hr]; simp⟩
def AllReadyL (P : Program) (md : Region.Mode) (ops : Array Oper) (Q : Exit → Act → World → Prop) (T : List (Nat × (World → Prop))) (fuel : Nat) (listed : Array Bool) (a : Act) (w : World) (rs : List Nat) : Prop :=
  ∀ i ∈ rs, wpOp P ops Q i (fun a' w' => heldL T (listed.setIfInBounds i true) w' ∧ wpAnyL P md ops Q T fuel (listed.setIfInBounds i true) a' w') a w
theorem AllReadyL.nil {fuel : Nat} {listed : Array Bool} {a : Act} {w : World} : AllReadyL P md ops Q T fuel listed a w [] := fun _ h => by cases h
theorem AllReadyL.cons {fuel : Nat} {listed : Array Bool} {a : Act} {w : World} {i : Nat} {o : Oper} {rs : List Nat} (ho : ops[i]? = some o)
    (h : ∀ K' : Act → World → Prop, Shut (∀ a w, heldL T (listed.setIfInBounds i true) w → (heldL T (listed.setIfInBounds i true) w → wpAnyL P md ops Q T fuel (listed.setIfInBounds i true) a w) → K' a w) → if Region.wanted o (yielded ops a.tmps) = true then Oper.wp P o a w K' Q else K' (a.put o.dst undef) w)
    (hs : AllReadyL P md ops Q T fuel listed a w rs) : AllReadyL P md ops Q T fuel listed a w (i :: rs) := fun j hj => by
  rcases List.mem_cons.1 hj with rfl | hj
  · exact wpOp_step ho (fun K' hK => h K' (fun a w hS hW => hK a w ⟨hS, hW hS⟩))
  · exact hs j hj
theorem wpAnyL_ready {rs : List Nat} {fuel : Nat} {listed : Array Bool} {a : Act} {w : World} (hr : Region.ready md ops listed = rs) (hne : rs ≠ [])
    (h : AllReadyL P md ops Q T fuel listed a w rs) : wpAnyL P md ops Q T (fuel + 1) listed a w := ⟨fun h0 => absurd (hr ▸ h0) hne, hr ▸ h⟩
theorem wp_region_L {id : Nat} {a : Act} {w : World} (T : List (Nat × (World → Prop))) (hm : P.follows .mixedOrders = true) (hS : heldL T (Array.replicate ops.size false) w.drew)
    (h : heldL T (Array.replicate ops.size false) w.drew → wpAnyL P .any ops Q T ops.size (Array.replicate ops.size false) a w.drew) : (Code.region id ops true).wp P Q a w :=
  wp_region_any hm (wpAny_of_L _ _ _ _ (h hS))
end
end Go.Proofs.YtakfdlokgddaoaaDoor
