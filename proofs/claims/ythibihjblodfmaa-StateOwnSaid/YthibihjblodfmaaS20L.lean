/- Words for what two signed states come to. -/
import Derived.Test.YthibihjblodfmaaS19
namespace Go.Proofs.Ythibihjblodfmaa
open Go.RowKit Go.Maps

theorem fewQ_same {rs : List Pc} (hl : rs.length ≤ 12) (h : ∀ p ∈ rs, p.bs.length = p.n ∧ p.n ≤ 5000) : bsP (fewQ rs) = bsP rs := by
  unfold bsP fewQ
  rw [List.take_of_length_le hl, List.map_map]
  refine List.map_congr_left fun p hp => ?_
  obtain ⟨h1, h2⟩ := h p hp
  show p.bs.take (min p.n 5000) = p.bs
  rw [Nat.min_eq_left h2, List.take_of_length_le (by omega)]
theorem zip_mem {xs ys : List (List Int)} {b : List Int} (h : b ∈ List.zipWith pickL xs ys) : b ∈ xs ∨ b ∈ ys := by
  obtain ⟨i, hi, e⟩ := List.mem_iff_getElem.1 h
  rw [List.getElem_zipWith] at e
  unfold pickL at e
  split at e
  · exact .inr (e ▸ List.getElem_mem _)
  · exact .inl (e ▸ List.getElem_mem _)
/-- What is small stays so. -/
structure Small (ps : List Int) (L : List (List Int)) : Prop where
  p : ps.length ≤ 5000
  l : L.length ≤ 12
  b : ∀ x ∈ L, x.length ≤ 5000
theorem joinR_small {t t' : List Int} {n n' : Int} {ps ps' : List Int} {L L' : List (List Int)} (h : Small ps L) (h' : Small ps' L') : Small (joinR t t' n n' ps ps' L L').ps (joinR t t' n n' ps ps' L L').L := by
  unfold joinR
  split
  · split
    · refine ⟨h.p, by have := h.l; simp; omega, fun x hx => ?_⟩
      rcases zip_mem hx with hx | hx
      · exact h.b x hx
      · exact h'.b x hx
    · exact ⟨by simp, by simp, by simp⟩
  · exact ⟨by simp, by simp, by simp⟩
theorem joinR_by {t t' : List Int} {n n' : Int} {ps ps' : List Int} {L L' : List (List Int)} (ht : DgOk t) (h : ByOk ps) (hL : ∀ b ∈ L, ByOk b) (hL' : ∀ b ∈ L', ByOk b) : DgOk (joinR t t' n n' ps ps' L L').t ∧ ByOk (joinR t t' n n' ps ps' L L').ps ∧ ∀ b ∈ (joinR t t' n n' ps ps' L L').L, ByOk b := by
  unfold joinR
  split
  · split
    · refine ⟨ht, h, fun x hx => ?_⟩
      rcases zip_mem hx with hx | hx
      · exact hL x hx
      · exact hL' x hx
    · exact ⟨zero_ok, fun b hb => by simp at hb, fun b hb => by simp at hb⟩
  · exact ⟨zero_ok, fun b hb => by simp at hb, fun b hb => by simp at hb⟩
theorem sameG_self (t : List Int) (n : Int) (ps : List Int) (L : List (List Int)) : sameG t t n n ps ps L L = true := by simp [sameG, sameS, eqL]
theorem small_few {w : World} {A : Option Addr} {N : Nat} {ps : List Int} {qs : List Pc} (_hs : Sl w w.heap.size 1 A N (ps.map (.int .u8))) (hp : PcsOk w qs) : Small (ps.take (min N 5000)) (bsP (fewQ qs)) := by
  refine ⟨by rw [List.length_take]; omega, by rw [bsP_len, few_len]; omega, fun x hx => ?_⟩
  obtain ⟨p, hp', rfl⟩ := List.mem_map.1 hx
  have h1 := (hp.few p hp').length
  have h2 := few_n p hp'
  omega
end Go.Proofs.Ythibihjblodfmaa
