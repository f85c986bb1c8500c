/- The fees of a block: the plain law of their sum. -/
import Derived.Test.YtbpmomedhdmloaaDoorA1
import Derived.Test.YtbpmomedhdmloaaDoorB1
namespace Go.Proofs.YtbpmomedhdmloaaDoor
/-- The program's sum of fees that all are amounts. -/
theorem sumG_fees : ∀ (L : List TxT) (s : Int), (∀ t ∈ L, 0 ≤ t.e ∧ t.e ≤ 1125899906842624) → 0 ≤ s → s ≤ 1125899906842624 → sumG s (L.map TxT.e) = if s + feesS L ≤ 1125899906842624 then (s + feesS L, 0) else (0, 2)
  | [], s, _, _, h1 => by
    rw [if_pos (by show s + 0 ≤ _; omega)]
    show (s, (0 : Int)) = (s + 0, 0)
    rw [Int.add_zero]
  | t :: L, s, h, h0, h1 => by
    have ht := h t List.mem_cons_self
    have hp := feesS_pos L (fun x hx => h x (List.mem_cons_of_mem _ hx))
    rw [List.map_cons, sumG, feesS_cons]
    by_cases hr : s + t.e ≤ 1125899906842624
    · have e1 : rightB s = true := right_t h0 h1
      have e2 : rightB t.e = true := right_t ht.1 ht.2
      have e3 : rightB (s + t.e) = true := right_t (by omega) hr
      have a1 : addE s t.e = 0 := by unfold addE; rw [e1, e2, e3]; rfl
      have a2 : addV s t.e = s + t.e := by unfold addV; rw [e1, e2, e3]; rfl
      rw [if_pos a1, a2, sumG_fees L (s + t.e) (fun x hx => h x (List.mem_cons_of_mem _ hx)) (by omega) hr, show s + t.e + feesS L = s + (t.e + feesS L) by omega]
    · have e3 : rightB (s + t.e) = false := by unfold rightB; rw [decide_eq_false (p := s + t.e ≤ 1125899906842624) hr, Bool.and_false]
      have a1 : addE s t.e = 2 := by unfold addE; rw [e3, Bool.and_false]; rfl
      rw [a1, if_neg (by decide), if_neg (by omega)]
end Go.Proofs.YtbpmomedhdmloaaDoor
