/- Deeds in a slice; are they few? -/
import Derived.Test.YthibihjblodfmaaUC
namespace Go.Proofs.Ythibihjblodfmaa
open Go.RowKit Go.Maps

/-- Deeds in a slice. -/
structure Des (w : World) (A : Option Addr) (N : Nat) (xs : List (List Value × DeT)) : Prop where
  sl : Sl w w.heap.size 7 A N (xs.map (·.1)).flatten
  de : ∀ x ∈ xs, ∃ (A' : Option Addr) (N' C' : Nat), x.1 = deC x.2 (.slice A' N' C') ∧ x.2.bs.length = N' ∧ (x.2.bs.length ≤ 60 → DeOk w x.2 A' N')
theorem Des.lens {w : World} {A : Option Addr} {N : Nat} {xs : List (List Value × DeT)} (h : Des w A N xs) : ∀ l ∈ xs.map (·.1), l.length = 7 := fun l hl => by
  obtain ⟨x, hx, rfl⟩ := List.mem_map.1 hl
  obtain ⟨A', N', C', e, _⟩ := h.de x hx
  rw [e]; rfl
theorem Des.length {w : World} {A : Option Addr} {N : Nat} {xs : List (List Value × DeT)} (h : Des w A N xs) : xs.length = N := by
  have h1 := h.sl.len
  rw [flats_len _ h.lens, List.length_map] at h1
  omega
theorem Des.at_ {w wk : World} {A : Option Addr} {N : Nat} {xs : List (List Value × DeT)} (h : Des w A N xs) (hb : Below w.heap.size w wk) {k : Nat} {x : List Value × DeT} (hk : xs[k]? = some x) : ∃ b o, A = some ⟨b, o, none⟩ ∧ wk.rangeAt b (o + k * 7) x.1 := by
  have hkl : k < xs.length := (List.getElem?_eq_some_iff.1 hk).1
  have hs := h.sl.later hb
  obtain ⟨b, o, rfl, _, _⟩ := hs.spot (by have := h.length; omega) (by omega)
  exact ⟨b, o, rfl, sl_flat hs h.lens (by rw [List.getElem?_map, hk]; rfl)⟩
def fewB (xs : List (List Value × DeT)) : Bool := decide (∀ x ∈ xs, x.2.bs.length ≤ 60) && decide (xs.length ≤ 20)
theorem de_size : (Try.prog.info? 70).map (·.size) = some 7 := by kernel_rfl
theorem de_size' (D : DeT) (A : Option Addr) (N C : Nat) : (Try.prog.info? 70).map (·.size) = some (deC D (.slice A N C)).length := de_size
theorem deC_one (D : DeT) (A : Option Addr) (N C : Nat) : ∀ x ∈ deC D (.slice A N C), x.oneCell' = true := by
  intro x hx
  simp only [deC, List.mem_cons, List.not_mem_nil, or_false] at hx
  rcases hx with rfl | rfl | rfl | rfl | rfl | rfl | rfl <;> rfl
set_option maxRecDepth 20000 in
set_option maxHeartbeats 4000000 in
theorem fewD_any (w : World) (A : Option Addr) (N C : Nat) (xs : List (List Value × DeT)) (h : Des w A N xs) (hN : N ≤ 9223372036854775807) :
    Calls Try.prog 37 #[.slice A N C] w fun e w' => e = .returned (.bool (fewB xs)) ∧ Below w.heap.size w w' := by
  have HD := Lib.hid h; have HLN := Lib.hid h.length
  clear h
  go_enter Try.func37, Try.ntmps37
  go_wp2_with fail
  go_loopw [4, 7] (fun _ kv wr => ∃ k : Nat, k ≤ N ∧ kv = .int .i64 k ∧ Hid (∀ j, j < k → ∀ x, xs[j]? = some x → x.2.bs.length ≤ 60) ∧ Hid (Below w.heap.size w wr)) (fun _ kv _ => N - (intOf kv).toNat)
  case atStart => exact ⟨0, Nat.zero_le _, rfl, fun j h => absurd h (by omega), Below.refl _ _⟩
  case round =>
    obtain ⟨k, hk, rfl, HJ, HB⟩ := hrel
    by_cases hlt : k < N
    · have hki : (k : Int) < N := by omega
      have hk0 : (0 : Int) ≤ k := by omega
      obtain ⟨x, hx⟩ : ∃ x, xs[k]? = some x := ⟨xs[k]'(by rw [HLN.out]; omega), List.getElem?_eq_getElem _⟩
      obtain ⟨A', N', C', hx1, hx2, hx3⟩ := HD.out.de x (List.mem_of_getElem? hx)
      obtain ⟨b, o, rfl, hr⟩ := HD.out.at_ HB.out hx
      rw [hx1] at hr
      have HR := Lib.hid hr; have HXK := Lib.hid hx; have HX2 := Lib.hid hx2
      clear hr hx hx1 hx2 hx3
      go_wp2_with (first
        | (with_reducible refine wpList_load_mid rfl 70 _ rfl b (o + k * 7) rfl (deC x.2 (.slice A' N' C')) _ HR.out Try.underlying70 rfl (de_size' x.2 A' N' C') ?_)
        | (with_reducible refine stop_store 70 _ _ rfl ?_))
      refine StopD.go ?_
      obtain ⟨q, hq⟩ : ∃ q, wr.heap.size = q := ⟨_, rfl⟩
      obtain ⟨w5, hw5⟩ : ∃ w5, wr.alloc (.cells #[.int .i64 0, .int .i64 0, .int .i64 0, .slice none 0 0, .bool false, .int .u8 0, .bool false] 70) = w5 := ⟨_, rfl⟩
      have hbn : Below wr.heap.size wr w5 := hw5 ▸ below_new wr _
      have kb : Bk w5 q 70 ([] ++ ([.int .i64 0, .int .i64 0, .int .i64 0, .slice none 0 0, .bool false, .int .u8 0, .bool false] ++ [])) := by rw [← hw5]; exact Bk.at_ wr _ _ hq rfl
      rw [hq, hw5]
      refine wpList_store_part rfl 70 _ _ rfl q 0 (.agg (deC x.2 (.slice A' N' C')).toArray) (deC x.2 (.slice A' N' C')) rfl rfl rfl 70 [] _ [] kb rfl rfl (de_size' _ _ _ _) (deC_one _ _ _ _) ?_
      intro w6 hp
      have hbn : Below wr.heap.size wr w6 := hbn.grown hp.only hbn.size (fun q' hq' => by injection hq' with hq'; omega)
      have HB6 := Lib.hid (below_then HB.out hbn)
      have hc3 : w6.cell? ⟨q, 3, none⟩ = some (.slice A' N' C') := (de_mem (D := x.2) (by have := hp.bk; simpa using this)).c3
      clear hp hbn kb hq hw5
      by_cases hb60 : 60 < N'
      · have hd : decide ((60 : Int) < (N' : Int)) = true := by simp; omega
        go_wp2_with fail
        go_ret
        refine ⟨?_, HB6.out⟩
        have hf : fewB xs = false := by
          unfold fewB
          rw [decide_eq_false (fun h => by have := h x (List.mem_of_getElem? HXK.out); rw [HX2.out] at this; omega)]
          rfl
        rw [hf]
        rfl
      · have hd : decide ((60 : Int) < (N' : Int)) = false := by simp; omega
        go_wp2_with fail
        case roundEnd =>
          refine ⟨⟨k + 1, hlt, by simp, fun j hj y hy => ?_, HB6⟩, by simp [intOf]; omega⟩
          rcases Nat.lt_or_ge j k with hjk | hjk
          · exact HJ.out j hjk y hy
          · obtain rfl : j = k := by omega
            rw [HXK.out] at hy
            injection hy with hy
            subst hy
            rw [HX2.out]; omega
    · have hki : ¬ ((k : Int) < N) := by omega
      go_wp2_with fail
      go_ret
      refine ⟨?_, HB.out⟩
      have hf : fewB xs = decide ((N : Int) ≤ 20) := by
        unfold fewB
        rw [decide_eq_true (fun y hy => by
          obtain ⟨j, hj, e⟩ := List.getElem_of_mem hy
          exact HJ.out j (by have := HLN.out; omega) y (by rw [List.getElem?_eq_getElem hj, e])), HLN.out, Bool.true_and]
        apply decide_eq_decide.2
        omega
      rw [hf]
      rfl
end Go.Proofs.Ythibihjblodfmaa
