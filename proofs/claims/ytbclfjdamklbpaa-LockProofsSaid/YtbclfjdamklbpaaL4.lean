/- How a lock by a key is opened, and one by an outcome: the walks. -/
import Derived.Test.YtbclfjdamklbpaaL3
namespace Go.Proofs.Ytbclfjdamklbpaa
set_option linter.unusedSimpArgs false
set_option linter.unusedVariables false
open Go.RowKit Go.Maps

def rightC (n : Int) : Bool := decide (0 ≤ n) && decide (n ≤ 1125899906842624)
theorem rightC_any (n : Int) (h0 : 0 ≤ n) (h1 : n ≤ 1125899906842624) (w : World) :
    Calls Try.prog 51 #[.int .i64 n] w fun e w' => e = .returned (.bool true) ∧ w = w' := by
  have a1 : decide (0 ≤ n) = true := by simp; omega
  have a2 : decide (n ≤ 1125899906842624) = true := by simp; omega
  go_enter Try.func51, Try.ntmps51
  go_wp2_with fail
  go_ret
  exact ⟨rfl, rfl⟩
/-- What opens one. -/
def pfC (key : List Int) (p q : Value) : List Value := dl key ++ [p, q]
structure PfM (w : World) (g : Nat) (key : List Int) (p q : Value) : Prop where
  r0 : w.rangeAt g 0 (dl key)
  c8 : w.cell? ⟨g, 8, none⟩ = some p
  c9 : w.cell? ⟨g, 9, none⟩ = some q
theorem pf_mem {w : World} {g : Nat} {key : List Int} {p q : Value} {ty : TypeId} (hh : DgOk key) (h : Bk w g ty (pfC key p q)) : PfM w g key p q := by
  have lt := hh.len
  have e : ∀ j, w.cell? ⟨g, 8 + j, none⟩ = [p, q][j]? := fun j => by
    rw [h.cell, pfC, List.getElem?_append_right (by rw [dl_len, lt]; omega), dl_len, lt]
    congr 1; omega
  have h3 : Bk w g ty ([] ++ (dl key ++ [p, q])) := h
  exact ⟨h3.range rfl, e 0, e 1⟩
theorem pfC_len {key : List Int} (hh : DgOk key) (p q : Value) : (pfC key p q).length = 10 := by simp [pfC, dl_len, hh.len]
theorem pf_size : (Try.prog.info? 39).map (·.size) = some 10 := by kernel_rfl
theorem pf_sz {key : List Int} (hh : DgOk key) (p q : Value) : (Try.prog.info? 39).map (·.size) = some (pfC key p q).length := by rw [pfC_len hh]; exact pf_size
theorem pf_one (key : List Int) (A B : Option Addr) (N C M D : Nat) : ∀ x ∈ pfC key (.slice A N C) (.slice B M D), x.oneCell' = true := by
  intro x hx
  simp only [pfC, dl, List.mem_cons, List.mem_append, List.mem_map, List.not_mem_nil, or_false] at hx
  rcases hx with ⟨y, _, rfl⟩ | rfl | rfl <;> rfl
def RetO (r : Int × Int) (w : World) (e : Ending) (w' : World) : Prop := e = .returned (.tuple #[.int .i64 r.1, .int .i64 r.2]) ∧ Below w.heap.size w w'
def keyO (h key : List Int) (c : Int) : Int × Int := if oneI key = h then (c, 0) else (0, 29)
set_option maxRecDepth 20000 in
set_option maxHeartbeats 2000000 in
theorem byKey_any (w : World) (L : LkT) (hh : DgOk L.h) (A : Option Addr) (N C : Nat) (v : Value) (key : List Int) (hk : DgOk key) (p q : Value) :
    Calls Try.prog 69 #[.agg (lkC L (.slice A N C)).toArray, v, .agg (pfC key p q).toArray] w (RetO (keyO L.h key L.c) w) := by
  obtain ⟨L0, hL0⟩ : ∃ x, L = x := ⟨_, rfl⟩
  rw [hL0] at hh ⊢
  have hkr := dg_eq_run _ _ (oneI_ok key) hh
  obtain ⟨b, hb⟩ : ∃ b, eqL (oneI key) L0.h = b := ⟨_, rfl⟩
  rw [hb] at hkr
  have HE := Lib.hid hb
  clear hb hL0 L
  have HZK := Lib.hid (hdg_size _ hk); have HZH := Lib.hid (hdg_size _ hh)
  obtain ⟨K1, hK1⟩ : ∃ K, oneI key = K := ⟨_, rfl⟩
  rw [hK1] at hkr
  have HK1 := Lib.hid hK1
  have HON := Lib.hid (fun w' => one_any w' key hk)
  rw [hK1] at HON
  clear hK1
  obtain ⟨L, hL⟩ : ∃ x, lkC L0 (.slice A N C) = x := ⟨_, rfl⟩
  obtain ⟨X, hX⟩ : ∃ X, L.toArray = X := ⟨_, rfl⟩
  obtain ⟨F, hF⟩ : ∃ x, pfC key p q = x := ⟨_, rfl⟩
  obtain ⟨Y, hY⟩ : ∃ Y, F.toArray = Y := ⟨_, rfl⟩
  obtain ⟨w1, hw1⟩ : ∃ w1, (w.alloc (.cells X 26)).alloc (.cells Y 39) = w1 := ⟨_, rfl⟩
  have hb1 : Below w.heap.size w w1 := hw1 ▸ (below_new w _).alloc (by simp) _
  have kx : Bk w1 w.heap.size 26 L := hw1 ▸ (Bk.new' w _ X (by rw [← hX])).alloc _
  have ky : Bk w1 (w.heap.size + 1) 39 F := hw1 ▸ Bk.at_ _ _ Y (by simp) (by rw [← hY])
  have HLM : Hid (∀ w' g', Bk w' g' 26 L → LkM w' g' L0 (.slice A N C)) := fun w' g' h' => by rw [← hL] at h'; exact lk_mem hh h'
  have HPM : Hid (∀ w' g', Bk w' g' 39 F → PfM w' g' key p q) := fun w' g' h' => by rw [← hF] at h'; exact pf_mem hk h'
  have HW := Lib.hid hw1; have HBB1 := Lib.hid hb1; have HX1 := Lib.hid kx; have HY1 := Lib.hid ky; have HHO := Lib.hid hh; have HKO := Lib.hid hk; have HLE := Lib.hid hL; have HFE := Lib.hid hF
  rw [hL, hF, hX, hY]
  clear hL hX hF hY hw1 hb1 kx ky hh hk
  go_enter Try.func69, Try.ntmps69
  go_upto_region 1 with fail
  rw [HW.out]
  refine wp_region_held_drew (S := fun w' => Bk w' w.heap.size 26 L ∧ Bk w' (w.heap.size + 1) 39 F) (by kernel_rfl) ⟨Bk.drew HX1.out, Bk.drew HY1.out⟩ (fun hHeld => ?_)
  have hbd : Below w1.heap.size w1 w1.drew := below_draws w1 w1.heap.size 1
  obtain ⟨wa, hwa⟩ : ∃ wa, w1.drew = wa := ⟨_, rfl⟩
  rw [hwa] at hbd hHeld ⊢
  have HXa := Lib.hid (HX1.out.later hbd); have HYa := Lib.hid (HY1.out.later hbd); have HBBa := Lib.hid (below_then HBB1.out hbd)
  clear hwa hbd
  refine wpAnyH_take (i := 0) (v := ?_) rfl (by kernel_rfl) (by kernel_rfl) (by kernel_rfl) (fun _ _ _ h => h) (Or.inl ⟨by rfl, ?_⟩) (by assumption) ?_
  rotate_left
  · intro w hSw
    (try dsimp only at hSw)
    go_simp
    try with_reducible rfl
  try simp only [Act.put, List.setIfInBounds_toArray, List.set_cons_zero, List.set_cons_succ, List.getElem_toArray, List.getElem_cons_zero, List.getElem_cons_succ]
  refine wpAnyH_take (i := 3) (v := ?_) rfl (by kernel_rfl) (by kernel_rfl) (by kernel_rfl) (fun _ _ _ h => h) (Or.inl ⟨by rfl, ?_⟩) (by assumption) ?_
  rotate_left
  · intro w hSw
    (try dsimp only at hSw)
    go_simp
    try with_reducible rfl
  try simp only [Act.put, List.setIfInBounds_toArray, List.set_cons_zero, List.set_cons_succ, List.getElem_toArray, List.getElem_cons_zero, List.getElem_cons_succ]
  refine wpAnyH_take (i := 1) (v := .agg (List.toArray (dl key))) rfl (by kernel_rfl) (by kernel_rfl) (by kernel_rfl) (fun _ _ _ h => h) (yieldsIf_load_mid (by rfl) _ _ rfl _ _ rfl (dl key) _ (fun w hSw => (HPM.out w _ hSw.2).r0) Try.underlying23 rfl (HZK.out)) (by assumption) ?_
  try simp only [Act.put, List.setIfInBounds_toArray, List.set_cons_zero, List.set_cons_succ, List.getElem_toArray, List.getElem_cons_zero, List.getElem_cons_succ]
  refine wpAnyH_take (i := 4) (v := .agg (List.toArray (dl L0.h))) rfl (by kernel_rfl) (by kernel_rfl) (by kernel_rfl) (fun _ _ _ h => h) (yieldsIf_load_mid (by rfl) _ _ rfl _ _ rfl (dl L0.h) _ (fun w hSw => (HLM.out w _ hSw.1).r1) Try.underlying23 rfl (HZH.out)) (by assumption) ?_
  try simp only [Act.put, List.setIfInBounds_toArray, List.set_cons_zero, List.set_cons_succ, List.getElem_toArray, List.getElem_cons_zero, List.getElem_cons_succ]
  refine wpAnyH_ready (rs := [2]) (by kernel_rfl) (by simp) ?_
  refine AllReadyH.cons rfl (fun K hK => ?_) AllReadyH.nil
  go_simp
  (go_at_call 20; refine (HON.out wa).mono ?_; rintro e wb ⟨rfl, hbn⟩; have HXb := Lib.hid (HXa.out.later hbn); have HYb := Lib.hid (HYa.out.later hbn); have HBBb := Lib.hid (below_then HBBa.out hbn); clear hbn)
  refine hK.out _ _ (⟨HXb.out, HYb.out⟩) (fun hHeld => ?_)
  clear hK K
  try simp only [Act.put, List.setIfInBounds_toArray, List.set_cons_zero, List.set_cons_succ, List.getElem_toArray, List.getElem_cons_zero, List.getElem_cons_succ]
  refine wpAnyH_take (i := 5) (v := ?_) rfl (by kernel_rfl) (by kernel_rfl) (by kernel_rfl) (fun _ _ _ h => h) (Or.inl ⟨by rfl, ?_⟩) (by assumption) ?_
  rotate_left
  · intro w hSw
    (try dsimp only at hSw)
    go_simp
    try with_reducible rfl
  try simp only [Act.put, List.setIfInBounds_toArray, List.set_cons_zero, List.set_cons_succ, List.getElem_toArray, List.getElem_cons_zero, List.getElem_cons_succ]
  refine wpAnyH_done (by kernel_rfl) ?_ _
  clear hHeld
  have c11 := (HLM.out wb _ HXb.out).c11
  cases b
  · go_wp2_with fail
    go_ret2
    refine ⟨?_, HBBb.out⟩
    rw [keyO, if_neg (by simpa [eqL] using HE.out)]; rfl
  · go_wp2_with fail
    go_ret2
    refine ⟨?_, HBBb.out⟩
    rw [keyO, if_pos (by simpa [eqL] using HE.out)]; rfl
end Go.Proofs.Ytbclfjdamklbpaa
