/- What is done with a ring, told of what stands. -/
import Derived.Test.YtakfdlokgddaoaaDoorWM
namespace Go.Proofs.YtakfdlokgddaoaaDoor
set_option linter.unusedSimpArgs false
set_option linter.unusedVariables false
open Go.RowKit Go.Maps

section
variable {w w' : World} {lo g b gp : Nat} {V mv tv : Value} {T : Tr} {tlo thi : Nat} {sec R : List Int} {L ms : List (List Int)} {vs : List Value} {Bs : List (Value × List Int)}
theorem Wl.bel (k : Wl w lo sec L g b V T tlo thi gp R mv ms tv vs Bs) (hc : Chg w w' g b V) : Below lo w w' := hc.below k.lw k.ring.led.glo k.ring.led.blo k.ring.led.vlo
def PRes (w : World) (lo : Nat) (sec : List Int) (L1 : List (List Int)) (I E : Int) (g b : Nat) (T : Tr) (tlo thi : Nat) (gp : Nat) (R : List Int) (mv : Value) (ms : List (List Int)) (tv : Value) (vs : List Value) (Bs : List (Value × List Int)) (e : Ending) (w' : World) : Prop :=
  e = .returned (.tuple #[.int .i64 I, .int .i64 E]) ∧ ∃ V', Wl w' lo sec L1 g b V' T tlo thi gp R mv ms tv vs Bs ∧ Below lo w w'
theorem kres_w (k : Wl w lo sec L g b V T tlo thi gp R mv ms tv vs Bs) {m : List Int} (hm : DgOk m) {L1 : List (List Int)} {I E : Int} (h1 : stepL (2 ^ 3) L m = L1) (hI : resI (2 ^ 3) L m = I) (hE : resE (2 ^ 3) L m = E) :
    Calls Tryd.prog 8 #[.pointer (some ⟨g, 0, none⟩), .agg (dl m).toArray] w (PRes w lo sec L1 I E g b T tlo thi gp R mv ms tv vs Bs) := by
  refine (res_any w _ _ _ _ _ _ _ _ _ _ k.ring m hm).mono ?_
  rintro e w' ⟨he, V', hr, hc, hv⟩
  rw [h1] at hr
  rw [hI, hE] at he
  exact ⟨he, V', k.turn hr hc hv, k.bel hc⟩
def PSave (w : World) (lo : Nat) (sec : List Int) (L : List (List Int)) (g b : Nat) (V : Value) (T : Tr) (tlo thi : Nat) (gp : Nat) (R : List Int) (mv : Value) (ms : List (List Int)) (tv : Value) (vs : List Value) (Bs : List (Value × List Int)) (e : Ending) (w' : World) : Prop :=
  ∃ sv, e = .returned sv ∧ Wl w' lo sec L g b V T tlo thi gp R mv ms tv vs ((sv, saveI sec 3 L) :: Bs) ∧ Below lo w w'
theorem ksave_w (k : Wl w lo sec L g b V T tlo thi gp R mv ms tv vs Bs) :
    Calls Tryd.prog 6 #[.pointer (some ⟨g, 0, none⟩)] w (PSave w lo sec L g b V T tlo thi gp R mv ms tv vs Bs) := by
  refine (save_any w _ _ _ _ _ sec 3 L k.ring.led k.ring.hs (by omega) k.ring.nlen).mono ?_
  rintro e w' ⟨sv, he, hown, hbn⟩
  exact ⟨sv, he, (k.later hbn).add (own_base hown k.lw), hbn.mono k.lw⟩
def POpen (w : World) (lo : Nat) (sec : List Int) (L L2 : List (List Int)) (g b : Nat) (V : Value) (T : Tr) (tlo thi : Nat) (gp : Nat) (R : List Int) (mv : Value) (ms : List (List Int)) (tv : Value) (vs : List Value) (Bs : List (Value × List Int)) (e : Ending) (w' : World) : Prop :=
  ∃ g' b' V' T' tlo' thi', e = .returned (.tuple #[.pointer (some ⟨g', 0, none⟩), .int .i64 0]) ∧ Wl w' lo sec L2 g' b' V' T' tlo' thi' gp R mv ms tv vs Bs ∧ RingAt w' lo g b V T tlo thi sec 3 L ∧ Below lo w w'
theorem kopen_w (k : Wl w lo sec L g b V T tlo thi gp R mv ms tv vs Bs) {sv : Value} {L2 : List (List Int)} (hsv : (sv, saveI sec 3 L2) ∈ Bs) (hL2 : LedOk (2 ^ 3) L2) :
    Calls Tryd.prog 9 #[sv] w (POpen w lo sec L L2 g b V T tlo thi gp R mv ms tv vs Bs) := by
  have ho := k.bs _ hsv
  obtain ⟨A, c, hsv2, hsl, _⟩ := own_slw ho
  simp only at hsv2
  subst hsv2
  refine (kopen_any w A _ c sec 3 L2 k.ring.hs (by omega) hL2 hsl).mono ?_
  rintro e w' ⟨g', b', V', T', tlo', thi', he, hr, hbn⟩
  exact ⟨g', b', V', T', tlo', thi', he, k.again hr hbn, k.ring.later hbn, hbn.mono k.lw⟩
def PSign (w : World) (lo : Nat) (sec : List Int) (L : List (List Int)) (m : List Int) (E : Int) (g b : Nat) (T : Tr) (tlo thi : Nat) (gp : Nat) (R : List Int) (mv : Value) (ms : List (List Int)) (tv : Value) (vs : List Value) (Bs : List (Value × List Int)) (e : Ending) (w' : World) : Prop :=
  ∃ v V', e = .returned (.tuple #[v, .int .i64 E]) ∧ Wl w' lo sec L g b V' T tlo thi gp R mv ms tv vs ((v, sgR sec 3 L m) :: Bs) ∧ Below lo w w'
theorem ksign_w (k : Wl w lo sec L g b V T tlo thi gp R mv ms tv vs Bs) {m : List Int} (hm : DgOk m) {E : Int} (h1 : stepL (2 ^ 3) L m = L) (hE : resE (2 ^ 3) L m = E) :
    Calls Tryd.prog 10 #[.pointer (some ⟨g, 0, none⟩), .agg (dl m).toArray] w (PSign w lo sec L m E g b T tlo thi gp R mv ms tv vs Bs) := by
  refine (ksign_any w _ _ _ _ _ _ _ _ _ _ k.ring m hm).mono ?_
  rintro e w' ⟨v, V', he, hown, hr, hc, hv⟩
  rw [h1] at hr
  rw [hE] at he
  exact ⟨v, V', he, (k.turn hr hc hv).add (own_base hown k.lw), k.bel hc⟩
theorem kleft_w (k : Wl w lo sec L g b V T tlo thi gp R mv ms tv vs Bs) (hl : L.length = 8) :
    Calls Tryd.prog 11 #[.pointer (some ⟨g, 0, none⟩)] w fun e w' => e = .returned (.int .i64 0) ∧ Wl w' lo sec L g b V T tlo thi gp R mv ms tv vs Bs ∧ Below lo w w' := by
  refine (kleft_any w _ _ _ _ _ sec 3 L k.ring.led k.ring.hs (by omega) (by omega)).mono ?_
  rintro e w' ⟨he, q, rfl⟩
  refine ⟨by rw [he, hl]; rfl, k.later (below_draws w _ q), (below_draws w w.heap.size q).mono k.lw⟩
theorem ksame_w (k : Wl w lo sec L g b V T tlo thi gp R mv ms tv vs Bs) {g' b' : Nat} {V' : Value} {T' : Tr} {tlo' thi' : Nat} (r : RingAt w lo g' b' V' T' tlo' thi' sec 3 L) :
    Calls Tryd.prog 12 #[.pointer (some ⟨g, 0, none⟩), .pointer (some ⟨g', 0, none⟩)] w fun e w' => e = .returned (.bool true) ∧ Wl w' lo sec L g b V T tlo thi gp R mv ms tv vs Bs ∧ Below lo w w' := by
  refine (ksame_any w _ _ _ _ _ _ _ _ _ _ k.ring _ _ _ _ _ _ _ r).mono ?_
  rintro e w' ⟨he, hbn⟩
  exact ⟨he, k.later hbn, hbn.mono k.lw⟩
end
theorem step_full {L : List (List Int)} {m : List Int} (hL : LedOk (2 ^ 3) L) (h : m ∉ stepL (2 ^ 3) L m) : (stepL (2 ^ 3) L m).length = 8 := by rw [stepL_not hL h]
theorem resE_in {L : List (List Int)} {m : List Int} (h : m ∈ stepL (2 ^ 3) L m) : resE (2 ^ 3) L m = 0 := by rw [resE, if_pos h]
theorem resE_out {L : List (List Int)} {m : List Int} (h : m ∉ stepL (2 ^ 3) L m) : resE (2 ^ 3) L m = 17 := by rw [resE, if_neg h]
theorem sgR_in {sec : List Int} {L : List (List Int)} {m : List Int} (h1 : stepL (2 ^ 3) L m = L) (h : m ∈ L) : sgR sec 3 L m = sgI sec 3 L m := by rw [sgR, h1, if_pos h]
theorem rem4 (f : Int) (h0 : 0 ≤ f) : f.tmod 4 = 0 ∨ f.tmod 4 = 1 ∨ f.tmod 4 = 2 ∨ f.tmod 4 = 3 := by rw [Int.tmod_eq_emod_of_nonneg h0]; omega
end Go.Proofs.YtakfdlokgddaoaaDoor
