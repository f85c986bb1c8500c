/- coin.Pot.Rest; baizeref03.New and Pay: the document's pot. -/
import Derived.Test.YtfapechlnllfaaaC4
import Derived.Deep.RegionHeld3
import Derived.Deep.DeepCutAuto
namespace Go.Proofs.Ytfapechlnllfaaa
open Go.RowKit

theorem rest_nil (seat : Int) (w : World) :
    Calls Try.prog 27 #[.pointer none, .int .i64 seat] w fun e w' => e = .returned (.slice none 0 0) ∧ w = w' := by
  go_enter Try.func27, Try.ntmps27
  go_wp2_with (first
    | (go_at_call 23; refine (left_nil _).mono ?_; rintro e w' ⟨rfl, rfl⟩)
    | (go_at_call 22; refine (pay_nil _ _ _).mono ?_; rintro e w' ⟨rfl, rfl⟩)
    | (go_at_call 24; refine (pays_nil _).mono ?_; rintro e w' ⟨rfl, rfl⟩))
  go_ret
  exact ⟨rfl, rfl⟩

theorem payOf_self {l : Int} (h : 0 ≤ l) : payOf l l = l := by unfold payOf; omega

theorem rest_any (w : World) (g : Nat) (l : Int) (k : Nat) (ps : List Int) (h : PotAt w g l k ps) (ok : PotOk l k ps) (seat : Int) :
    Calls Try.prog 27 #[.pointer (some ⟨g, 0, none⟩), .int .i64 seat] w fun e w' => ∃ v, e = .returned v ∧
      w'.ownsRow w.heap.size 3 1 v k (((paid k ps seat l).take k).map (.int .i64)) ∧ PotAt w' g 0 k (paid k ps seat l) ∧ w.grownBy w' (some g) := by
  have hl0 := ok.l0
  have hp := Lib.hid (payOf_self hl0)
  have OK2 := Lib.hid (pay_ok ok seat l)
  go_enter Try.func27, Try.ntmps27
  go_wp2_with (go_at_call 23; refine (left_any _ _ _ _ _ h).mono ?_; rintro e w' ⟨rfl, rfl⟩)
  refine (pay_any _ _ _ _ _ h ok _ _).mono ?_
  rintro e w1 ⟨rfl, h1, hg1⟩
  have ok2 := OK2.out
  rw [hp.out] at h1 ok2
  rw [Int.sub_self] at h1 ok2
  go_wp2_with (go_at_call 24; refine (pays_any _ _ _ _ _ h1 ok2).mono ?_; rintro e w2 ⟨v, rfl, hown, hbl⟩)
  go_ret
  go_light
  refine ⟨v, rfl, ?_, h1.later hbl, only_below hg1 hbl⟩
  exact own_base hown hg1.size

theorem rnew_bad (amount seats : Int) (w : World) (h : newE amount seats ≠ 0) :
    Calls Try.prog 20 #[.int .i64 amount, .int .i64 seats] w fun e w' => e = .returned (.tuple #[.agg #[.int .i64 0, .slice none 0 0], .int .i64 (newE amount seats)]) ∧ Below w.heap.size w w' := by
  have H := Lib.hid h; clear h
  go_enter Try.func20, Try.ntmps20
  go_wp2_with (go_at_call 35; refine (rright_any _ _).mono ?_; rintro e w' ⟨rfl, rfl⟩)
  · refine bodyPost_ret (v := .tuple #[.agg #[.int .i64 0, .slice none 0 0], .int .i64 2]) (by simp [results, Try.results20, go_sem]) rfl ⟨?_, (Below.refl _ _).alloc (Nat.le_refl _) _⟩
    go_light
    simp_all [newE]
  · refine bodyPost_ret (v := .tuple #[.agg #[.int .i64 0, .slice none 0 0], .int .i64 1]) (by simp [results, Try.results20, go_sem]) rfl ⟨?_, (Below.refl _ _).alloc (Nat.le_refl _) _⟩
    go_light
    simp_all [newE] <;> omega
  · refine bodyPost_ret (v := .tuple #[.agg #[.int .i64 0, .slice none 0 0], .int .i64 1]) (by simp [results, Try.results20, go_sem]) rfl ⟨?_, (Below.refl _ _).alloc (Nat.le_refl _) _⟩
    go_light
    simp_all [newE] <;> omega
  · exact absurd H.out (by simp_all [newE])
theorem rnew_ok (amount : Int) (n : Nat) (w : World) (h : rightB amount = true) (h1 : 1 ≤ n) (h8 : n ≤ 8) :
    Calls Try.prog 20 #[.int .i64 amount, .int .i64 n] w fun e w' => ∃ v, e = .returned (.tuple #[.agg #[.int .i64 amount, v], .int .i64 0]) ∧
      w'.ownsRow w.heap.size 3 1 v n ((List.replicate n 0).map (.int .i64)) ∧ Below w.heap.size w w' := by
  have hmk := run_make_row' (P := Try.prog) 24 3 (.int .i64 0) 8 Try.underlying24 (by kernel_rfl) rfl .i64 .i64 n (by omega) (by omega)
  go_enter Try.func20, Try.ntmps20
  go_wp2_with (go_at_call 35; refine (rright_any _ _).mono ?_; rintro e w' ⟨rfl, rfl⟩)
  refine bodyPost_ret (v := .tuple #[.agg #[.int .i64 amount, .slice (some ⟨w.heap.size + 1, 0, none⟩) n n], .int .i64 0]) (by simp [results, Try.results20, go_sem]) rfl ⟨_, rfl, ?_, ((Below.refl _ _).alloc (Nat.le_refl _) _).alloc (by simp) _⟩
  refine bk_own (Bk.at_ _ _ _ (by simp) (by rw [toList_madeCells_one])) (by omega) (by simp) (by omega)
theorem payIdx_lt {n : Nat} (hn : 1 ≤ n) (seat : Int) : payIdx n seat < n := by unfold payIdx; split <;> omega
set_option maxHeartbeats 1600000 in
theorem rpay_any (w : World) (l : Int) (A : Option Addr) (n c : Nat) (ps : List Int) (h : Sl w w.heap.size 1 A n (ps.map (.int .i64))) (hn : 1 ≤ n) (h8 : n ≤ 8) (hl : 0 ≤ l ∧ l ≤ 1125899906842624) (hps : ∀ x ∈ ps, 0 ≤ x ∧ x + l ≤ 1125899906842624) (seat ask : Int) :
    Calls Try.prog 21 #[.agg #[.int .i64 l, .slice A n c], .int .i64 seat, .int .i64 ask] w fun e w' => ∃ v, e = .returned (.tuple #[.agg #[.int .i64 (l - payOf l ask), v], .int .i64 (payOf l ask)]) ∧
      w'.ownsRow w.heap.size 3 1 v n ((paid n ps seat (payOf l ask)).map (.int .i64)) ∧ Below w.heap.size w w' := by
  obtain ⟨i0, hi, hz0, hz1, hz2⟩ := info_parts Try.infoInt
  obtain ⟨hl0, hl1⟩ := hl
  have hk := pay_bounds (ask := ask) hl0
  have hix := payIdx_lt hn seat
  have hpl := h.length
  obtain ⟨x, hx⟩ : ∃ x, ps[payIdx n seat]? = some x := ⟨ps[payIdx n seat]'(by omega), List.getElem?_eq_getElem _⟩
  obtain ⟨hx0, hx1⟩ := hps x (List.mem_of_getElem? hx)
  have hfin : paid n ps seat (payOf l ask) = ps.set (payIdx n seat) (x + payOf l ask) := by unfold paid; rw [List.getD_eq_getElem?_getD, hx]; rfl
  have hs1 : (seat < 0 ∨ (n : Int) ≤ seat) → payIdx n seat = 0 := fun h => by unfold payIdx; rw [if_neg (by omega)]
  have hs2 : 0 ≤ seat → seat < n → (payIdx n seat : Int) = seat := fun h1 h2 => by unfold payIdx; rw [if_pos ⟨h1, h2⟩]; omega
  have hp1 : l < ask → payOf l ask = l := fun h => by unfold payOf; omega
  have hp2 : ask < 0 → payOf l ask = 0 := fun h => by unfold payOf; omega
  have hp3 : 0 ≤ ask → ask ≤ l → payOf l ask = ask := fun h1 h2 => by unfold payOf; omega
  rw [hfin]
  obtain ⟨ix, hix'⟩ : ∃ ix, payIdx n seat = ix := ⟨_, rfl⟩
  obtain ⟨pay, hpay'⟩ : ∃ p, payOf l ask = p := ⟨_, rfl⟩
  rw [hix'] at hs1 hs2 hix hx ⊢
  rw [hpay'] at hp1 hp2 hp3 hk ⊢
  obtain ⟨hk0, hk1⟩ := hk
  clear hfin hix' hpay' hps
  have H := Lib.hid h; clear h
  have HX := Lib.hid hx; clear hx
  have HL := Lib.hid hpl; clear hpl
  have HS1 := Lib.hid hs1; have HS2 := Lib.hid hs2; have HP1 := Lib.hid hp1; have HP2 := Lib.hid hp2; have HP3 := Lib.hid hp3
  clear hs1 hs2 hp1 hp2 hp3
  go_enter Try.func21, Try.ntmps21
  go_upto_region 1 with fail
  go_cut [17] (fun s wx => s = .bool (decide (¬ (0 ≤ seat ∧ seat < n))) ∧ wx = (w.alloc (.cells #[.int .i64 l, .slice A n c] 40)).alloc (.cells #[.int .i64 0, .slice none 0 0] 40))
  case first =>
    go_wp2_with fail
    all_goals
      go_meet
      go_light
      exact ⟨by simp_all <;> omega, rfl⟩
  obtain ⟨rfl, rfl⟩ := hcut
  go_upto_if 17 with fail
  go_cut [1] (fun s wx => s = .int .i64 ix ∧ wx = (w.alloc (.cells #[.int .i64 l, .slice A n c] 40)).alloc (.cells #[.int .i64 0, .slice none 0 0] 40))
  case first =>
    go_wp2_with fail
    all_goals
      go_meet
      go_light
    · exact ⟨congrArg (Value.int .i64) (by have h5 := HS1.out; have h6 := HS2.out; omega), rfl⟩
    · exact ⟨congrArg (Value.int .i64) (by have h5 := HS1.out; have h6 := HS2.out; omega), rfl⟩
  obtain ⟨rfl, rfl⟩ := hcut
  go_upto_if 21 with fail
  go_cut [2] (fun s wx => s = .int .i64 (min ask l) ∧ wx = (w.alloc (.cells #[.int .i64 l, .slice A n c] 40)).alloc (.cells #[.int .i64 0, .slice none 0 0] 40))
  case first =>
    go_wp2_with fail
    all_goals
      go_meet
      go_light
      exact ⟨congrArg (Value.int .i64) (by omega), rfl⟩
  obtain ⟨rfl, rfl⟩ := hcut
  obtain ⟨al, hal⟩ : ∃ al, min ask l = al := ⟨_, rfl⟩
  rw [hal]
  have HAL := Lib.hid hal; clear hal
  go_upto_if 25 with fail
  go_cut [2] (fun s wx => s = .int .i64 pay ∧ wx = (w.alloc (.cells #[.int .i64 l, .slice A n c] 40)).alloc (.cells #[.int .i64 0, .slice none 0 0] 40))
  case first =>
    go_wp2_with fail
    all_goals
      go_meet
      go_light
      exact ⟨congrArg (Value.int .i64) (by have := HAL.out; have := HP1.out; have := HP2.out; have := HP3.out; omega), rfl⟩
  obtain ⟨rfl, rfl⟩ := hcut
  go_upto_region 7 with fail
  go_cut [8] (fun p wx => ∃ q g1 cap1, p = .pointer (some ⟨q, 0, none⟩) ∧ w.heap.size + 2 ≤ q ∧ w.heap.size + 2 ≤ g1 ∧ Bk wx q 40 [.int .i64 (IntKind.i64.wrap (l - pay)), .slice (some ⟨g1, 0, none⟩) n cap1] ∧
     wx.ownsRow w.heap.size 3 1 (.slice (some ⟨g1, 0, none⟩) n cap1) n (ps.map (.int .i64)) ∧ Below w.heap.size w wx ∧ Bk wx (w.heap.size + 1) 40 [.int .i64 0, .slice none 0 0])
  case first =>
    go_region_held3 (fun w' => w'.cell? ⟨w.heap.size, 0, none⟩ = some (.int .i64 l) ∧ w'.cell? ⟨w.heap.size, 1, none⟩ = some (.slice A n c))
      (first
        | go_keep
        | (refine ⟨?_, ?_⟩ <;> (rw [World.cell?_setCell_other _ _ _ _ (by simp), World.cell?_setCell_other _ _ _ _ (by simp)]; assumption)))
      (first
        | (refine step_app _ (by rfl) (.tmp 30) (.tmp 32) 24 (by rfl) w.heap.size 3 i0 (.int .i64 0) 1 8 Try.underlying24 hi hz0 hz1 hz2 rfl (by omega) (.slice (some ⟨w.heap.size + 1 + 1, 0, none⟩) 0 0) 0 [] (by rfl) (own_empty_at (w := (w.alloc (.cells #[.int .i64 l, .slice A n c] 40)).alloc (.cells #[.int .i64 0, .slice none 0 0] 40)) (by simp) (by omega)) w.heap.size A n c (ps.map (.int .i64)) (by rfl) (by repeat (first | exact H.out | apply Sl.drew | refine Sl.alloc ?_ (by simp <;> omega) _)) (ints_one _ _) (by unfold maxLen; omega) (by omega) (by simp <;> omega) ?_; intro v1 w1 hown1 hgrow hat1; obtain ⟨g1, cap1, rfl, hgb1, hglt1⟩ := hown1.form (by omega); simp only [Value.ownBlock] at hgrow; have hbl1 : Below w.heap.size w w1 := (by refine below_only ?_ hgrow (by simp <;> omega) (by omega); repeat (first | exact Below.refl _ _ | apply Below.drew | refine Below.alloc ?_ (by simp <;> omega) _)); have hsz1 : w.heap.size + 3 ≤ w1.heap.size := (by have := hgrow.size; simp at this; omega); have hbz : Bk w1 (w.heap.size + 1) 40 [.int .i64 0, .slice none 0 0] := Bk.grown (((Bk.at_ (g := w.heap.size + 1) (w.alloc (.cells #[.int .i64 l, .slice A n c] 40)) _ _ (by simp) rfl).alloc _)).drew hgrow (by simp <;> omega); have hga : g1 = w.heap.size + 1 + 1 ∨ w.heap.size + 3 ≤ g1 := (by rcases hat1 with hat1 | hat1 <;> (simp [Value.ownBlock] at hat1; omega)); have q0 : w1.cell? ⟨w.heap.size, 0, none⟩ = some (.int .i64 l) := (by rw [hgrow.cell_far _ (by simp <;> omega) (by simp <;> omega)]; go_keep); have q1 : w1.cell? ⟨w.heap.size, 1, none⟩ = some (.slice A n c) := (by rw [hgrow.cell_far _ (by simp <;> omega) (by simp <;> omega)]; go_keep))
        | (refine step_app _ (by rfl) (.tmp 30) (.tmp 32) 24 (by rfl) w.heap.size 3 i0 (.int .i64 0) 1 8 Try.underlying24 hi hz0 hz1 hz2 rfl (by omega) (.slice (some ⟨w.heap.size + 1 + 1 + 1, 0, none⟩) 0 0) 0 [] (by rfl) (own_empty_at (w := ((w.alloc (.cells #[.int .i64 l, .slice A n c] 40)).alloc (.cells #[.int .i64 0, .slice none 0 0] 40)).alloc (.cells #[.int .i64 0, .slice none 0 0] 40)) (by simp) (by omega)) w.heap.size A n c (ps.map (.int .i64)) (by rfl) (by repeat (first | exact H.out | apply Sl.drew | refine Sl.alloc ?_ (by simp <;> omega) _)) (ints_one _ _) (by unfold maxLen; omega) (by omega) (by simp <;> omega) ?_; intro v1 w1 hown1 hgrow hat1; obtain ⟨g1, cap1, rfl, hgb1, hglt1⟩ := hown1.form (by omega); simp only [Value.ownBlock] at hgrow; have hbl1 : Below w.heap.size w w1 := (by refine below_only ?_ hgrow (by simp <;> omega) (by omega); repeat (first | exact Below.refl _ _ | apply Below.drew | refine Below.alloc ?_ (by simp <;> omega) _)); have hsz1 : w.heap.size + 4 ≤ w1.heap.size := (by have := hgrow.size; simp at this; omega); have hbz : Bk w1 (w.heap.size + 1) 40 [.int .i64 0, .slice none 0 0] := Bk.grown ((((Bk.at_ (g := w.heap.size + 1) (w.alloc (.cells #[.int .i64 l, .slice A n c] 40)) _ _ (by simp) rfl).alloc _).alloc _)).drew hgrow (by simp <;> omega); have hga : g1 = w.heap.size + 1 + 1 + 1 ∨ w.heap.size + 4 ≤ g1 := (by rcases hat1 with hat1 | hat1 <;> (simp [Value.ownBlock] at hat1; omega)); have q0 : w1.cell? ⟨w.heap.size, 0, none⟩ = some (.int .i64 l) := (by rw [hgrow.cell_far _ (by simp <;> omega) (by simp <;> omega)]; go_keep); have q1 : w1.cell? ⟨w.heap.size, 1, none⟩ = some (.slice A n c) := (by rw [hgrow.cell_far _ (by simp <;> omega) (by simp <;> omega)]; go_keep); have hbq : Bk w1 (w.heap.size + 1 + 1) 40 [.int .i64 0, .slice none 0 0] := Bk.grown (((Bk.at_ (g := w.heap.size + 1 + 1) ((w.alloc (.cells #[.int .i64 l, .slice A n c] 40)).alloc (.cells #[.int .i64 0, .slice none 0 0] 40)) _ _ (by simp) rfl).alloc _)).drew hgrow (by simp <;> omega); have r0 := hbq.cell 0; have f0 := hbq.frozen 0; have r1 := hbq.cell 1; have f1 := hbq.frozen 1; simp at r0 r1)
        | (refine step_app _ (by rfl) (.tmp 30) (.tmp 32) 24 (by rfl) w.heap.size 3 i0 (.int .i64 0) 1 8 Try.underlying24 hi hz0 hz1 hz2 rfl (by omega) (.slice (some ⟨w.heap.size + 1 + 1, 0, none⟩) 0 0) 0 [] (by rfl) ((own_empty_at (w := (w.alloc (.cells #[.int .i64 l, .slice A n c] 40)).alloc (.cells #[.int .i64 0, .slice none 0 0] 40)) (by simp) (by omega)).alloc (.cells #[.int .i64 0, .slice none 0 0] 40)) w.heap.size A n c (ps.map (.int .i64)) (by rfl) (by repeat (first | exact H.out | apply Sl.drew | refine Sl.alloc ?_ (by simp <;> omega) _)) (ints_one _ _) (by unfold maxLen; omega) (by omega) (by simp <;> omega) ?_; intro v1 w1 hown1 hgrow hat1; obtain ⟨g1, cap1, rfl, hgb1, hglt1⟩ := hown1.form (by omega); simp only [Value.ownBlock] at hgrow; have hbl1 : Below w.heap.size w w1 := (by refine below_only ?_ hgrow (by simp <;> omega) (by omega); repeat (first | exact Below.refl _ _ | apply Below.drew | refine Below.alloc ?_ (by simp <;> omega) _)); have hsz1 : w.heap.size + 4 ≤ w1.heap.size := (by have := hgrow.size; simp at this; omega); have hbz : Bk w1 (w.heap.size + 1) 40 [.int .i64 0, .slice none 0 0] := Bk.grown ((((Bk.at_ (g := w.heap.size + 1) (w.alloc (.cells #[.int .i64 l, .slice A n c] 40)) _ _ (by simp) rfl).alloc _).alloc _)).drew hgrow (by simp <;> omega); have hga : g1 = w.heap.size + 1 + 1 ∨ w.heap.size + 4 ≤ g1 := (by rcases hat1 with hat1 | hat1 <;> (simp [Value.ownBlock] at hat1; omega)); have q0 : w1.cell? ⟨w.heap.size, 0, none⟩ = some (.int .i64 l) := (by rw [hgrow.cell_far _ (by simp <;> omega) (by simp <;> omega)]; go_keep); have q1 : w1.cell? ⟨w.heap.size, 1, none⟩ = some (.slice A n c) := (by rw [hgrow.cell_far _ (by simp <;> omega) (by simp <;> omega)]; go_keep); have hbq : Bk w1 (w.heap.size + 1 + 1 + 1) 40 [.int .i64 0, .slice none 0 0] := Bk.grown ((Bk.at_ (g := w.heap.size + 1 + 1 + 1) (((w.alloc (.cells #[.int .i64 l, .slice A n c] 40)).alloc (.cells #[.int .i64 0, .slice none 0 0] 40)).alloc (.cells #[] 3)) _ _ (by simp) rfl)).drew hgrow (by simp <;> omega); have r0 := hbq.cell 0; have f0 := hbq.frozen 0; have r1 := hbq.cell 1; have f1 := hbq.frozen 1; simp at r0 r1))
    all_goals
      go_wp2_with fail
      go_meet
      go_light
      rw [Nat.zero_add, List.nil_append] at hown1
    · exact ⟨w1.heap.size, g1, cap1, rfl, by omega, by omega, Bk.at_ _ _ _ rfl rfl, hown1.alloc _, hbl1.alloc (by omega) _, hbz.alloc _⟩
    · exact ⟨_, g1, cap1, rfl, by omega, by omega, (hbq.set_ 0 _).set_ 1 _, ownsRow_setCell_other (ownsRow_setCell_other hown1 (own_bk_ne hown1 hbq (by decide)) _) (own_bk_ne hown1 hbq (by decide)) _,
        (hbl1.setCell (by simp <;> omega) _).setCell (by simp <;> omega) _, (hbz.far (by simp) _).far (by simp) _⟩
    · exact ⟨_, g1, cap1, rfl, by omega, by omega, (hbq.set_ 0 _).set_ 1 _, ownsRow_setCell_other (ownsRow_setCell_other hown1 (own_bk_ne hown1 hbq (by decide)) _) (own_bk_ne hown1 hbq (by decide)) _,
        (hbl1.setCell (by simp <;> omega) _).setCell (by simp <;> omega) _, (hbz.far (by simp) _).far (by simp) _⟩
  obtain ⟨q, g1, cap1, rfl, hq, hg1, hbq, hown, hbl, hbz⟩ := hcut
  rw [IntWalk.i64_in _ (by omega)] at hbq
  have hlen : (ps.map (Value.int .i64)).length = n := by simp [HL.out]
  have q1 := hbq.cell 1
  have x0 : wc.cell? ⟨g1, ix, none⟩ = some (.int .i64 x) := by rw [hown.cellAt ix (by omega)]; simp [HX.out]
  have f0 := hown.frozenAt ix
  have hne : ¬ q = g1 := fun h => own_bk_ne hown hbq (by decide) (by rw [h]; rfl)
  have q0 := hbq.cell 0
  have z0 := hbz.cell 0
  have z1 := hbz.cell 1
  have y0 := hbz.frozen 0
  have y1 := hbz.frozen 1
  have hne2 : ¬ w.heap.size + 1 = g1 := by omega
  have hne3 : ¬ g1 = q := fun h => hne h.symm
  have hne4 : ¬ g1 = w.heap.size + 1 := by omega
  simp at q0 q1 z0 z1
  have hixn : (ix : Int) < n := by omega
  go_wp2_with fail
  go_region
  go_wp2_with fail
  have hown2 := (hown.stored ix (.int .i64 (x + pay))).1
  rw [← List.map_set] at hown2
  have hz2 := (((hbz.far (p := ⟨g1, ix, none⟩) hne2 (.int .i64 (x + pay))).set_ 0 (.int .i64 (l - pay))).set_ 1 (.slice (some ⟨g1, 0, none⟩) n cap1))
  have k0 := hz2.cell 0
  have k1 := hz2.cell 1
  simp only [List.set_cons_zero, List.set_cons_succ, List.getElem?_cons_zero, List.getElem?_cons_succ] at k0 k1
  refine bodyPost_ret (v := .tuple #[.agg #[.int .i64 (l - pay), .slice (some ⟨g1, 0, none⟩) n cap1], .int .i64 pay]) (by simp [results, Try.results21, go_sem, k0, k1]) rfl ⟨_, rfl, ?_, ?_⟩
  · refine World.ownsRow.drew (ownsRow_setCell_other (ownsRow_setCell_other hown2 ?_ _) ?_ _) <;> (simp only [Value.ownBlock, ne_eq, Option.some.injEq]; exact hne4)
  · exact (((hbl.setCell (by simp <;> omega) _).setCell (by simp <;> omega) _).setCell (by simp <;> omega) _).drew
end Go.Proofs.Ytfapechlnllfaaa
