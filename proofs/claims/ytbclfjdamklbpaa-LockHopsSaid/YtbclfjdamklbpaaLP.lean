/- The next hop's lock; whether one fits. -/
import Derived.Test.YtbclfjdamklbpaaLO
import Derived.Test.YtbclfjdamklbpaaLD
namespace Go.Proofs.Ytbclfjdamklbpaa
set_option linter.unusedSimpArgs false
set_option linter.unusedVariables false
open Go.RowKit Go.Maps

set_option maxRecDepth 20000 in
/-- slices.Clone of digests. -/
theorem clone_ldg (w : World) (A : Option Addr) (n c : Nat) (ls : List (List Int)) (ho : DsOk ls) (hs : Sl w w.heap.size 8 A n (cellsD ls)) (hn4 : n ≤ 1048576) :
    Calls Try.prog 41 #[.slice A n c] w fun e w' => (∃ v, e = .returned v ∧ w'.ownsRow w.heap.size 23 8 v n (cellsD ls)) ∧ Below w.heap.size w w' := by
  have hn := hs.le
  have hnil : ∀ (w : World) (a : Option Addr) (n c n' c' : Nat), (binOp .eql 24 (.slice a n c) (.slice none n' c')).run Try.prog w = .ok (.bool a.isNone) w := fun w a n c n' c' => Lib.run_eql_slice_nil w _ _ a n c n' c' Try.underlying24
  cases A with
  | none =>
    have hn0 : n = 0 := by
      rcases Nat.eq_zero_or_pos n with h | h
      · exact h
      · obtain ⟨_, e, _⟩ := hs.mem h; cases e
    subst hn0
    have hl := hs.dgs ho
    have HL := Lib.hid (List.eq_nil_of_length_eq_zero hl)
    clear hs ho hl
    go_enter Try.func41, Try.ntmps41
    go_wp2_with fail
    go_ret
    rw [HL.out]
    exact ⟨⟨_, rfl, World.ownsRow_nil _ _ _ _⟩, Below.refl _ _⟩
  | some ad =>
    obtain ⟨d0, z0, hdi, hd0, hd1, hd2, hd3⟩ := dg_parts
    have HS := Lib.hid hs
    have H1 : Hid (∀ u ∈ cellsD ls, u.oneCell' = true) := by
      intro u hu
      simp only [cellsD, List.mem_flatMap, List.mem_map] at hu
      obtain ⟨_, _, _, _, rfl⟩ := hu; rfl
    clear hs ho
    go_enter Try.func41, Try.ntmps41
    go_wp2_with (at_builtin; refine wpList_app _ rfl (.tmp 5) (.tmp 6) 24 rfl w.heap.size 23 d0 z0 8 8 Try.underlying24 hdi hd0 hd1 hd2 hd3 (by decide) _ _ _ rfl (own_empty w 23 8 w.heap.size (Nat.le_refl _)) _ _ n c (cellsD ls) rfl (HS.out.alloc (Nat.le_refl _) _) H1.out (by unfold maxLen; omega) (by omega) (by simp) ?_; intro v1 w3 hown1 hg1 hat1)
    rw [Nat.zero_add, List.nil_append] at hown1
    have hb3 := grown_below (below_new w (.cells #[] 23)) (own_empty w 23 8 w.heap.size (Nat.le_refl _)) hg1 (Nat.le_refl _) (by simp)
    have HO := Lib.hid hown1; have HB := Lib.hid hb3
    clear hown1 hg1 hat1 hb3
    go_wp2_with fail
    go_ret
    exact ⟨⟨_, rfl, HO.out⟩, HB.out⟩
/-- The next hop's lock. -/
def nextL (L : LkT) (win : Int) : LkT := ⟨L.k, L.h, L.ks, L.s, L.c, L.u - win⟩
def RetNx (L : LkT) (N : Nat) (win : Int) (w : World) (e : Ending) (w' : World) : Prop :=
  ∃ (P : Option Addr) (c : Nat), e = .returned (.tuple #[.agg (lkC (nextL L win) (.slice P N c)).toArray, .int .i64 0]) ∧ w'.ownsRow w.heap.size 23 8 (.slice P N c) N (cellsD L.ks) ∧ Below w.heap.size w w'
set_option maxRecDepth 20000 in
set_option maxHeartbeats 2000000 in
theorem next_early (w : World) (L : LkT) (hh : DgOk L.h) (A : Option Addr) (N C : Nat) (win : Int) (hc : checkL L.k L.s L.c L.u N = 0) (h1 : 1 ≤ win) (h2 : win ≤ 1048576) (h3 : L.u < win) :
    Calls Try.prog 17 #[.agg (lkC L (.slice A N C)).toArray, .int .i64 win] w fun e w' => e = .returned (.tuple #[.agg zLk'.toArray, .int .i64 20]) ∧ Below w.heap.size w w' := by
  obtain ⟨L0, hL0⟩ : ∃ x, L = x := ⟨_, rfl⟩
  rw [hL0] at hh hc h3 ⊢
  clear hL0 L
  obtain ⟨L, hL0⟩ : ∃ x, L0 = x := ⟨_, rfl⟩
  rw [hL0] at hh hc h3 ⊢
  clear hL0 L0
  have HCK := Lib.hid (fun w' => lcheck_any w' L hh A N C)
  rw [hc] at HCK
  obtain ⟨l, hl⟩ : ∃ x, lkC L (.slice A N C) = x := ⟨_, rfl⟩
  obtain ⟨X, hX⟩ : ∃ X, l.toArray = X := ⟨_, rfl⟩
  obtain ⟨z, hz⟩ : ∃ z, w.heap.size = z := ⟨_, rfl⟩
  obtain ⟨w1, hw1⟩ : ∃ w1, (w.alloc (.cells X 26)).alloc (.cells #[.int .i64 0, .int .u8 0, .int .u8 0, .int .u8 0, .int .u8 0, .int .u8 0, .int .u8 0, .int .u8 0, .int .u8 0, .slice none 0 0, .int .i64 0, .int .i64 0, .int .i64 0] 26) = w1 := ⟨_, rfl⟩
  have hb1 : Below w.heap.size w w1 := hw1 ▸ (below_new w _).alloc (by simp) _
  have kx : Bk w1 z 26 (lkC L (.slice A N C)) := hw1 ▸ (Bk.at_ w _ X hz (by rw [← hX, ← hl])).alloc _
  have kr : Bk w1 (z + 1) 26 zLk' := hw1 ▸ Bk.at_ _ _ _ (by simp [hz]) rfl
  have HW := Lib.hid hw1; have HB1 := Lib.hid hb1; have HL1 := Lib.hid kx; have HR1 := Lib.hid kr; have HHO := Lib.hid hh; have HZ := Lib.hid hz
  rw [hl, hX]
  clear hl hX hw1 hb1 kx kr hh hz
  go_enter Try.func17, Try.ntmps17
  go_upto_region 1 with fail
  rw [HW.out, HZ.out]
  go_wp2_with (with_reducible refine wpList_load_bk rfl 26 _ rfl z rfl (lkC L (.slice A N C)) 26 HL1.out _ Try.underlying26 rfl (lk_sz HHO.out _) ?_)
  refine (HCK.out w1).mono ?_
  rintro e w2 ⟨rfl, hbn⟩
  have HL2 := Lib.hid (HL1.out.later hbn); have HR2 := Lib.hid (HR1.out.later hbn); have HB2 := Lib.hid (below_then HB1.out hbn)
  clear hbn HL1 HR1 HB1
  have c12 := (lk_mem HHO.out HL2.out).c12
  have g1 : decide (win < 1) = false := by simp; omega
  have g2 : decide (1048576 < win) = false := by simp; omega
  have g3 : decide (L.u < win) = true := by simpa using h3
  have hzl := z_lk
  go_wp2_with (first
    | ((with_reducible refine wpList_build rfl 26 _ rfl #[] ?_ _ (hzl _) ?_); focus (simp [Act.eval, Act.put]; done))
    | (with_reducible refine stop_store 26 _ _ rfl ?_))
  refine StopD.go ?_
  refine wpList_store_part rfl 26 _ _ rfl (z + 1) 0 (.agg zLk'.toArray) zLk' rfl rfl rfl 26 [] zLk' [] (by simpa using HR2.out) rfl rfl zlk_size zlk_one ?_
  intro wz hp
  have HRz : Hid (Bk wz (z + 1) 26 zLk') := by show Bk _ _ _ _; have := hp.bk; simpa using this
  have HBz := Lib.hid (below_only HB2.out hp.only HB2.out.size (by rw [HZ.out]; exact Nat.le_succ z))
  clear hp hzl c12 g1 g2 g3
  go_wp2_with fail
  refine bodyPost_ret (next_ret HRz.out zlk_size _ rfl rfl) rfl ?_
  exact ⟨rfl, HBz.out⟩
set_option maxRecDepth 20000 in
set_option maxHeartbeats 2000000 in
theorem next_ok (w : World) (L : LkT) (A : Option Addr) (N C : Nat) (win : Int) (hk : LkK w L A N) (hc : checkL L.k L.s L.c L.u N = 0) (h1 : 1 ≤ win) (h2 : win ≤ 1048576) (h3 : win ≤ L.u) :
    Calls Try.prog 17 #[.agg (lkC L (.slice A N C)).toArray, .int .i64 win] w (RetNx L N win w) := by
  have HK0 := Lib.hid hk
  have hh := hk.h
  obtain ⟨_, _, e3, e4, _⟩ := checkL_zero hc
  have hwr : IntKind.i64.wrap (L.u - win) = L.u - win := by rw [IntWalk.i64_in]; omega
  have hw6 : wrap64 (L.u - win) = L.u - win := IntWalk.wrap64_in _ (by omega)
  clear hk e3 e4
  have HCK := Lib.hid (fun w' => lcheck_any w' L hh A N C)
  rw [hc] at HCK
  obtain ⟨l, hl⟩ : ∃ x, lkC L (.slice A N C) = x := ⟨_, rfl⟩
  obtain ⟨X, hX⟩ : ∃ X, l.toArray = X := ⟨_, rfl⟩
  obtain ⟨z, hz⟩ : ∃ z, w.heap.size = z := ⟨_, rfl⟩
  obtain ⟨w1, hw1⟩ : ∃ w1, (w.alloc (.cells X 26)).alloc (.cells #[.int .i64 0, .int .u8 0, .int .u8 0, .int .u8 0, .int .u8 0, .int .u8 0, .int .u8 0, .int .u8 0, .int .u8 0, .slice none 0 0, .int .i64 0, .int .i64 0, .int .i64 0] 26) = w1 := ⟨_, rfl⟩
  have hb1 : Below w.heap.size w w1 := hw1 ▸ (below_new w _).alloc (by simp) _
  have kx : Bk w1 z 26 (lkC L (.slice A N C)) := hw1 ▸ (Bk.at_ w _ X hz (by rw [← hX, ← hl])).alloc _
  have kr : Bk w1 (z + 1) 26 zLk' := hw1 ▸ Bk.at_ _ _ _ (by simp [hz]) rfl
  have HW := Lib.hid hw1; have HB1 := Lib.hid hb1; have HL1 := Lib.hid kx; have HR1 := Lib.hid kr; have HHO := Lib.hid hh; have HZ := Lib.hid hz
  rw [hl, hX]
  clear hl hX hw1 hb1 kx kr hh hz
  go_enter Try.func17, Try.ntmps17
  go_upto_region 1 with fail
  rw [HW.out, HZ.out]
  go_wp2_with (with_reducible refine wpList_load_bk rfl 26 _ rfl z rfl (lkC L (.slice A N C)) 26 HL1.out _ Try.underlying26 rfl (lk_sz HHO.out _) ?_)
  refine (HCK.out w1).mono ?_
  rintro e w2 ⟨rfl, hbn⟩
  have HL2 := Lib.hid (HL1.out.later hbn); have HR2 := Lib.hid (HR1.out.later hbn); have HB2 := Lib.hid (below_then HB1.out hbn)
  clear hbn HL1 HR1 HB1
  have c12 := (lk_mem HHO.out HL2.out).c12
  have g1 : decide (win < 1) = false := by simp; omega
  have g2 : decide (1048576 < win) = false := by simp; omega
  have g3 : decide (L.u < win) = false := by simp; omega
  have c9 := (lk_mem HHO.out HL2.out).c9
  have HN1 := Lib.hid HK0.out.n
  go_wp2_with fail
  clear c9 c12 g1 g2 g3
  refine (clone_ldg w2 A N C L.ks HK0.out.ko (HK0.out.later HB2.out).k (by have := HN1.out; omega)).mono ?_
  rintro e w3 ⟨⟨v, rfl, hown⟩, hbn⟩
  obtain ⟨P, c, rfl⟩ := own_form hown
  have HL3 := Lib.hid (HL2.out.later hbn); have HR3 := Lib.hid (HR2.out.later hbn); have HB3 := Lib.hid (below_then HB2.out hbn); have HO3 := Lib.hid (own_base hown HB2.out.size)
  clear hown hbn HL2 HR2 HB2
  obtain ⟨kk, h, ks, s, cc, u⟩ := L
  go_wp2_with (with_reducible refine stop_store 24 _ _ rfl ?_)
  refine StopD.go ?_
  refine wpList_store_part rfl 24 _ _ rfl z 9 (.slice P N c) [.slice P N c] rfl rfl rfl 26 (.int .i64 kk :: dl h) [.slice A N C] ([.int .i64 s, .int .i64 cc, .int .i64 u]) (by have := HL3.out; simpa [lkC] using this) ((by simp [dl_len, HHO.out.len])) rfl (by kernel_rfl) (by intro x hx; simp at hx; subst hx; rfl) ?_
  intro w4 hp
  have HG4 := Lib.hid hp.only
  have HL4 : Hid (Bk w4 z 26 (lkC ⟨kk, h, ks, s, cc, u⟩ (.slice P N c))) := by show Bk _ _ _ _; have := hp.bk; simpa [lkC] using this
  have HB4 := Lib.hid (below_only HB3.out hp.only HB3.out.size (Nat.le_of_eq HZ.out))
  have HR4 := Lib.hid (HR3.out.grown hp.only (by intro e; injection e with e; omega))
  clear hp
  have HO4 := Lib.hid (own_only HO3.out HG4.out (own_bk_ne HO3.out HL3.out (by decide)))
  have c12 := (lk_mem HHO.out HL4.out).c12
  go_wp2_with (with_reducible refine stop_store 3 _ _ rfl ?_)
  refine StopD.go ?_
  refine wpList_store_part rfl 3 _ _ rfl z 12 (.int .i64 (u - win)) [.int .i64 (u - win)] rfl rfl rfl 26 (.int .i64 kk :: dl h ++ [.slice P N c, .int .i64 s, .int .i64 cc]) [.int .i64 u] ([]) (by have := HL4.out; simpa [lkC] using this) ((by simp [dl_len, HHO.out.len])) rfl (by kernel_rfl) (by intro x hx; simp at hx; subst hx; rfl) ?_
  intro w5 hp
  have HG5 := Lib.hid hp.only
  have HL5 : Hid (Bk w5 z 26 (lkC ⟨kk, h, ks, s, cc, u - win⟩ (.slice P N c))) := by show Bk _ _ _ _; have := hp.bk; simpa [lkC] using this
  have HB5 := Lib.hid (below_only HB4.out hp.only HB4.out.size (Nat.le_of_eq HZ.out))
  have HR5 := Lib.hid (HR4.out.grown hp.only (by intro e; injection e with e; omega))
  clear hp
  have HO5 := Lib.hid (own_only HO4.out HG5.out (own_bk_ne HO4.out HL4.out (by decide)))
  clear c12
  go_wp2_with (first
    | (with_reducible refine wpList_load_bk rfl 26 _ rfl z rfl (lkC ⟨kk, h, ks, s, cc, u - win⟩ (.slice P N c)) 26 HL5.out _ Try.underlying26 rfl (lk_sz HHO.out _) ?_)
    | (with_reducible refine stop_store 26 _ _ rfl ?_))
  refine StopD.go ?_
  refine wpList_store_part rfl 26 _ _ rfl (z + 1) 0 (.agg (lkC ⟨kk, h, ks, s, cc, u - win⟩ (.slice P N c)).toArray) (lkC ⟨kk, h, ks, s, cc, u - win⟩ (.slice P N c)) rfl rfl rfl 26 [] zLk' [] (by simpa using HR5.out) rfl (by rw [lkC_len HHO.out]; rfl) (lk_sz HHO.out _) (lk_one _ _ _ _) ?_
  intro wz hp
  have HRz : Hid (Bk wz (z + 1) 26 (lkC ⟨kk, h, ks, s, cc, u - win⟩ (.slice P N c))) := by show Bk _ _ _ _; have := hp.bk; simpa using this
  have HBz := Lib.hid (below_only HB5.out hp.only HB5.out.size (by rw [HZ.out]; exact Nat.le_succ z))
  have HOz := Lib.hid (own_only HO5.out hp.only (own_bk_ne HO5.out HR5.out (by decide)))
  clear hp
  go_wp2_with fail
  refine bodyPost_ret (next_ret HRz.out (lk_sz HHO.out _) _ rfl rfl) rfl ?_
  exact ⟨P, c, rfl, HOz.out, HBz.out⟩
def fitsI (d win : Int) : Int := if d < win then 20 else 0
set_option maxRecDepth 20000 in
set_option maxHeartbeats 4000000 in
theorem fits_ok (w : World) (k s c : Nat) (u u' : Int) (h : List Int) (ks : List (List Int)) (A B : Option Addr) (N C D : Nat) (win : Int) (hk : LkK w ⟨k, h, ks, s, c, u⟩ A N) (hk' : LkK w ⟨k, h, ks, s, c, u'⟩ B N) (hc : checkL k s c u N = 0) (hc' : checkL k s c u' N = 0) :
    Calls Try.prog 19 #[.agg (lkC ⟨k, h, ks, s, c, u⟩ (.slice A N C)).toArray, .agg (lkC ⟨k, h, ks, s, c, u'⟩ (.slice B N D)).toArray, .int .i64 win] w fun e w' => e = .returned (.int .i64 (fitsI (u - u') win)) ∧ Below w.heap.size w w' := by
  have HCK := Lib.hid (fun w' => lcheck_any w' ⟨k, h, ks, s, c, u⟩ hk.h A N C); have HCP := Lib.hid (fun w' => lcheck_any w' ⟨k, h, ks, s, c, u'⟩ hk'.h B N D)
  have hc0 : checkL (⟨k, h, ks, s, c, u⟩ : LkT).k (⟨k, h, ks, s, c, u⟩ : LkT).s (⟨k, h, ks, s, c, u⟩ : LkT).c (⟨k, h, ks, s, c, u⟩ : LkT).u N = 0 := hc
  have hc1 : checkL (⟨k, h, ks, s, c, u'⟩ : LkT).k (⟨k, h, ks, s, c, u'⟩ : LkT).s (⟨k, h, ks, s, c, u'⟩ : LkT).c (⟨k, h, ks, s, c, u'⟩ : LkT).u N = 0 := hc'
  rw [hc0] at HCK
  rw [hc1] at HCP
  obtain ⟨e1, e2, e3, e4, e5⟩ := checkL_zero hc
  obtain ⟨_, _, e3', e4', _⟩ := checkL_zero hc'
  have HUU : Hid (0 ≤ u ∧ u ≤ 1099511627776 ∧ 0 ≤ u' ∧ u' ≤ 1099511627776) := ⟨e3, e4, e3', e4'⟩
  have HBD : Hid (k < 4611686018427387904 ∧ s < 4611686018427387904 ∧ c < 4611686018427387904) := by
    show _ ∧ _ ∧ _
    have := hk.n
    rcases e5 with e | e <;> omega
  have hh : DgOk (⟨k, h, ks, s, c, u⟩ : LkT).h := hk.h; have hh2 : DgOk (⟨k, h, ks, s, c, u'⟩ : LkT).h := hk'.h
  have HK1 := Lib.hid hk; have HK2 := Lib.hid hk'
  have HNI : Hid (DgOk (nmI k h ks s c)) := ofI_ok _
  have hkr := dg_eq_run _ _ HNI.out HNI.out
  rw [show eqL (nmI k h ks s c) (nmI k h ks s c) = true by simp [eqL]] at hkr
  have HNA : Hid (∀ w', Below w.heap.size w w' → Calls Try.prog 18 #[.agg (lkC ⟨k, h, ks, s, c, u⟩ (.slice A N C)).toArray] w' fun e w'' => e = .returned (.agg (dl (nmI k h ks s c)).toArray) ∧ Below w'.heap.size w' w'') := fun w' hb => lname_any w' k s c u h ks A N C (HK1.out.later hb) HBD.out.1 HBD.out.2.1 HBD.out.2.2
  have HNB : Hid (∀ w', Below w.heap.size w w' → Calls Try.prog 18 #[.agg (lkC ⟨k, h, ks, s, c, u'⟩ (.slice B N D)).toArray] w' fun e w'' => e = .returned (.agg (dl (nmI k h ks s c)).toArray) ∧ Below w'.heap.size w' w'') := fun w' hb => lname_any w' k s c u' h ks B N D (HK2.out.later hb) HBD.out.1 HBD.out.2.1 HBD.out.2.2
  obtain ⟨nm, hnm⟩ : ∃ x, nmI k h ks s c = x := ⟨_, rfl⟩
  rw [hnm] at HNI hkr HNA HNB
  clear hk hk' hc hc' hc0 hc1 e1 e2 e3 e4 e5 e3' e4' hnm
  obtain ⟨l, hl⟩ : ∃ x, lkC ⟨k, h, ks, s, c, u⟩ (.slice A N C) = x := ⟨_, rfl⟩
  obtain ⟨X, hX⟩ : ∃ X, l.toArray = X := ⟨_, rfl⟩
  obtain ⟨l2, hl2⟩ : ∃ x, lkC ⟨k, h, ks, s, c, u'⟩ (.slice B N D) = x := ⟨_, rfl⟩
  obtain ⟨Y, hY⟩ : ∃ X, l2.toArray = X := ⟨_, rfl⟩
  obtain ⟨z, hz⟩ : ∃ z, w.heap.size = z := ⟨_, rfl⟩
  obtain ⟨w1, hw1⟩ : ∃ w1, (w.alloc (.cells X 26)).alloc (.cells Y 26) = w1 := ⟨_, rfl⟩
  have hb1 : Below w.heap.size w w1 := hw1 ▸ (below_new w _).alloc (by simp) _
  have kx : Bk w1 z 26 (lkC ⟨k, h, ks, s, c, u⟩ (.slice A N C)) := hw1 ▸ (Bk.at_ w _ X hz (by rw [← hX, ← hl])).alloc _
  have ky : Bk w1 (z + 1) 26 (lkC ⟨k, h, ks, s, c, u'⟩ (.slice B N D)) := hw1 ▸ Bk.at_ _ _ Y (by simp [hz]) (by rw [← hY, ← hl2])
  have HW := Lib.hid hw1; have HB1 := Lib.hid hb1; have HX1 := Lib.hid kx; have HY1 := Lib.hid ky; have HHO := Lib.hid hh; have HHO2 := Lib.hid hh2; have HZ := Lib.hid hz
  rw [hl, hX, hl2, hY]
  clear hl hX hl2 hY hw1 hb1 kx ky hh hh2 hz
  go_enter Try.func19, Try.ntmps19
  go_upto_region 1 with fail
  rw [HW.out, HZ.out]
  go_wp2_with (with_reducible refine wpList_load_bk rfl 26 _ rfl z rfl (lkC ⟨k, h, ks, s, c, u⟩ (.slice A N C)) 26 HX1.out _ Try.underlying26 rfl (lk_sz HHO.out _) ?_)
  refine (HCK.out w1).mono ?_
  rintro e w2 ⟨rfl, hbn⟩
  have HB2 := Lib.hid (below_then HB1.out hbn); have HX2 := Lib.hid (HX1.out.later hbn); have HY2 := Lib.hid (HY1.out.later hbn)
  clear hbn HB1 HX1 HY1
  go_wp2_with (with_reducible refine wpList_load_bk rfl 26 _ rfl (z + 1) rfl (lkC ⟨k, h, ks, s, c, u'⟩ (.slice B N D)) 26 HY2.out _ Try.underlying26 rfl (lk_sz HHO2.out _) ?_)
  refine (HCP.out w2).mono ?_
  rintro e w3 ⟨rfl, hbn⟩
  have HB3 := Lib.hid (below_then HB2.out hbn); have HX3 := Lib.hid (HX2.out.later hbn); have HY3 := Lib.hid (HY2.out.later hbn)
  clear hbn HB2 HX2 HY2
  go_upto_region 7 with fail
  refine wp_region_held_drew (S := fun w' => Bk w' z 26 (lkC ⟨k, h, ks, s, c, u⟩ (.slice A N C)) ∧ Bk w' (z + 1) 26 (lkC ⟨k, h, ks, s, c, u'⟩ (.slice B N D))) (by kernel_rfl) ⟨Bk.drew HX3.out, Bk.drew HY3.out⟩ (fun hHeld => ?_)
  have hbd : Below w3.heap.size w3 w3.drew := below_draws w3 w3.heap.size 1
  obtain ⟨wa, hwa⟩ : ∃ wa, w3.drew = wa := ⟨_, rfl⟩
  rw [hwa] at hbd hHeld ⊢
  have HXa := Lib.hid (HX3.out.later hbd); have HYa := Lib.hid (HY3.out.later hbd); have HBa := Lib.hid (below_then HB3.out hbd)
  clear hwa hbd HX3 HY3 HB3
  refine wpAnyH_take (i := 0) (v := .agg (List.toArray (lkC ⟨k, h, ks, s, c, u⟩ (.slice A N C)))) rfl (by kernel_rfl) (by kernel_rfl) (by kernel_rfl) (fun _ _ _ h => h) (yieldsIf_load_mid (by rfl) _ _ rfl _ _ rfl (lkC ⟨k, h, ks, s, c, u⟩ (.slice A N C)) _ (fun w hSw => (Bk.range (pre := []) (post := []) (by simpa using hSw.1) rfl)) Try.underlying26 rfl (lk_sz HHO.out _)) (by assumption) ?_
  try simp only [Act.put, List.setIfInBounds_toArray, List.set_cons_zero, List.set_cons_succ, List.getElem_toArray, List.getElem_cons_zero, List.getElem_cons_succ]
  refine wpAnyH_take (i := 2) (v := .agg (List.toArray (lkC ⟨k, h, ks, s, c, u'⟩ (.slice B N D)))) rfl (by kernel_rfl) (by kernel_rfl) (by kernel_rfl) (fun _ _ _ h => h) (yieldsIf_load_mid (by rfl) _ _ rfl _ _ rfl (lkC ⟨k, h, ks, s, c, u'⟩ (.slice B N D)) _ (fun w hSw => (Bk.range (pre := []) (post := []) (by simpa using hSw.2) rfl)) Try.underlying26 rfl (lk_sz HHO2.out _)) (by assumption) ?_
  try simp only [Act.put, List.setIfInBounds_toArray, List.set_cons_zero, List.set_cons_succ, List.getElem_toArray, List.getElem_cons_zero, List.getElem_cons_succ]
  refine wpAnyH_ready (rs := [1]) (by kernel_rfl) (by simp) ?_
  refine AllReadyH.cons rfl (fun K hK => ?_) AllReadyH.nil
  go_simp
  (go_at_call 18; refine (HNA.out wa HBa.out).mono ?_; rintro e wb ⟨rfl, hbn⟩; have HXb := Lib.hid (HXa.out.later hbn); have HYb := Lib.hid (HYa.out.later hbn); have HBb := Lib.hid (below_then HBa.out hbn); clear hbn HXa HYa HBa)
  refine hK.out _ _ (⟨HXb.out, HYb.out⟩) (fun hHeld => ?_)
  clear hK K
  try simp only [Act.put, List.setIfInBounds_toArray, List.set_cons_zero, List.set_cons_succ, List.getElem_toArray, List.getElem_cons_zero, List.getElem_cons_succ]
  refine wpAnyH_ready (rs := [3]) (by kernel_rfl) (by simp) ?_
  refine AllReadyH.cons rfl (fun K hK => ?_) AllReadyH.nil
  go_simp
  (go_at_call 18; refine (HNB.out wb HBb.out).mono ?_; rintro e wc ⟨rfl, hbn⟩; have HXc := Lib.hid (HXb.out.later hbn); have HYc := Lib.hid (HYb.out.later hbn); have HBc := Lib.hid (below_then HBb.out hbn); clear hbn HXb HYb HBb)
  refine hK.out _ _ (⟨HXc.out, HYc.out⟩) (fun hHeld => ?_)
  clear hK K
  try simp only [Act.put, List.setIfInBounds_toArray, List.set_cons_zero, List.set_cons_succ, List.getElem_toArray, List.getElem_cons_zero, List.getElem_cons_succ]
  refine wpAnyH_take (i := 4) (v := ?_) rfl (by kernel_rfl) (by kernel_rfl) (by kernel_rfl) (fun _ _ _ h => h) (Or.inl ⟨by rfl, ?_⟩) (by assumption) ?_
  rotate_left
  · intro w hSw
    (try dsimp only at hSw)
    go_simp
    try with_reducible rfl
  try simp only [Act.put, List.setIfInBounds_toArray, List.set_cons_zero, List.set_cons_succ, List.getElem_toArray, List.getElem_cons_zero, List.getElem_cons_succ]
  refine wpAnyH_done (by kernel_rfl) ?_ _
  clear hHeld hkr
  have c12 := (lk_mem HHO.out HXc.out).c12; have d12 := (lk_mem HHO2.out HYc.out).c12
  have huu := HUU.out
  have hwr : IntKind.i64.wrap (u - u') = u - u' := by clear c12 d12; rw [IntWalk.i64_in]; omega
  have hw6 : wrap64 (u - u') = u - u' := IntWalk.wrap64_in _ (by clear c12 d12; omega)
  by_cases hlt : u - u' < win
  · have g3 : decide (u - u' < win) = true := by simpa using hlt
    have HIF : Hid (fitsI (u - u') win = 20) := if_pos hlt
    clear hlt
    go_wp2_with fail
    go_ret
    exact ⟨by rw [HIF.out]; rfl, HBc.out⟩
  · have g3 : decide (u - u' < win) = false := by simpa using hlt
    have HIF : Hid (fitsI (u - u') win = 0) := if_neg hlt
    clear hlt
    go_wp2_with fail
    go_ret
    exact ⟨by rw [HIF.out]; rfl, HBc.out⟩
end Go.Proofs.Ytbclfjdamklbpaa
