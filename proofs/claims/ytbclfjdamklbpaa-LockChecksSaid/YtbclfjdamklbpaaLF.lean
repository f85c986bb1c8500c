/- A lock by an outcome: the walk of LockOutcomes. -/
import Derived.Test.YtbclfjdamklbpaaLE
namespace Go.Proofs.Ytbclfjdamklbpaa
set_option linter.unusedSimpArgs false
set_option linter.unusedVariables false
open Go.RowKit Go.Maps

theorem BookAt.low {w : World} {lo lo' g : Nat} {es : List Ent} (h : BookAt w lo g es) (hl : lo' ≤ lo) : BookAt w lo' g es := by
  obtain ⟨V, b, h1, h2, h3, h4, h5, h6⟩ := h
  exact ⟨V, b, h1, own_base h2 hl, h3, Nat.le_trans hl h4, Nat.le_trans hl h5, h6⟩
/-- A lock that may be, and what is paid. -/
structure LO (w wk : World) (g : Nat) (es : List Ent) (z : Nat) (L : LkT) (A : Option Addr) (n C : Nat) (h0 h1 : Int) (v8 : Value) (own : List Int) : Prop where
  lk : Bk wk z 26 (lkC L (.slice A n C))
  ar : Bk wk (z + 1) 28 [.int .i64 h0, .int .i64 h1]
  k : wk.ownsRow w.heap.size 23 8 (.slice A n C) n (cellsD L.ks)
  o : wk.ownsRow w.heap.size 3 1 v8 own.length (own.map (.int .i64))
  bk : BookAt wk w.heap.size g es
  hb : Below w.heap.size w wk
section
variable {w wk wn : World} {g z n C : Nat} {es es' : List Ent} {L : LkT} {A : Option Addr} {h0 h1 : Int} {v8 v' : Value} {own : List Int}
theorem LO.later (h : LO w wk g es z L A n C h0 h1 v8 own) (hb : Below wk.heap.size wk wn) : LO w wn g es z L A n C h0 h1 v8 own :=
  ⟨h.lk.later hb, h.ar.later hb, own_keep h.k hb, own_keep h.o hb, h.bk.later hb, below_then h.hb hb⟩
theorem LO.sign (h : LO w wk g es z L A n C h0 h1 v8 own) (hk : Keeps wk wn) (hb : Below w.heap.size wk wn) (hbk : BookAt wn w.heap.size g es') : LO w wn g es' z L A n C h0 h1 v8 own :=
  ⟨h.lk.keeps hk (by decide) (by decide), h.ar.keeps hk (by decide) (by decide), own_keeps h.k hk (by decide) (by decide), own_keeps h.o hk (by decide) (by decide), hbk, h.hb.trans hb⟩
theorem LO.app (h : LO w wk g es z L A n C h0 h1 v8 own) {x : Int} (ho : wn.ownsRow w.heap.size 3 1 v' (own.length + 1) (own.map (.int .i64) ++ [.int .i64 x])) (hg : wk.grownBy wn v8.ownBlock) : LO w wn g es z L A n C h0 h1 v' (own ++ [x]) :=
  ⟨h.lk.grown hg (Ne.symm (own_bk_ne h.o h.lk (by decide))), h.ar.grown hg (Ne.symm (own_bk_ne h.o h.ar (by decide))), own_apart h.k h.o (by decide) hg, by simpa using ho, h.bk.own h.o hg (by decide) (by decide), grown_below h.hb h.o hg (Nat.le_refl _) h.hb.size⟩
theorem LO.row {B : Option Addr} {m D : Nat} (h : LO w wk g es z L A n C h0 h1 (.slice B m D) own) : Rw wk L.ks A n C own B m D ∧ own.length = m := by
  obtain ⟨A', c', e⟩ := own_form h.o
  injection e with e1 e2 e3
  subst e2
  exact ⟨⟨own_base h.k (Nat.zero_le _), own_base h.o (Nat.zero_le _)⟩, rfl⟩
end
theorem own_cap {w : World} {base size n c : Nat} {A : Option Addr} {e : TypeId} {xs : List Value} (h : w.ownsRow base e size (.slice A n c) n xs) : n ≤ c := by
  rcases own_bk h with ⟨e1, e2, _⟩ | ⟨q, cap, ys, e1, _, _, hc, _⟩
  · injection e1 with _ _ e1; omega
  · injection e1 with _ _ e1; omega
theorem fixL_one {L : LkT} {N : Nat} (h : (fixL L N).k ≠ 0) : (fixL L N).k = 1 ∧ 2 ≤ fixN L N ∧ 0 ≤ (fixL L N).s ∧ (fixL L N).s < fixN L N ∧ 1 ≤ (fixL L N).c := by
  have h1 := (fixL_facts L N).2.2.2.2.1
  obtain ⟨e1, e2, e3, e4, e5⟩ := checkL_zero h1
  rcases e5 with ⟨e, _⟩ | ⟨e, f1, f2, f3, f4⟩
  · exact absurd e h
  · exact ⟨e, f1, f3, f4, e1⟩
theorem run_tailI (b o n c : Nat) (hn : 2 ≤ n) (hc : n ≤ c) (w : World) : (Instr.slice 27 (.slice (some ⟨b, o, none⟩) n c) (some (.int .i64 1)) none none).run Try.prog w = .ok (.slice (some ⟨b, o + 1, none⟩) (n - 1) (c - 1)) w := by
  obtain ⟨i0, hi, hi0, hi1, hi2⟩ := info_parts Try.infoInt
  have he : Try.prog.elem 27 = 3 := by kernel_rfl
  rw [run_slice_l w 27 _ n c (by rw [he]; exact Try.underlying27) .i64 1 (by omega) (by omega)]
  simp [he, sizeOf, typeInfo, hi, hi1, sliced, Addr.add, show ¬ (c = 1) by omega]
theorem Sl.tailN {w : World} {B n : Nat} {b o : Nat} {xs : List Int} (h : Sl w B 1 (some ⟨b, o, none⟩) n (xs.map (.int .i64))) (h1 : 1 ≤ n) : Sl w B 1 (some ⟨b, o + 1, none⟩) (n - 1) (xs.tail.map (.int .i64)) := by
  obtain ⟨b', o', e, hb, hc⟩ := h.spot (by omega) (by omega)
  injection e with e; injection e with e e'
  have hl := h.length
  refine ⟨by simp; omega, by have := h.le; omega, fun _ => ⟨_, rfl, by rw [e]; exact hb, fun j u hu => ?_⟩⟩
  rw [add_plain, show o + 1 + j = o + (j + 1) by omega, e, e']
  refine hc (j + 1) u ?_
  rw [List.getElem?_map] at hu ⊢
  rw [List.getElem?_tail] at hu
  exact hu
set_option maxRecDepth 20000 in
set_option maxHeartbeats 8000000 in
theorem louts_any (w : World) (L : LkT) (hh : DgOk L.h) (A : Option Addr) (N C : Nat) (hC : N ≤ C) (hN : N ≤ 9223372036854775807) (B : Option Addr) (M D : Nat) (zs : List Int) (hz : Sl w w.heap.size 1 B M (zs.map (.int .i64))) (h0 h1 : Int) :
    Calls Try.prog 3 #[.agg (lkC L (.slice A N C)).toArray, .slice B M D, .agg #[.int .i64 h0, .int .i64 h1]] w fun e w' => e = .returned (.bool true) ∧ Below w.heap.size w w' := by
  have HS0 := Lib.hid hz; have HML := Lib.hid hz.le
  have HFX := Lib.hid (fun w' => fix_any w' L hh A N C hC hN)
  have HFF := Lib.hid (fixL_facts L N)
  have HF1 : Hid ((fixL L N).k ≠ 0 → (fixL L N).k = 1 ∧ 2 ≤ fixN L N ∧ 0 ≤ (fixL L N).s ∧ (fixL L N).s < fixN L N ∧ 1 ≤ (fixL L N).c) := fixL_one
  have HLS0 := Lib.hid (lk_sz hh (.slice A N C))
  have HLN0 := Lib.hid (lkC_len hh (.slice A N C))
  have HFH : Hid (DgOk (fixL L N).h) := by show DgOk _; rw [(fixL_facts L N).1]; exact hh
  obtain ⟨l, hl⟩ : ∃ x, lkC L (.slice A N C) = x := ⟨_, rfl⟩
  obtain ⟨X, hX⟩ : ∃ X, l.toArray = X := ⟨_, rfl⟩
  obtain ⟨z, hzz⟩ : ∃ z, w.heap.size = z := ⟨_, rfl⟩
  obtain ⟨w1, hw1⟩ : ∃ w1, (w.alloc (.cells X 26)).alloc (.cells #[.int .i64 h0, .int .i64 h1] 28) = w1 := ⟨_, rfl⟩
  have hb1 : Below w.heap.size w w1 := hw1 ▸ (below_new w _).alloc (by simp) _
  have kx : Bk w1 z 26 l := hw1 ▸ (Bk.at_ w _ X hzz (by rw [← hX])).alloc _
  have ka : Bk w1 (z + 1) 28 [.int .i64 h0, .int .i64 h1] := hw1 ▸ Bk.at_ _ _ _ (by simp [hzz]) rfl
  have HW := Lib.hid hw1; have HB1 := Lib.hid hb1; have HL1 := Lib.hid kx; have HR1 := Lib.hid ka; have HZ := Lib.hid hzz
  rw [hl] at HFX HLS0 HLN0 ⊢
  rw [hX] at HFX ⊢
  obtain ⟨LF, hLF⟩ : ∃ x, fixL L N = x := ⟨_, rfl⟩
  obtain ⟨n, hn⟩ : ∃ x, fixN L N = x := ⟨_, rfl⟩
  unfold RetFx at HFX
  rw [hLF, hn] at HFX HFF HF1
  rw [hLF] at HFH
  have HXE := Lib.hid hX
  clear hl hX hw1 hb1 kx ka hh hz hzz hLF hn
  go_enter Try.func3, Try.ntmps3
  go_upto_region 1 with fail
  rw [HW.out, HZ.out]
  go_wp2_with fail
  refine (newBook_any w1).mono ?_
  rintro e w2 ⟨⟨g, rfl, hbk⟩, hbn⟩
  have HBK2 := Lib.hid (hbk.low HB1.out.size); have HB2 := Lib.hid (below_then HB1.out hbn); have HL2 := Lib.hid (HL1.out.later hbn); have HR2 := Lib.hid (HR1.out.later hbn)
  clear hbk hbn HB1 HL1 HR1 HW
  go_wp2_with (with_reducible refine wpList_load_bk rfl 26 _ rfl z rfl l 26 HL2.out _ Try.underlying26 rfl HLS0.out ?_)
  rw [HXE.out]
  refine (HFX.out w2).mono ?_
  rintro e w3 ⟨A', C', rfl, hown, hbn⟩
  have HBK3 := Lib.hid (HBK2.out.later hbn); have HB3 := Lib.hid (below_then HB2.out hbn); have HL3 := Lib.hid (HL2.out.later hbn); have HR3 := Lib.hid (HR2.out.later hbn); have HK3 := Lib.hid (own_base hown HB2.out.size)
  clear hown hbn HBK2 HB2 HL2 HR2 HFX
  go_wp2_with (with_reducible refine stop_store 26 _ _ rfl ?_)
  refine StopD.go ?_
  refine wpList_store_part rfl 26 _ _ rfl z 0 (.agg (lkC LF (.slice A' n C')).toArray) (lkC LF (.slice A' n C')) rfl rfl rfl 26 [] l [] (by simpa using HL3.out) rfl (by rw [lkC_len HFH.out, HLN0.out]) (lk_sz HFH.out _) (lk_one _ _ _ _) ?_
  intro w4 hp
  have HP3 : Hid (LO w w4 g [] z LF A' n C' h0 h1 (.slice none 0 0) []) := ⟨by have := hp.bk; simpa using this, HR3.out.grown hp.only (by intro e; injection e with e; omega), own_only HK3.out hp.only (own_bk_ne HK3.out HL3.out (by decide)), World.ownsRow_nil _ _ _ _, HBK3.out.put hp (by have := HL3.out; simpa using this) (by decide) (by decide), below_only HB3.out hp.only HB3.out.size (Nat.le_of_eq HZ.out)⟩
  clear hp HBK3 HB3 HL3 HR3 HK3
  have c0 := (lk_mem HFH.out HP3.out.lk).c0
  by_cases hk : LF.k = 0
  · rw [hk] at c0
    go_wp2_with fail
    refine (ltold_any w4).mono ?_
    rintro e w9 ⟨rfl, hbn⟩
    have HB9 := Lib.hid (below_then HP3.out.hb hbn)
    clear hbn
    go_wp2_with fail
    go_ret
    exact ⟨rfl, HB9.out⟩
  obtain ⟨f1, f2, f3, f4, f5⟩ := HF1.out hk
  rw [f1] at c0
  have HNB : Hid (LF.k = 1 ∧ 2 ≤ n ∧ n ≤ 8 ∧ 0 ≤ LF.s ∧ LF.s < n ∧ 1 ≤ LF.c ∧ LF.c ≤ 1000 ∧ 0 ≤ LF.u ∧ LF.u < 2000) := by
    have h1 := HFF.out
    obtain ⟨_, _, e3, _, _⟩ := checkL_zero h1.2.2.2.2.1
    exact ⟨f1, f2, h1.2.2.1, f3, f4, f5, h1.2.2.2.2.2.1, e3, h1.2.2.2.2.2.2⟩
  have HKO : Hid (DsOk LF.ks) := HFF.out.2.1
  have HKL : Hid (LF.ks.length = n) := HFF.out.2.2.2.1
  have HCZ : Hid (checkL LF.k LF.s LF.c LF.u n = 0) := HFF.out.2.2.2.2.1
  have hn8 : n ≤ 8 := HNB.out.2.2.1
  clear f1 f2 f3 f4 f5 hk HF1 HFF
  go_upto_region 8 with fail
  clear c0
  go_cut [9] (fun i wx => i = .int .i64 0 ∧ wx = w4)
  case first =>
    go_wp2_with fail
    go_meet
    exact ⟨rfl, rfl⟩
  obtain ⟨rfl, hwx⟩ := hcut
  subst hwx
  refine ‹∀ (a : Act) (w : World), Code.wp _ _ _ a w → _› _ _ ?_
  go_cut [8, 9, 10] (fun a8 _ _ wx => ∃ (A8 : Option Addr) (C8 : Nat) (own : List Int), a8 = .slice A8 n C8 ∧ Hid (own.length = n ∧ (∀ z ∈ own, 0 ≤ z ∧ z ≤ 2500)) ∧ Hid (LO w wx g [] z LF A' n C' h0 h1 a8 own))
  case first =>
    as_aux_lemma =>
    go_wp2_with fail
    go_loopw [8, 9, 10] (fun a8 iv _ wr => ∃ (k : Nat) (v8 : Value) (own : List Int), k ≤ n ∧ iv = .int .i64 k ∧ v8 = a8 ∧ Hid (own.length = k ∧ (∀ z ∈ own, 0 ≤ z ∧ z ≤ 2500)) ∧ Hid (LO w wr g [] z LF A' n C' h0 h1 v8 own)) (fun _ iv _ _ => n - (intOf iv).toNat)
    case atStart => exact ⟨0, _, [], Nat.zero_le _, rfl, rfl, ⟨rfl, fun z hz => by simp at hz⟩, HP3⟩
    case round =>
      clear HP3
      obtain ⟨k, v8, own, hk, rfl, h8, HOL, HP4⟩ := hrel
      subst h8
      have c9 := (lk_mem HFH.out HP4.out.lk).c9
      by_cases hlt : k < n
      · have hki : (k : Int) < n := by omega
        have hk0 : (0 : Int) ≤ k := by omega
        by_cases hlM : k < M
        · have hkM : (k : Int) < M := by omega
          obtain ⟨b, o, x, rfl, hx, _, hcell⟩ := int_at (HS0.out.later HP4.out.hb) hlM
          clear hx
          have hmr := modI_run x 2500 (by decide) (by decide)
          have hyr := modI_lt x (n := 2500) (by decide)
          obtain ⟨y, hy⟩ : ∃ y, modI x 2500 = y := ⟨_, rfl⟩
          rw [hy] at hmr hyr
          clear hy
          have HYR : Hid (0 ≤ y ∧ y ≤ 2500) := (⟨hyr.1, by omega⟩)
          go_wp2_with (with_reducible refine stop_bs 27 _ _ rfl ?_)
          refine StopD.go ?_
          refine wpList_bsliceG rfl 27 1 _ rfl #[(0, .int .i64 y)] ?_ 3 [.int .i64 y] (fun w => bs_i1 y w) ?_
          · simp [Act.eval, Act.put]
          intro q8 w8 hq8 hb8 hbn
          have HP8 := Lib.hid (HP4.out.later hbn); have HB8 := Lib.hid hb8
          clear hq8 hb8 hbn HP4
          go_wp2_with (at_builtin; refine stop_here ?_)
          refine StopD.go ?_
          obtain ⟨i0, hi, hi0, hi1, hi2⟩ := info_parts Try.infoInt
          have hn1 := HOL.out.1
          refine wpList_app _ rfl (.tmp 44) (.tmp 46) 27 rfl w.heap.size 3 i0 (.int .i64 0) 1 8 Try.underlying27 hi hi0 hi1 hi2 rfl (by decide) _ _ _ rfl HP8.out.o _ _ _ _ _ rfl (Sl.of_own (HB8.out.own (base := 0) (size := 1) (cap := 1) (n := 1) (Nat.zero_le _) (Nat.le_refl _) (by omega) rfl rfl)) (by intro u hu; simp at hu; subst hu; rfl) (by unfold maxLen; omega) (by omega) HP8.out.hb.size ?_
          intro v9 w9 hown hg hat
          have HP10 := Lib.hid (HP8.out.app hown hg)
          clear hown hg hat hi hi0 hi1 hi2 hn1 HP8 HB8
          go_wp2_with fail
          go_roundw
          case rel =>
            refine ⟨k + 1, _, own ++ [y], hlt, by go_num, rfl, ⟨by simp [HOL.out.1], fun z hz => ?_⟩, HP10⟩
            rcases List.mem_append.1 hz with hz | hz
            · exact HOL.out.2 z hz
            · simp at hz; have := HYR.out; omega
          case measure => simp [intOf]; omega
        · have hkM : ¬ ((k : Int) < M) := by omega
          have HYR : Hid (0 ≤ 0 ∧ 0 ≤ 2500) := (⟨by omega, by omega⟩)
          go_wp2_with (with_reducible refine stop_bs 27 _ _ rfl ?_)
          refine StopD.go ?_
          refine wpList_bsliceG rfl 27 1 _ rfl #[(0, .int .i64 0)] ?_ 3 [.int .i64 0] (fun w => bs_i1 0 w) ?_
          · simp [Act.eval, Act.put]
          intro q8 w8 hq8 hb8 hbn
          have HP8 := Lib.hid (HP4.out.later hbn); have HB8 := Lib.hid hb8
          clear hq8 hb8 hbn HP4
          go_wp2_with (at_builtin; refine stop_here ?_)
          refine StopD.go ?_
          obtain ⟨i0, hi, hi0, hi1, hi2⟩ := info_parts Try.infoInt
          have hn1 := HOL.out.1
          refine wpList_app _ rfl (.tmp 44) (.tmp 46) 27 rfl w.heap.size 3 i0 (.int .i64 0) 1 8 Try.underlying27 hi hi0 hi1 hi2 rfl (by decide) _ _ _ rfl HP8.out.o _ _ _ _ _ rfl (Sl.of_own (HB8.out.own (base := 0) (size := 1) (cap := 1) (n := 1) (Nat.zero_le _) (Nat.le_refl _) (by omega) rfl rfl)) (by intro u hu; simp at hu; subst hu; rfl) (by unfold maxLen; omega) (by omega) HP8.out.hb.size ?_
          intro v9 w9 hown hg hat
          have HP10 := Lib.hid (HP8.out.app hown hg)
          clear hown hg hat hi hi0 hi1 hi2 hn1 HP8 HB8
          go_wp2_with fail
          go_roundw
          case rel =>
            refine ⟨k + 1, _, own ++ [0], hlt, by go_num, rfl, ⟨by simp [HOL.out.1], fun z hz => ?_⟩, HP10⟩
            rcases List.mem_append.1 hz with hz | hz
            · exact HOL.out.2 z hz
            · simp at hz; have := HYR.out; omega
          case measure => simp [intOf]; omega
      · have hki : ¬ ((k : Int) < n) := by omega
        obtain rfl : n = k := by omega
        obtain ⟨A8, C8, h8⟩ := own_form HP4.out.o
        rw [HOL.out.1] at h8
        subst h8
        go_wp2_with fail
        go_meet
        exact ⟨A8, C8, own, rfl, HOL, HP4⟩
  obtain ⟨A8, C8, own, rfl, HOL, HP5⟩ := hcut
  obtain ⟨w5, hw5⟩ : ∃ w4, w4 = wc := ⟨_, rfl⟩
  subst hw5
  clear HP3
  refine ‹∀ (a : Act) (w : World), Code.wp _ _ _ a w → _› _ _ ?_
  have HPM : Hid (∀ z ∈ own, 0 ≤ z ∧ z ≤ 1125899906842624) := fun z hz => by have := HOL.out.2 z hz; omega
  have HPI : Hid (I64Ok own) := fun z hz => by have := HOL.out.2 z hz; omega
  have c9 := (lk_mem HFH.out HP5.out.lk).c9
  have a0 : w5.cell? ⟨z + 1, 0, none⟩ = some (.int .i64 h0) := by rw [HP5.out.ar.cell]; rfl
  have a1 : w5.cell? ⟨z + 1, 1, none⟩ = some (.int .i64 h1) := by rw [HP5.out.ar.cell]; rfl
  have hwu : IntKind.u64.wrap ((n : Int) + 1) = n + 1 := by clear a0 a1 c9; rw [IntKind.wrap_u64]; omega
  have hw64 : wrap64 ((n : Int) + 1) = n + 1 := IntWalk.wrap64_in _ (by omega)
  have hne : (((n : Int) + 1) == 0) = false := by simp; omega
  have hne2 : ¬ ((n : Int) + 1 = 0) := by omega
  have hm0 := modI_run h0 (n + 1) (by omega) (by omega); have hm1 := modI_run h1 3000 (by decide) (by decide)
  have hr0 := modI_lt h0 (n := (n : Int) + 1) (by omega); have hr1 := modI_lt h1 (n := 3000) (by decide)
  have HMY : Hid (0 ≤ modI h0 (n + 1) ∧ modI h0 (n + 1) ≤ n ∧ 0 ≤ modI h1 3000 ∧ modI h1 3000 < 3000) := ⟨hr0.1, Int.lt_add_one_iff.1 hr0.2, hr1.1, hr1.2⟩
  obtain ⟨my, hmy⟩ : ∃ y, modI h0 (n + 1) = y := ⟨_, rfl⟩
  obtain ⟨nw, hnw⟩ : ∃ y, modI h1 3000 = y := ⟨_, rfl⟩
  rw [hmy] at hm0 HMY
  rw [hnw] at hm1 HMY
  clear hmy hnw hr0 hr1
  go_upto_region 17 with fail
  clear c9 a0 a1 hm0 hm1 hwu hw64 hne hne2
  have HSL := Lib.hid (lk_sz HFH.out (.slice A' n C'))
  refine wp_region_held_drew (S := fun w' => Bk w' z 26 (lkC LF (.slice A' n C'))) (by kernel_rfl) (Bk.drew HP5.out.lk) (fun hHeld => ?_)
  have hbd : Below w5.heap.size w5 w5.drew := below_draws w5 w5.heap.size 1
  obtain ⟨wa, hwa⟩ : ∃ wa, w5.drew = wa := ⟨_, rfl⟩
  rw [hwa] at hbd hHeld ⊢
  have HPa := Lib.hid (HP5.out.later hbd)
  clear hwa hbd HP5
  refine wpAnyH_take (i := 0) (v := .agg (List.toArray (lkC LF (.slice A' n C')))) rfl (by kernel_rfl) (by kernel_rfl) (by kernel_rfl) (fun _ _ _ h => h) (yieldsIf_load_mid (by rfl) _ _ rfl _ _ rfl (lkC LF (.slice A' n C')) _ (fun w hSw => (Bk.range (pre := []) (post := []) (by simpa using hSw) rfl)) Try.underlying26 rfl (HSL.out)) (by assumption) ?_
  try simp only [Act.put, List.setIfInBounds_toArray, List.set_cons_zero, List.set_cons_succ, List.getElem_toArray, List.getElem_cons_zero, List.getElem_cons_succ]
  refine wpAnyH_take (i := 1) (v := ?_) rfl (by kernel_rfl) (by kernel_rfl) (by kernel_rfl) (fun _ _ _ h => h) (Or.inl ⟨by rfl, ?_⟩) (by assumption) ?_
  rotate_left
  · intro w hSw
    (try dsimp only at hSw)
    go_simp
    try with_reducible rfl
  try simp only [Act.put, List.setIfInBounds_toArray, List.set_cons_zero, List.set_cons_succ, List.getElem_toArray, List.getElem_cons_zero, List.getElem_cons_succ]
  refine wpAnyH_take (i := 3) (v := ?_) rfl (by kernel_rfl) (by kernel_rfl) (by kernel_rfl) (fun _ _ _ h => h) (Or.inl ⟨by rfl, ?_⟩) (by assumption) ?_
  rotate_left
  · intro w hSw
    (try dsimp only at hSw)
    go_simp
    try with_reducible rfl
  try simp only [Act.put, List.setIfInBounds_toArray, List.set_cons_zero, List.set_cons_succ, List.getElem_toArray, List.getElem_cons_zero, List.getElem_cons_succ]
  refine wpAnyH_take (i := 4) (v := ?_) rfl (by kernel_rfl) (by kernel_rfl) (by kernel_rfl) (fun _ _ _ h => h) (Or.inl ⟨by rfl, ?_⟩) (by assumption) ?_
  rotate_left
  · intro w hSw
    (try dsimp only at hSw)
    go_simp
    try with_reducible rfl
  try simp only [Act.put, List.setIfInBounds_toArray, List.set_cons_zero, List.set_cons_succ, List.getElem_toArray, List.getElem_cons_zero, List.getElem_cons_succ]
  refine wpAnyH_take (i := 5) (v := .agg (List.toArray (lkC LF (.slice A' n C')))) rfl (by kernel_rfl) (by kernel_rfl) (by kernel_rfl) (fun _ _ _ h => h) (yieldsIf_load_mid (by rfl) _ _ rfl _ _ rfl (lkC LF (.slice A' n C')) _ (fun w hSw => (Bk.range (pre := []) (post := []) (by simpa using hSw) rfl)) Try.underlying26 rfl (HSL.out)) (by assumption) ?_
  try simp only [Act.put, List.setIfInBounds_toArray, List.set_cons_zero, List.set_cons_succ, List.getElem_toArray, List.getElem_cons_zero, List.getElem_cons_succ]
  refine wpAnyH_take (i := 6) (v := ?_) rfl (by kernel_rfl) (by kernel_rfl) (by kernel_rfl) (fun _ _ _ h => h) (Or.inl ⟨by rfl, ?_⟩) (by assumption) ?_
  rotate_left
  · intro w hSw
    (try dsimp only at hSw)
    go_simp
    try with_reducible rfl
  try simp only [Act.put, List.setIfInBounds_toArray, List.set_cons_zero, List.set_cons_succ, List.getElem_toArray, List.getElem_cons_zero, List.getElem_cons_succ]
  refine wpAnyH_take (i := 7) (v := ?_) rfl (by kernel_rfl) (by kernel_rfl) (by kernel_rfl) (fun _ _ _ h => h) (Or.inl ⟨by rfl, ?_⟩) (by assumption) ?_
  rotate_left
  · intro w hSw
    (try dsimp only at hSw)
    go_simp
    try with_reducible rfl
  try simp only [Act.put, List.setIfInBounds_toArray, List.set_cons_zero, List.set_cons_succ, List.getElem_toArray, List.getElem_cons_zero, List.getElem_cons_succ]
  refine wpAnyH_take (i := 2) (v := ?_) rfl (by kernel_rfl) (by kernel_rfl) (by kernel_rfl) (fun _ _ _ h => h) (Or.inl ⟨by rfl, ?_⟩) (by assumption) ?_
  rotate_left
  · intro w hSw
    (try dsimp only at hSw)
    go_simp
    try with_reducible rfl
  try simp only [Act.put, List.setIfInBounds_toArray, List.set_cons_zero, List.set_cons_succ, List.getElem_toArray, List.getElem_cons_zero, List.getElem_cons_succ]
  have HEL : Hid (([] : List Ent).length + n ≤ 65536) := by show 0 + n ≤ _; omega
  have HOC := Lib.hid (outcome_any wa w.heap.size g [] HPa.out.bk LF HFH.out HKO.out A' n C' (by have := HNB.out; omega) HEL.out own HPI.out A8 n C8 (by have := HNB.out; omega) HPa.out.row.1 HPa.out.hb.size my)
  refine wpAnyH_ready (rs := [8]) (by kernel_rfl) (by simp) ?_
  refine AllReadyH.cons rfl (fun K hK => ?_) AllReadyH.nil
  go_simp
  (go_at_call 14; refine HOC.out.mono ?_; rintro e wb ⟨⟨E, F, ps, rfl, h1, h2, h3⟩, hbk, hb, hk, hrw⟩; have HPb := Lib.hid (HPa.out.sign hk hb hbk); have HAL : Hid (allB (sgO [] (msgO LF.h own) my LF.ks n).2 (msgO LF.h own) LF.ks ps [] = decide ((n : Int) ≤ my)) := (by show _ = _; have h4 := HKL.out; have h5 := sgO_all (es := []) (m := msgO LF.h own) (many := my) (ks := LF.ks) (ps := ps) (by rw [h4]; have := HNB.out; omega) (by rw [h4]; exact h3); rw [h4] at h5; exact h5); have HPR := Lib.hid (out_pr h1 h2 h3 HEL.out hrw.z HPM.out (by have := HNB.out; omega)); clear h1 h2 h3 hbk hb hk hrw HPa HOC)
  refine hK.out _ _ (HPb.out.lk) (fun hHeld => ?_)
  clear hK K
  try simp only [Act.put, List.setIfInBounds_toArray, List.set_cons_zero, List.set_cons_succ, List.getElem_toArray, List.getElem_cons_zero, List.getElem_cons_succ]
  obtain ⟨es2, hes2⟩ : ∃ e, (sgO [] (msgO LF.h own) my LF.ks n).2 = e := ⟨_, rfl⟩
  have HE2 : Hid (es2.length ≤ 65536) := by show es2.length ≤ _; rw [← hes2]; have h1 := (sgO_len [] (msgO LF.h own) my LF.ks n).2; have h2 := HEL.out; omega
  rw [hes2] at HPb HAL
  clear hes2
  have HLK : Hid (LkK wb LF A' n) := Rw.lk (L := LF) HPb.out.row.1 HKO.out HFH.out (by have := HNB.out; omega)
  have hop := open_any wb w.heap.size g es2 HPb.out.bk HE2.out LF A' n C' HLK.out zeroD zero_ok A8 E n C8 n F own ps HPR.out (fun _ => rfl) nw
  obtain ⟨⟨rn, re⟩, hR⟩ : ∃ R, openO es2 LF n nw zeroD own ps = R := ⟨_, rfl⟩
  have HR : Hid ((rn, re) = if LF.u < nw then (0, 19) else if (n : Int) ≤ my then (max 0 (LF.c - own.getD LF.s.toNat 0), 0) else (0, 16)) := by
    show _ = _
    rw [← hR, openO, if_pos HCZ.out]
    by_cases h1 : LF.u < nw
    · rw [if_pos h1, if_pos h1]
    · rw [if_neg h1, if_neg h1, if_neg (by have := HNB.out; omega), outO, if_neg (by rw [HOL.out.1]; simp), HAL.out]
      by_cases h2 : (n : Int) ≤ my
      · rw [if_pos (by simpa using h2), if_pos h2]
      · rw [if_neg (by simpa using h2), if_neg h2]
  rw [hR] at hop
  have HOP := Lib.hid hop
  clear hop hR
  refine wpAnyH_ready (rs := [9]) (by kernel_rfl) (by simp) ?_
  refine AllReadyH.cons rfl (fun K hK => ?_) AllReadyH.nil
  go_simp
  (go_at_call 13; refine HOP.out.mono ?_; rintro e wd ⟨rfl, hbn⟩; have HPd := Lib.hid (HPb.out.later hbn); clear hbn HOP HPb HPR HLK)
  refine hK.out _ _ (HPd.out.lk) (fun hHeld => ?_)
  clear hK K
  try simp only [Act.put, List.setIfInBounds_toArray, List.set_cons_zero, List.set_cons_succ, List.getElem_toArray, List.getElem_cons_zero, List.getElem_cons_succ]
  refine wpAnyH_take (i := 10) (v := ?_) rfl (by kernel_rfl) (by kernel_rfl) (by kernel_rfl) (fun _ _ _ h => h) (Or.inl ⟨by rfl, ?_⟩) (by assumption) ?_
  rotate_left
  · intro w hSw
    (try dsimp only at hSw)
    go_simp
    try with_reducible rfl
  try simp only [Act.put, List.setIfInBounds_toArray, List.set_cons_zero, List.set_cons_succ, List.getElem_toArray, List.getElem_cons_zero, List.getElem_cons_succ]
  refine wpAnyH_take (i := 11) (v := ?_) rfl (by kernel_rfl) (by kernel_rfl) (by kernel_rfl) (fun _ _ _ h => h) (Or.inl ⟨by rfl, ?_⟩) (by assumption) ?_
  rotate_left
  · intro w hSw
    (try dsimp only at hSw)
    go_simp
    try with_reducible rfl
  try simp only [Act.put, List.setIfInBounds_toArray, List.set_cons_zero, List.set_cons_succ, List.getElem_toArray, List.getElem_cons_zero, List.getElem_cons_succ]
  refine wpAnyH_take (i := 12) (v := ?_) rfl (by kernel_rfl) (by kernel_rfl) (by kernel_rfl) (fun _ _ _ h => h) (Or.inl ⟨by rfl, ?_⟩) (by assumption) ?_
  rotate_left
  · intro w hSw
    (try dsimp only at hSw)
    go_simp
    try with_reducible rfl
  try simp only [Act.put, List.setIfInBounds_toArray, List.set_cons_zero, List.set_cons_succ, List.getElem_toArray, List.getElem_cons_zero, List.getElem_cons_succ]
  refine wpAnyH_take (i := 13) (v := ?_) rfl (by kernel_rfl) (by kernel_rfl) (by kernel_rfl) (fun _ _ _ h => h) (Or.inl ⟨by rfl, ?_⟩) (by assumption) ?_
  rotate_left
  · intro w hSw
    (try dsimp only at hSw)
    go_simp
    try with_reducible rfl
  try simp only [Act.put, List.setIfInBounds_toArray, List.set_cons_zero, List.set_cons_succ, List.getElem_toArray, List.getElem_cons_zero, List.getElem_cons_succ]
  refine wpAnyH_take (i := 14) (v := ?_) rfl (by kernel_rfl) (by kernel_rfl) (by kernel_rfl) (fun _ _ _ h => h) (Or.inl ⟨by rfl, ?_⟩) (by assumption) ?_
  rotate_left
  · intro w hSw
    (try dsimp only at hSw)
    go_simp
    try with_reducible rfl
  try simp only [Act.put, List.setIfInBounds_toArray, List.set_cons_zero, List.set_cons_succ, List.getElem_toArray, List.getElem_cons_zero, List.getElem_cons_succ]
  refine wpAnyH_done (by kernel_rfl) ?_ _
  clear hHeld
  have c12 := (lk_mem HFH.out HPd.out.lk).c12
  by_cases hlate : LF.u < nw
  · have hr : (rn, re) = (0, 19) := by rw [HR.out, if_pos hlate]
    injection hr with hr1 hr2
    subst hr1; subst hr2
    have hd : decide (LF.u < nw) = true := by simpa using hlate
    clear hlate
    go_wp2_with fail
    refine (ltold_any wd).mono ?_
    rintro e w9 ⟨rfl, hbn⟩
    have HB9 := Lib.hid (below_then HPd.out.hb hbn)
    clear hbn
    go_wp2_with fail
    go_ret
    exact ⟨rfl, HB9.out⟩
  have hd : decide (LF.u < nw) = false := by simpa using hlate
  have c9 := (lk_mem HFH.out HPd.out.lk).c9
  by_cases hmn : my < n
  · have hr : (rn, re) = (0, 16) := by rw [HR.out, if_neg hlate, if_neg (by omega)]
    injection hr with hr1 hr2
    subst hr1; subst hr2
    clear hlate
    go_wp2_with fail
    refine (ltold_any wd).mono ?_
    rintro e w9 ⟨rfl, hbn⟩
    have HB9 := Lib.hid (below_then HPd.out.hb hbn)
    clear hbn
    go_wp2_with fail
    go_ret
    exact ⟨rfl, HB9.out⟩
  have hr : (rn, re) = (max 0 (LF.c - own.getD LF.s.toNat 0), 0) := by rw [HR.out, if_neg hlate, if_pos (by omega)]
  injection hr with hr1 hr2
  subst hr2
  have HRN : Hid (rn = max 0 (LF.c - own.getD LF.s.toNat 0)) := hr1
  have HNL : Hid (¬ LF.u < nw) := hlate
  clear hr1 hlate
  go_upto_region 22 with fail
  clear c9 c12 hd hmn
  obtain ⟨sn, hsn⟩ : ∃ k : Nat, LF.s = k := ⟨LF.s.toNat, by have := HNB.out; omega⟩
  have hnb := HNB.out
  have hsl : sn < n := by omega
  obtain ⟨b, o, x, rfl, hx, _, _⟩ := int_at (Sl.of_own HPd.out.row.1.z) hsl
  have hxr := HOL.out.2 x (List.mem_of_getElem? hx)
  have HXX : Hid (own.getD LF.s.toNat 0 = x) := by show _ = _; rw [hsn, Int.toNat_natCast, List.getD_eq_getElem?_getD, hx]; rfl
  have HCX : Hid (∀ w' es' v, LO w w' g es' z LF A' n C' h0 h1 (.slice (some ⟨b, o, none⟩) n v) own → w'.cell? ⟨b, o + sn, none⟩ = some (.int .i64 x)) := fun w' es' v h => by
    obtain ⟨b1, o1, x1, e1, hx1, _, c1⟩ := int_at (Sl.of_own h.row.1.z) hsl
    injection e1 with e1; injection e1 with e1 e1'; subst e1; subst e1'
    rw [hx] at hx1; injection hx1 with hx1; subst hx1; exact c1
  have HC8 : Hid (n ≤ C8) := own_cap HPd.out.row.1.z
  clear hx
  have HSN := Lib.hid hsn
  have HT1 := Lib.hid (run_tailI b o n C8 hnb.2.1 HC8.out)
  refine wp_region_held_drew (S := fun w' => Bk w' z 26 (lkC LF (.slice A' n C'))) (by kernel_rfl) (Bk.drew HPd.out.lk) (fun hHeld => ?_)
  have hbd : Below wd.heap.size wd wd.drew := below_draws wd wd.heap.size 1
  obtain ⟨we, hwe⟩ : ∃ wa, wd.drew = wa := ⟨_, rfl⟩
  rw [hwe] at hbd hHeld ⊢
  have HPe := Lib.hid (HPd.out.later hbd)
  clear hwe hbd HPd hnb
  refine wpAnyH_take (i := 0) (v := .agg (List.toArray (lkC LF (.slice A' n C')))) rfl (by kernel_rfl) (by kernel_rfl) (by kernel_rfl) (fun _ _ _ h => h) (yieldsIf_load_mid (by rfl) _ _ rfl _ _ rfl (lkC LF (.slice A' n C')) _ (fun w hSw => (Bk.range (pre := []) (post := []) (by simpa using hSw) rfl)) Try.underlying26 rfl (HSL.out)) (by assumption) ?_
  try simp only [Act.put, List.setIfInBounds_toArray, List.set_cons_zero, List.set_cons_succ, List.getElem_toArray, List.getElem_cons_zero, List.getElem_cons_succ]
  refine wpAnyH_take (i := 1) (v := ?_) rfl (by kernel_rfl) (by kernel_rfl) (by kernel_rfl) (fun _ _ _ h => h) (Or.inl ⟨by rfl, ?_⟩) (by assumption) ?_
  rotate_left
  · intro w hSw
    (try dsimp only at hSw)
    go_simp
    try with_reducible rfl
  try simp only [Act.put, List.setIfInBounds_toArray, List.set_cons_zero, List.set_cons_succ, List.getElem_toArray, List.getElem_cons_zero, List.getElem_cons_succ]
  refine wpAnyH_take (i := 3) (v := ?_) rfl (by kernel_rfl) (by kernel_rfl) (by kernel_rfl) (fun _ _ _ h => h) (Or.inl ⟨by rfl, ?_⟩) (by assumption) ?_
  rotate_left
  · intro w hSw
    (try dsimp only at hSw)
    go_simp
    try with_reducible rfl
  try simp only [Act.put, List.setIfInBounds_toArray, List.set_cons_zero, List.set_cons_succ, List.getElem_toArray, List.getElem_cons_zero, List.getElem_cons_succ]
  refine wpAnyH_take (i := 4) (v := ?_) rfl (by kernel_rfl) (by kernel_rfl) (by kernel_rfl) (fun _ _ _ h => h) (Or.inl ⟨by rfl, ?_⟩) (by assumption) ?_
  rotate_left
  · intro w hSw
    (try dsimp only at hSw)
    go_simp
    try with_reducible rfl
  try simp only [Act.put, List.setIfInBounds_toArray, List.set_cons_zero, List.set_cons_succ, List.getElem_toArray, List.getElem_cons_zero, List.getElem_cons_succ]
  refine wpAnyH_take (i := 2) (v := ?_) rfl (by kernel_rfl) (by kernel_rfl) (by kernel_rfl) (fun _ _ _ h => h) (Or.inl ⟨by rfl, ?_⟩) (by assumption) ?_
  rotate_left
  · intro w hSw
    (try dsimp only at hSw)
    go_simp
    try with_reducible rfl
  try simp only [Act.put, List.setIfInBounds_toArray, List.set_cons_zero, List.set_cons_succ, List.getElem_toArray, List.getElem_cons_zero, List.getElem_cons_succ]
  refine wpAnyH_take (i := 5) (v := ?_) rfl (by kernel_rfl) (by kernel_rfl) (by kernel_rfl) (fun _ _ _ h => h) (Or.inl ⟨by rfl, ?_⟩) (by assumption) ?_
  rotate_left
  · intro w hSw
    have hcell := (HT1.out w)
    clear hSw
    go_simp
    try with_reducible rfl
  try simp only [Act.put, List.setIfInBounds_toArray, List.set_cons_zero, List.set_cons_succ, List.getElem_toArray, List.getElem_cons_zero, List.getElem_cons_succ]
  refine wpAnyH_take (i := 6) (v := .agg (List.toArray (pfC zeroD (.slice (some ⟨b, o + 1, none⟩) (n - 1) (C8 - 1)) (.slice none 0 0)))) rfl (by kernel_rfl) (by kernel_rfl) (by kernel_rfl) (fun _ _ _ h => h) (yieldsIf_build (by rfl) _ _ rfl #[(1, .slice (some ⟨b, o + 1, none⟩) (n - 1) (C8 - 1))] (by simp [Act.eval]) _ (build_pf (some ⟨b, o + 1, none⟩) (n - 1) (C8 - 1))) (by assumption) ?_
  try simp only [Act.put, List.setIfInBounds_toArray, List.set_cons_zero, List.set_cons_succ, List.getElem_toArray, List.getElem_cons_zero, List.getElem_cons_succ]
  have HLKe : Hid (LkK we LF A' n) := Rw.lk (L := LF) HPe.out.row.1 HKO.out HFH.out (by have := HNB.out; omega)
  have HPRe : Hid (PrT we (some ⟨b, o + 1, none⟩) (n - 1) own.tail none 0 []) := ⟨Sl.tailN (Sl.of_own HPe.out.row.1.z) (by have := HNB.out; omega), fun z hz => HPM.out z (List.mem_of_mem_tail hz), Sl.nil, fun p hp => by simp at hp, fun p hp => by simp at hp, fun p hp => by simp at hp, by have := HNB.out; omega⟩
  have hop := open_any we w.heap.size g es2 HPe.out.bk HE2.out LF A' n C' HLKe.out zeroD zero_ok (some ⟨b, o + 1, none⟩) none (n - 1) (C8 - 1) 0 0 own.tail [] HPRe.out (fun h => by have := HNB.out; omega) nw
  rw [show openO es2 LF n nw zeroD own.tail [] = (0, 3) by rw [openO, if_pos HCZ.out, if_neg HNL.out, if_neg (by have := HNB.out; omega), outO, if_pos (by rw [List.length_tail, HOL.out.1]; have := HNB.out; omega)]] at hop
  have HOP := Lib.hid hop
  clear hop
  refine wpAnyH_ready (rs := [7]) (by kernel_rfl) (by simp) ?_
  refine AllReadyH.cons rfl (fun K hK => ?_) AllReadyH.nil
  go_simp
  (go_at_call 13; refine HOP.out.mono ?_; rintro e wf ⟨rfl, hbn⟩; have HPf := Lib.hid (HPe.out.later hbn); clear hbn HOP HPe HPRe HLKe)
  refine hK.out _ _ (HPf.out.lk) (fun hHeld => ?_)
  clear hK K
  try simp only [Act.put, List.setIfInBounds_toArray, List.set_cons_zero, List.set_cons_succ, List.getElem_toArray, List.getElem_cons_zero, List.getElem_cons_succ]
  refine wpAnyH_take (i := 8) (v := ?_) rfl (by kernel_rfl) (by kernel_rfl) (by kernel_rfl) (fun _ _ _ h => h) (Or.inl ⟨by rfl, ?_⟩) (by assumption) ?_
  rotate_left
  · intro w hSw
    (try dsimp only at hSw)
    go_simp
    try with_reducible rfl
  try simp only [Act.put, List.setIfInBounds_toArray, List.set_cons_zero, List.set_cons_succ, List.getElem_toArray, List.getElem_cons_zero, List.getElem_cons_succ]
  refine wpAnyH_take (i := 9) (v := ?_) rfl (by kernel_rfl) (by kernel_rfl) (by kernel_rfl) (fun _ _ _ h => h) (Or.inl ⟨by rfl, ?_⟩) (by assumption) ?_
  rotate_left
  · intro w hSw
    (try dsimp only at hSw)
    go_simp
    try with_reducible rfl
  try simp only [Act.put, List.setIfInBounds_toArray, List.set_cons_zero, List.set_cons_succ, List.getElem_toArray, List.getElem_cons_zero, List.getElem_cons_succ]
  refine wpAnyH_take (i := 10) (v := ?_) rfl (by kernel_rfl) (by kernel_rfl) (by kernel_rfl) (fun _ _ _ h => h) (Or.inl ⟨by rfl, ?_⟩) (by assumption) ?_
  rotate_left
  · intro w hSw
    (try dsimp only at hSw)
    go_simp
    try with_reducible rfl
  try simp only [Act.put, List.setIfInBounds_toArray, List.set_cons_zero, List.set_cons_succ, List.getElem_toArray, List.getElem_cons_zero, List.getElem_cons_succ]
  refine wpAnyH_take (i := 11) (v := ?_) rfl (by kernel_rfl) (by kernel_rfl) (by kernel_rfl) (fun _ _ _ h => h) (Or.inl ⟨by rfl, ?_⟩) (by assumption) ?_
  rotate_left
  · intro w hSw
    (try dsimp only at hSw)
    go_simp
    try with_reducible rfl
  try simp only [Act.put, List.setIfInBounds_toArray, List.set_cons_zero, List.set_cons_succ, List.getElem_toArray, List.getElem_cons_zero, List.getElem_cons_succ]
  refine wpAnyH_take (i := 12) (v := ?_) rfl (by kernel_rfl) (by kernel_rfl) (by kernel_rfl) (fun _ _ _ h => h) (Or.inl ⟨by rfl, ?_⟩) (by assumption) ?_
  rotate_left
  · intro w hSw
    (try dsimp only at hSw)
    go_simp
    try with_reducible rfl
  try simp only [Act.put, List.setIfInBounds_toArray, List.set_cons_zero, List.set_cons_succ, List.getElem_toArray, List.getElem_cons_zero, List.getElem_cons_succ]
  refine wpAnyH_done (by kernel_rfl) ?_ _
  clear hHeld
  go_upto_region 23 with fail
  have hnb := HNB.out
  have g1 : decide (rn ≤ LF.c) = true := by have := HRN.out; have := HXX.out; simp; omega
  have g2 : (rn == rn) = true := by simp
  have hsl' : (sn : Int) < n := by omega
  have hs0 : (0 : Int) ≤ sn := by omega
  have HOV : Hid (overI LF x = rn) := by show _ = _; rw [overI, if_neg (by omega), HRN.out, HXX.out]; omega
  refine wp_region_held_drew (S := fun w' => Bk w' z 26 (lkC LF (.slice A' n C')) ∧ w'.cell? ⟨b, o + sn, none⟩ = some (.int .i64 x)) (by kernel_rfl) ⟨Bk.drew HPf.out.lk, HCX.out _ _ _ (HPf.out.later (below_draws wf _ 1))⟩ (fun hHeld => ?_)
  have hbd : Below wf.heap.size wf wf.drew := below_draws wf wf.heap.size 1
  obtain ⟨wg, hwg⟩ : ∃ wa, wf.drew = wa := ⟨_, rfl⟩
  rw [hwg] at hbd hHeld ⊢
  have HPg := Lib.hid (HPf.out.later hbd)
  clear hwg hbd HPf hnb
  refine wpAnyH_ready (rs := [0]) (by kernel_rfl) (by simp) ?_
  refine AllReadyH.cons rfl (fun K hK => ?_) AllReadyH.nil
  go_simp
  (go_at_call 12; refine (ltold_any wg).mono ?_; rintro e wh ⟨rfl, hbn⟩; have HPh := Lib.hid (HPg.out.later hbn); clear hbn HPg)
  refine hK.out _ _ (⟨HPh.out.lk, HCX.out _ _ _ HPh.out⟩) (fun hHeld => ?_)
  clear hK K
  try simp only [Act.put, List.setIfInBounds_toArray, List.set_cons_zero, List.set_cons_succ, List.getElem_toArray, List.getElem_cons_zero, List.getElem_cons_succ]
  refine wpAnyH_take (i := 1) (v := ?_) rfl (by kernel_rfl) (by kernel_rfl) (by kernel_rfl) (fun _ _ _ h => h) (Or.inl ⟨by rfl, ?_⟩) (by assumption) ?_
  rotate_left
  · intro w hSw
    (try dsimp only at hSw)
    go_simp
    try with_reducible rfl
  try simp only [Act.put, List.setIfInBounds_toArray, List.set_cons_zero, List.set_cons_succ, List.getElem_toArray, List.getElem_cons_zero, List.getElem_cons_succ]
  refine wpAnyH_take (i := 2) (v := ?_) rfl (by kernel_rfl) (by kernel_rfl) (by kernel_rfl) (fun _ _ _ h => h) (Or.inl ⟨by rfl, ?_⟩) (by assumption) ?_
  rotate_left
  · intro w hSw
    (try dsimp only at hSw)
    go_simp
    try with_reducible rfl
  try simp only [Act.put, List.setIfInBounds_toArray, List.set_cons_zero, List.set_cons_succ, List.getElem_toArray, List.getElem_cons_zero, List.getElem_cons_succ]
  refine wpAnyH_take (i := 3) (v := ?_) rfl (by kernel_rfl) (by kernel_rfl) (by kernel_rfl) (fun _ _ _ h => h) (Or.inl ⟨by rfl, ?_⟩) (by assumption) ?_
  rotate_left
  · intro w hSw
    (try dsimp only at hSw)
    go_simp
    try with_reducible rfl
  try simp only [Act.put, List.setIfInBounds_toArray, List.set_cons_zero, List.set_cons_succ, List.getElem_toArray, List.getElem_cons_zero, List.getElem_cons_succ]
  refine wpAnyH_take (i := 4) (v := ?_) rfl (by kernel_rfl) (by kernel_rfl) (by kernel_rfl) (fun _ _ _ h => h) (Or.inl ⟨by rfl, ?_⟩) (by assumption) ?_
  rotate_left
  · intro w hSw
    (try dsimp only at hSw)
    go_simp
    try with_reducible rfl
  try simp only [Act.put, List.setIfInBounds_toArray, List.set_cons_zero, List.set_cons_succ, List.getElem_toArray, List.getElem_cons_zero, List.getElem_cons_succ]
  refine wpAnyH_take (i := 5) (v := ?_) rfl (by kernel_rfl) (by kernel_rfl) (by kernel_rfl) (fun _ _ _ h => h) (Or.inl ⟨by rfl, ?_⟩) (by assumption) ?_
  rotate_left
  · intro w hSw
    (try dsimp only at hSw)
    go_simp
    try with_reducible rfl
  try simp only [Act.put, List.setIfInBounds_toArray, List.set_cons_zero, List.set_cons_succ, List.getElem_toArray, List.getElem_cons_zero, List.getElem_cons_succ]
  refine wpAnyH_take (i := 6) (v := ?_) rfl (by kernel_rfl) (by kernel_rfl) (by kernel_rfl) (fun _ _ _ h => h) (Or.inl ⟨by rfl, ?_⟩) (by assumption) ?_
  rotate_left
  · intro w hSw
    (try dsimp only at hSw)
    go_simp
    try with_reducible rfl
  try simp only [Act.put, List.setIfInBounds_toArray, List.set_cons_zero, List.set_cons_succ, List.getElem_toArray, List.getElem_cons_zero, List.getElem_cons_succ]
  refine wpAnyH_take (i := 7) (v := .agg (List.toArray (lkC LF (.slice A' n C')))) rfl (by kernel_rfl) (by kernel_rfl) (by kernel_rfl) (fun _ _ _ h => h) (yieldsIf_load_mid (by rfl) _ _ rfl _ _ rfl (lkC LF (.slice A' n C')) _ (fun w hSw => (Bk.range (pre := []) (post := []) (by simpa using hSw.1) rfl)) Try.underlying26 rfl (HSL.out)) (by assumption) ?_
  try simp only [Act.put, List.setIfInBounds_toArray, List.set_cons_zero, List.set_cons_succ, List.getElem_toArray, List.getElem_cons_zero, List.getElem_cons_succ]
  refine wpAnyH_take (i := 9) (v := ?_) rfl (by kernel_rfl) (by kernel_rfl) (by kernel_rfl) (fun _ _ _ h => h) (Or.inl ⟨by rfl, ?_⟩) (by assumption) ?_
  rotate_left
  · intro w hSw
    (try dsimp only at hSw)
    go_simp
    try with_reducible rfl
  try simp only [Act.put, List.setIfInBounds_toArray, List.set_cons_zero, List.set_cons_succ, List.getElem_toArray, List.getElem_cons_zero, List.getElem_cons_succ]
  refine wpAnyH_take (i := 10) (v := ?_) rfl (by kernel_rfl) (by kernel_rfl) (by kernel_rfl) (fun _ _ _ h => h) (Or.inl ⟨by rfl, ?_⟩) (by assumption) ?_
  rotate_left
  · intro w hSw
    (try dsimp only at hSw)
    go_simp
    try with_reducible rfl
  try simp only [Act.put, List.setIfInBounds_toArray, List.set_cons_zero, List.set_cons_succ, List.getElem_toArray, List.getElem_cons_zero, List.getElem_cons_succ]
  refine wpAnyH_take (i := 11) (v := ?_) rfl (by kernel_rfl) (by kernel_rfl) (by kernel_rfl) (fun _ _ _ h => h) (Or.inl ⟨by rfl, ?_⟩) (by assumption) ?_
  rotate_left
  · intro w hSw
    have hcell := (HSN.out ▸ (lk_mem HFH.out hSw.1).c10)
    clear hSw
    go_simp
    try with_reducible rfl
  try simp only [Act.put, List.setIfInBounds_toArray, List.set_cons_zero, List.set_cons_succ, List.getElem_toArray, List.getElem_cons_zero, List.getElem_cons_succ]
  refine wpAnyH_take (i := 12) (v := ?_) rfl (by kernel_rfl) (by kernel_rfl) (by kernel_rfl) (fun _ _ _ h => h) (Or.inl ⟨by rfl, ?_⟩) (by assumption) ?_
  rotate_left
  · intro w hSw
    (try dsimp only at hSw)
    go_simp
    try with_reducible rfl
  try simp only [Act.put, List.setIfInBounds_toArray, List.set_cons_zero, List.set_cons_succ, List.getElem_toArray, List.getElem_cons_zero, List.getElem_cons_succ]
  refine wpAnyH_take (i := 13) (v := ?_) rfl (by kernel_rfl) (by kernel_rfl) (by kernel_rfl) (fun _ _ _ h => h) (Or.inl ⟨by rfl, ?_⟩) (by assumption) ?_
  rotate_left
  · intro w hSw
    have hcell := hSw.2
    clear hSw
    go_simp
    try with_reducible rfl
  try simp only [Act.put, List.setIfInBounds_toArray, List.set_cons_zero, List.set_cons_succ, List.getElem_toArray, List.getElem_cons_zero, List.getElem_cons_succ]
  have HLKh : Hid (LkK wh LF A' n) := Rw.lk (L := LF) HPh.out.row.1 HKO.out HFH.out (by have := HNB.out; omega)
  refine wpAnyH_ready (rs := [8]) (by kernel_rfl) (by simp) ?_
  refine AllReadyH.cons rfl (fun K hK => ?_) AllReadyH.nil
  go_simp
  (go_at_call 16; refine (lplain_any wh LF A' n C' HLKh.out).mono ?_; rintro e wi ⟨PP, pc, rfl, _, hbn⟩; have HPi := Lib.hid (HPh.out.later hbn); clear hbn HPh HLKh)
  refine hK.out _ _ (⟨HPi.out.lk, HCX.out _ _ _ HPi.out⟩) (fun hHeld => ?_)
  clear hK K
  try simp only [Act.put, List.setIfInBounds_toArray, List.set_cons_zero, List.set_cons_succ, List.getElem_toArray, List.getElem_cons_zero, List.getElem_cons_succ]
  refine wpAnyH_ready (rs := [14]) (by kernel_rfl) (by simp) ?_
  refine AllReadyH.cons rfl (fun K hK => ?_) AllReadyH.nil
  go_simp
  (go_at_call 15; refine (over_any wi LF HFH.out PP n pc x (by have := HNB.out; omega) (by have := HNB.out; omega) hxr.1 (by omega)).mono ?_; rw [HOV.out]; rintro e wj ⟨rfl, hbn⟩; have HPj := Lib.hid (HPi.out.later hbn); clear hbn HPi)
  refine hK.out _ _ (⟨HPj.out.lk, HCX.out _ _ _ HPj.out⟩) (fun hHeld => ?_)
  clear hK K
  try simp only [Act.put, List.setIfInBounds_toArray, List.set_cons_zero, List.set_cons_succ, List.getElem_toArray, List.getElem_cons_zero, List.getElem_cons_succ]
  refine wpAnyH_take (i := 15) (v := ?_) rfl (by kernel_rfl) (by kernel_rfl) (by kernel_rfl) (fun _ _ _ h => h) (Or.inl ⟨by rfl, ?_⟩) (by assumption) ?_
  rotate_left
  · intro w hSw
    (try dsimp only at hSw)
    go_simp
    try with_reducible rfl
  try simp only [Act.put, List.setIfInBounds_toArray, List.set_cons_zero, List.set_cons_succ, List.getElem_toArray, List.getElem_cons_zero, List.getElem_cons_succ]
  refine wpAnyH_take (i := 16) (v := ?_) rfl (by kernel_rfl) (by kernel_rfl) (by kernel_rfl) (fun _ _ _ h => h) (Or.inl ⟨by rfl, ?_⟩) (by assumption) ?_
  rotate_left
  · intro w hSw
    (try dsimp only at hSw)
    go_simp
    try with_reducible rfl
  try simp only [Act.put, List.setIfInBounds_toArray, List.set_cons_zero, List.set_cons_succ, List.getElem_toArray, List.getElem_cons_zero, List.getElem_cons_succ]
  refine wpAnyH_take (i := 17) (v := ?_) rfl (by kernel_rfl) (by kernel_rfl) (by kernel_rfl) (fun _ _ _ h => h) (Or.inl ⟨by rfl, ?_⟩) (by assumption) ?_
  rotate_left
  · intro w hSw
    (try dsimp only at hSw)
    go_simp
    try with_reducible rfl
  try simp only [Act.put, List.setIfInBounds_toArray, List.set_cons_zero, List.set_cons_succ, List.getElem_toArray, List.getElem_cons_zero, List.getElem_cons_succ]
  refine wpAnyH_take (i := 18) (v := ?_) rfl (by kernel_rfl) (by kernel_rfl) (by kernel_rfl) (fun _ _ _ h => h) (Or.inl ⟨by rfl, ?_⟩) (by assumption) ?_
  rotate_left
  · intro w hSw
    (try dsimp only at hSw)
    go_simp
    try with_reducible rfl
  try simp only [Act.put, List.setIfInBounds_toArray, List.set_cons_zero, List.set_cons_succ, List.getElem_toArray, List.getElem_cons_zero, List.getElem_cons_succ]
  refine wpAnyH_take (i := 19) (v := ?_) rfl (by kernel_rfl) (by kernel_rfl) (by kernel_rfl) (fun _ _ _ h => h) (Or.inl ⟨by rfl, ?_⟩) (by assumption) ?_
  rotate_left
  · intro w hSw
    (try dsimp only at hSw)
    go_simp
    try with_reducible rfl
  try simp only [Act.put, List.setIfInBounds_toArray, List.set_cons_zero, List.set_cons_succ, List.getElem_toArray, List.getElem_cons_zero, List.getElem_cons_succ]
  refine wpAnyH_take (i := 20) (v := ?_) rfl (by kernel_rfl) (by kernel_rfl) (by kernel_rfl) (fun _ _ _ h => h) (Or.inl ⟨by rfl, ?_⟩) (by assumption) ?_
  rotate_left
  · intro w hSw
    have hcell := (lk_mem HFH.out hSw.1).c11
    clear hSw
    go_simp
    try with_reducible rfl
  try simp only [Act.put, List.setIfInBounds_toArray, List.set_cons_zero, List.set_cons_succ, List.getElem_toArray, List.getElem_cons_zero, List.getElem_cons_succ]
  refine wpAnyH_take (i := 21) (v := ?_) rfl (by kernel_rfl) (by kernel_rfl) (by kernel_rfl) (fun _ _ _ h => h) (Or.inl ⟨by rfl, ?_⟩) (by assumption) ?_
  rotate_left
  · intro w hSw
    (try dsimp only at hSw)
    go_simp
    try with_reducible rfl
  try simp only [Act.put, List.setIfInBounds_toArray, List.set_cons_zero, List.set_cons_succ, List.getElem_toArray, List.getElem_cons_zero, List.getElem_cons_succ]
  refine wpAnyH_take (i := 22) (v := ?_) rfl (by kernel_rfl) (by kernel_rfl) (by kernel_rfl) (fun _ _ _ h => h) (Or.inl ⟨by rfl, ?_⟩) (by assumption) ?_
  rotate_left
  · intro w hSw
    (try dsimp only at hSw)
    go_simp
    try with_reducible rfl
  try simp only [Act.put, List.setIfInBounds_toArray, List.set_cons_zero, List.set_cons_succ, List.getElem_toArray, List.getElem_cons_zero, List.getElem_cons_succ]
  refine wpAnyH_take (i := 23) (v := ?_) rfl (by kernel_rfl) (by kernel_rfl) (by kernel_rfl) (fun _ _ _ h => h) (Or.inl ⟨by rfl, ?_⟩) (by assumption) ?_
  rotate_left
  · intro w hSw
    (try dsimp only at hSw)
    go_simp
    try with_reducible rfl
  try simp only [Act.put, List.setIfInBounds_toArray, List.set_cons_zero, List.set_cons_succ, List.getElem_toArray, List.getElem_cons_zero, List.getElem_cons_succ]
  refine wpAnyH_take (i := 24) (v := ?_) rfl (by kernel_rfl) (by kernel_rfl) (by kernel_rfl) (fun _ _ _ h => h) (Or.inl ⟨by rfl, ?_⟩) (by assumption) ?_
  rotate_left
  · intro w hSw
    (try dsimp only at hSw)
    go_simp
    try with_reducible rfl
  try simp only [Act.put, List.setIfInBounds_toArray, List.set_cons_zero, List.set_cons_succ, List.getElem_toArray, List.getElem_cons_zero, List.getElem_cons_succ]
  refine wpAnyH_take (i := 25) (v := ?_) rfl (by kernel_rfl) (by kernel_rfl) (by kernel_rfl) (fun _ _ _ h => h) (Or.inl ⟨by rfl, ?_⟩) (by assumption) ?_
  rotate_left
  · intro w hSw
    (try dsimp only at hSw)
    go_simp
    try with_reducible rfl
  try simp only [Act.put, List.setIfInBounds_toArray, List.set_cons_zero, List.set_cons_succ, List.getElem_toArray, List.getElem_cons_zero, List.getElem_cons_succ]
  refine wpAnyH_take (i := 26) (v := ?_) rfl (by kernel_rfl) (by kernel_rfl) (by kernel_rfl) (fun _ _ _ h => h) (Or.inl ⟨by rfl, ?_⟩) (by assumption) ?_
  rotate_left
  · intro w hSw
    (try dsimp only at hSw)
    go_simp
    try with_reducible rfl
  try simp only [Act.put, List.setIfInBounds_toArray, List.set_cons_zero, List.set_cons_succ, List.getElem_toArray, List.getElem_cons_zero, List.getElem_cons_succ]
  refine wpAnyH_take (i := 27) (v := ?_) rfl (by kernel_rfl) (by kernel_rfl) (by kernel_rfl) (fun _ _ _ h => h) (Or.inl ⟨by rfl, ?_⟩) (by assumption) ?_
  rotate_left
  · intro w hSw
    (try dsimp only at hSw)
    go_simp
    try with_reducible rfl
  try simp only [Act.put, List.setIfInBounds_toArray, List.set_cons_zero, List.set_cons_succ, List.getElem_toArray, List.getElem_cons_zero, List.getElem_cons_succ]
  refine wpAnyH_done (by kernel_rfl) ?_ _
  clear hHeld
  go_wp2_with fail
  go_ret
  exact ⟨rfl, HPj.out.hb⟩
end Go.Proofs.Ytbclfjdamklbpaa
