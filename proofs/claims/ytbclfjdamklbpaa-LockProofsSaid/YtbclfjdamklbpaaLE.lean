/- A lock as the document has it; how many coins go over. -/
import Derived.Test.YtbclfjdamklbpaaLC
namespace Go.Proofs.Ytbclfjdamklbpaa
set_option linter.unusedSimpArgs false
set_option linter.unusedVariables false
open Go.RowKit Go.Maps

theorem Try.infoA8 : (Try.prog.info? 22).map (fun i => (i.zero.map fun z => z.cells.size, i.size, i.bytes)) = some (some 8, 8, 8) := by kernel_rfl
theorem a8_parts : ∃ i z, Try.prog.info? 22 = some i ∧ i.zero = some z ∧ i.size = 8 ∧ i.bytes = 8 ∧ z.cells.size = 8 := by
  have := Try.infoA8
  cases hq : Try.prog.info? 22 with
  | none => rw [hq] at this; cases this
  | some i =>
    rw [hq] at this
    simp only [Option.map_some, Option.some.injEq, Prod.mk.injEq] at this
    obtain ⟨h1, h2, h3⟩ := this
    cases hz : i.zero with
    | none => rw [hz] at h1; cases h1
    | some z =>
      rw [hz] at h1
      simp only [Option.map_some, Option.some.injEq] at h1
      exact ⟨i, z, rfl, hz, h2, h3, h1⟩
theorem build_rlk (L : LkT) (hh : DgOk L.h) (w : World) : (Instr.build 44 #[(0, .int .i64 L.k), (1, .agg (dl L.h).toArray), (3, .int .i64 L.s), (4, .int .i64 L.c), (5, .int .i64 L.u)]).run Try.prog w = .ok (.agg (lkC L (.slice none 0 0)).toArray) w := by
  obtain ⟨k, h, ks, s, c, u⟩ := L
  obtain ⟨x0, x1, x2, x3, x4, x5, x6, x7, rfl⟩ := list8 h hh.len
  kernel_rfl
theorem bs_a1 {x : List Int} (hx : DgOk x) (w : World) : (Instr.buildSlice 42 1 #[(0, .agg (dl x).toArray)]).run Try.prog w = .ok (.slice (some ⟨w.heap.size, 0, none⟩) 1 1) (w.alloc (.cells (dl x).toArray 22)) := by
  obtain ⟨x0, x1, x2, x3, x4, x5, x6, x7, rfl⟩ := list8 x hx.len
  kernel_rfl
theorem lplain_ret {w : World} {g : Nat} {cs : List Value} (h : Bk w g 44 cs) (hi : (Try.prog.info? 44).map (·.size) = some cs.length) (tmps : Array Value) (h4 : tmps.getD 2 undef = .pointer (some ⟨g, 0, none⟩)) :
    (results Try.f16 tmps).run Try.prog w = .ok (.agg cs.toArray) w := by
  have r1 : w.rangeAt g 0 cs := Bk.range (pre := []) (post := []) (by simpa using h) rfl
  have l1 := run_loadVar_mid (P := Try.prog) w g 0 44 cs _ r1 Try.underlying44 rfl hi
  rw [Array.getD_eq_getD_getElem?] at h4
  simp [results, Try.results16, h4, asAddr, l1]
theorem rng_later {w w' : World} {L b o : Nat} {cs : List Value} (h : w.rangeAt b o cs) (hb : Below L w w') (hlt : b < L) : w'.rangeAt b o cs := fun j v hv => (hb.cell (p := ⟨b, o + j, none⟩) hlt).trans (h j v hv)
/-- What it hands back. -/
def RetPk (L : LkT) (N : Nat) (w : World) (e : Ending) (w' : World) : Prop :=
  ∃ (P : Option Addr) (c : Nat), e = .returned (.agg (lkC L (.slice P N c)).toArray) ∧ w'.ownsRow w.heap.size 22 8 (.slice P N c) N (cellsD L.ks) ∧ Below w.heap.size w w'
theorem cellsD_snoc {ks : List (List Int)} {k : Nat} {x : List Int} (hx : ks[k]? = some x) : cellsD (ks.take (k + 1)) = cellsD (ks.take k) ++ dl x := by
  rw [take_snoc hx]; simp [cellsD, dl]
set_option maxRecDepth 20000 in
set_option maxHeartbeats 4000000 in
theorem lplain_any (w : World) (L : LkT) (A : Option Addr) (N C : Nat) (hk : LkK w L A N) :
    Calls Try.prog 16 #[.agg (lkC L (.slice A N C)).toArray] w (RetPk L N w) := by
  obtain ⟨L0, hL0⟩ : ∃ x, L = x := ⟨_, rfl⟩
  rw [hL0] at hk ⊢
  clear hL0 L
  have hh := hk.h
  obtain ⟨l, hl⟩ : ∃ x, lkC L0 (.slice A N C) = x := ⟨_, rfl⟩
  obtain ⟨X, hX⟩ : ∃ X, l.toArray = X := ⟨_, rfl⟩
  obtain ⟨z, hz⟩ : ∃ z, w.heap.size = z := ⟨_, rfl⟩
  obtain ⟨w1, hw1⟩ : ∃ w1, (w.alloc (.cells X 26)).alloc (.cells #[.int .i64 0, .int .u8 0, .int .u8 0, .int .u8 0, .int .u8 0, .int .u8 0, .int .u8 0, .int .u8 0, .int .u8 0, .slice none 0 0, .int .i64 0, .int .i64 0, .int .i64 0] 44) = w1 := ⟨_, rfl⟩
  have hb1 : Below w.heap.size w w1 := hw1 ▸ (below_new w _).alloc (by simp) _
  have kx : Bk w1 z 26 l := hw1 ▸ (Bk.at_ w _ X hz (by rw [← hX])).alloc _
  have kr : Bk w1 (z + 1) 44 zLk' := hw1 ▸ Bk.at_ _ _ _ (by simp [hz]) rfl
  have HLM : Hid (∀ w' g', Bk w' g' 26 l → LkM w' g' L0 (.slice A N C)) := fun w' g' h' => by rw [← hl] at h'; exact lk_mem hh h'
  have HW := Lib.hid hw1; have HB1 := Lib.hid hb1; have HL1 := Lib.hid kx; have HR1 := Lib.hid kr; have HHO := Lib.hid hh; have HZ := Lib.hid hz; have HK0 := Lib.hid hk
  have HZH := Lib.hid (hdg_size _ hh); have hbr := build_rlk L0 hh
  have HKL : Hid (L0.ks.length = N) := hk.k.dgs hk.ko
  rw [hl, hX]
  clear hl hX hw1 hb1 kx kr hh hz hk
  go_enter Try.func16, Try.ntmps16
  go_upto_region 1 with fail
  rw [HW.out, HZ.out]
  have c0 := (HLM.out _ _ HL1.out).c0; have c10 := (HLM.out _ _ HL1.out).c10; have c11 := (HLM.out _ _ HL1.out).c11; have c12 := (HLM.out _ _ HL1.out).c12
  go_wp2_with (first
    | (with_reducible refine wpList_load_mid rfl 23 _ rfl z 1 rfl (dl L0.h) _ (HLM.out _ _ HL1.out).r1 Try.underlying23 rfl HZH.out ?_)
    | ((with_reducible refine wpList_build rfl 44 _ rfl #[(0, .int .i64 L0.k), (1, .agg (dl L0.h).toArray), (3, .int .i64 L0.s), (4, .int .i64 L0.c), (5, .int .i64 L0.u)] ?_ _ (hbr _) ?_); focus (simp [Act.eval, Act.put]; done))
    | (with_reducible refine stop_store 44 _ _ rfl ?_))
  clear hbr c0 c10 c11 c12
  refine StopD.go ?_
  obtain ⟨gl, hgl⟩ : ∃ q, w1.heap.size = q := ⟨_, rfl⟩
  obtain ⟨w2, hw2⟩ : ∃ w', w1.alloc (.cells #[.int .i64 0, .int .u8 0, .int .u8 0, .int .u8 0, .int .u8 0, .int .u8 0, .int .u8 0, .int .u8 0, .int .u8 0, .slice none 0 0, .int .i64 0, .int .i64 0, .int .i64 0] 44) = w' := ⟨_, rfl⟩
  have hbn : Below w1.heap.size w1 w2 := hw2 ▸ below_new w1 _
  have kt : Bk w2 gl 44 ([] ++ (zLk' ++ [])) := by rw [← hw2]; exact Bk.at_ w1 _ _ hgl rfl
  rw [hgl, hw2]
  refine wpList_store_part rfl 44 _ _ rfl gl 0 (.agg (lkC L0 (.slice none 0 0)).toArray) (lkC L0 (.slice none 0 0)) rfl rfl rfl 44 [] zLk' [] kt rfl (by rw [lkC_len HHO.out]; rfl) (rlk_sz HHO.out _) (lk_one _ _ _ _) ?_
  intro w3 hp
  have hbn : Below w1.heap.size w1 w3 := hbn.grown hp.only hbn.size (fun q' hq' => by injection hq' with hq'; omega)
  have HG3 : Hid (Bk w3 gl 44 (lkC L0 (.slice none 0 0))) := by show Bk _ _ _ _; have := hp.bk; simpa using this
  have HL3 := Lib.hid (HL1.out.later hbn); have HR3 := Lib.hid (HR1.out.later hbn); have HB3 := Lib.hid (below_then HB1.out hbn)
  have HGZ : Hid (z + 1 < gl ∧ w.heap.size ≤ gl) := by
    have h1 := HR1.out.lt
    have h2 := HB1.out.size
    show _ ∧ _
    omega
  clear hp hbn kt hgl hw2 HL1 HR1 HB1
  go_wp2_with fail
  go_loopw [4] (fun iv wr => ∃ (k : Nat) (P : Option Addr) (c : Nat), k ≤ N ∧ iv = .int .i64 k ∧ Hid (Bk wr z 26 l) ∧ Hid (Bk wr (z + 1) 44 zLk') ∧ Hid (Bk wr gl 44 (lkC L0 (.slice P k c))) ∧ Hid (wr.ownsRow w.heap.size 22 8 (.slice P k c) k (cellsD (L0.ks.take k))) ∧ Hid (Below w.heap.size w wr)) (fun iv _ => N - (intOf iv).toNat)
  case atStart => exact ⟨0, none, 0, Nat.zero_le _, rfl, HL3, HR3, HG3, World.ownsRow_nil _ _ _ _, HB3⟩
  case round =>
    clear HL3 HR3 HG3 HB3
    obtain ⟨k, P, c, hk, rfl, HLr, HRr, HGr, HOr, HBr⟩ := hrel
    have c9 := (HLM.out _ _ HLr.out).c9
    by_cases hlt : k < N
    · have hki : (k : Int) < N := by omega
      have hk0 : (0 : Int) ≤ k := by omega
      have hn1 := HK0.out.n
      obtain ⟨x, hx⟩ : ∃ x, L0.ks[k]? = some x := ⟨L0.ks[k]'(by rw [HKL.out]; omega), List.getElem?_eq_getElem _⟩
      have hxo : DgOk x := HK0.out.ko x (List.mem_of_getElem? hx)
      have hsl := (HK0.out.later HBr.out).k
      obtain ⟨b, o, rfl, hbl, _⟩ := hsl.spot (by omega) (by omega)
      have HRG := Lib.hid (sl_dgl hsl HK0.out.ko hx)
      have HRB : Hid (b < w.heap.size) := by
        obtain ⟨b', o', e, h1, _⟩ := HK0.out.k.spot (by omega) (by omega)
        injection e with e; injection e with e e'; show b < _; rw [e]; exact h1
      have HXO := Lib.hid hxo; have HXS := Lib.hid (hdg_size _ hxo); have HCD := Lib.hid (cellsD_snoc hx)
      clear hx hxo hsl hbl
      go_upto_region 5 with fail
      clear c9
      have hbd : Below wr.heap.size wr wr.drew := below_draws wr wr.heap.size 1
      refine wp_region_L [(10, fun w' => Bk w' z 26 l ∧ Bk w' gl 44 (lkC L0 (.slice P k c)) ∧ w'.rangeAt b (o + k * 8) (dl x))] (by kernel_rfl) ⟨fun _ => ⟨HLr.out.later hbd, HGr.out.later hbd, rng_later HRG.out hbd (by have := HRB.out; have := HBr.out.size; omega)⟩, trivial⟩ (fun hHeld => ?_)
      obtain ⟨wa, hwa⟩ : ∃ wa, wr.drew = wa := ⟨_, rfl⟩
      rw [hwa] at hbd hHeld ⊢
      have HLa := Lib.hid (HLr.out.later hbd); have HRa := Lib.hid (HRr.out.later hbd); have HGa := Lib.hid (HGr.out.later hbd); have HOa := Lib.hid (own_keep HOr.out hbd); have HBa := Lib.hid (below_then HBr.out hbd); have HRGa := Lib.hid (rng_later HRG.out hbd (by have := HRB.out; have := HBr.out.size; omega))
      clear hwa hbd HLr HRr HGr HOr HBr HRG
      refine wpAnyL_take0 (i := 0) (v := ?_) rfl (by kernel_rfl) (by kernel_rfl) (by kernel_rfl) (by rfl) (fun _ _ _ h => h) (Or.inl ⟨by rfl, ?_⟩) hHeld ?_
      rotate_left
      · intro w _
        go_simp
        try with_reducible rfl
      clear hHeld
      intro hHeld
      try simp only [Act.put, List.setIfInBounds_toArray, List.set_cons_zero, List.set_cons_succ, List.getElem_toArray, List.getElem_cons_zero, List.getElem_cons_succ]
      refine wpAnyL_take0 (i := 2) (v := ?_) rfl (by kernel_rfl) (by kernel_rfl) (by kernel_rfl) (by rfl) (fun _ _ _ h => h) (Or.inl ⟨by rfl, ?_⟩) hHeld ?_
      rotate_left
      · intro w _
        go_simp
        try with_reducible rfl
      clear hHeld
      intro hHeld
      try simp only [Act.put, List.setIfInBounds_toArray, List.set_cons_zero, List.set_cons_succ, List.getElem_toArray, List.getElem_cons_zero, List.getElem_cons_succ]
      refine wpAnyL_take0 (i := 4) (v := ?_) rfl (by kernel_rfl) (by kernel_rfl) (by kernel_rfl) (by rfl) (fun _ _ _ h => h) (Or.inl ⟨by rfl, ?_⟩) hHeld ?_
      rotate_left
      · intro w _
        go_simp
        try with_reducible rfl
      clear hHeld
      intro hHeld
      try simp only [Act.put, List.setIfInBounds_toArray, List.set_cons_zero, List.set_cons_succ, List.getElem_toArray, List.getElem_cons_zero, List.getElem_cons_succ]
      refine wpAnyL_take (i := 1) 0 rfl rfl (by kernel_rfl) (by kernel_rfl) (by kernel_rfl) (by kernel_rfl) (by kernel_rfl) (by rfl) (fun _ _ _ h => h) (v := ?_) (Or.inl ⟨by rfl, ?_⟩) hHeld ?_
      rotate_left
      · intro w hSw
        have hcell := (lk_mem HHO.out hSw.2.1).c9
        clear hSw
        go_simp
        try with_reducible rfl
      clear hHeld
      intro hHeld
      try simp only [Act.put, List.setIfInBounds_toArray, List.set_cons_zero, List.set_cons_succ, List.getElem_toArray, List.getElem_cons_zero, List.getElem_cons_succ]
      refine wpAnyL_take (i := 3) 0 rfl rfl (by kernel_rfl) (by kernel_rfl) (by kernel_rfl) (by kernel_rfl) (by kernel_rfl) (by rfl) (fun _ _ _ h => h) (v := ?_) (Or.inl ⟨by rfl, ?_⟩) hHeld ?_
      rotate_left
      · intro w hSw
        have hcell := (HLM.out _ _ hSw.1).c9
        clear hSw
        go_simp
        try with_reducible rfl
      clear hHeld
      intro hHeld
      try simp only [Act.put, List.setIfInBounds_toArray, List.set_cons_zero, List.set_cons_succ, List.getElem_toArray, List.getElem_cons_zero, List.getElem_cons_succ]
      refine wpAnyL_take0 (i := 5) (v := ?_) rfl (by kernel_rfl) (by kernel_rfl) (by kernel_rfl) (by rfl) (fun _ _ _ h => h) (Or.inl ⟨by rfl, ?_⟩) hHeld ?_
      rotate_left
      · intro w _
        go_simp
        try with_reducible rfl
      clear hHeld
      intro hHeld
      try simp only [Act.put, List.setIfInBounds_toArray, List.set_cons_zero, List.set_cons_succ, List.getElem_toArray, List.getElem_cons_zero, List.getElem_cons_succ]
      refine wpAnyL_take (i := 6) 0 rfl rfl (by kernel_rfl) (by kernel_rfl) (by kernel_rfl) (by kernel_rfl) (by kernel_rfl) (by rfl) (fun _ _ _ h => h) (v := .agg (List.toArray (dl x))) (yieldsIf_load_mid (by rfl) _ _ rfl _ _ rfl (dl x) _ (fun w hSw => hSw.2.2) Try.underlying23 rfl (HXS.out)) hHeld ?_
      clear hHeld
      intro hHeld
      try simp only [Act.put, List.setIfInBounds_toArray, List.set_cons_zero, List.set_cons_succ, List.getElem_toArray, List.getElem_cons_zero, List.getElem_cons_succ]
      refine wpAnyL_ready (rs := [7]) (by kernel_rfl) (by simp) ?_
      refine AllReadyL.cons rfl (fun K hK => ?_) AllReadyL.nil
      rw [if_pos (by rfl)]
      refine wp_bslice _ 1 _ rfl #[(0, .agg (dl x).toArray)] (by simp [Act.eval]) _ _ (bs_a1 HXO.out _) ?_
      obtain ⟨wb, hwb⟩ : ∃ w7, wa.alloc (.cells (dl x).toArray 22) = w7 := ⟨_, rfl⟩
      obtain ⟨q7, hq7⟩ : ∃ q, wa.heap.size = q := ⟨_, rfl⟩
      have hbn : Below wa.heap.size wa wb := hwb ▸ below_new wa _
      have HQ7 : Hid (Bk wb q7 22 (dl x)) := by show Bk _ _ _ _; rw [← hwb]; exact Bk.at_ wa _ _ hq7 rfl
      rw [hwb, hq7]
      clear hwb hq7
      have HLb := Lib.hid (HLa.out.later hbn); have HRb := Lib.hid (HRa.out.later hbn); have HGb := Lib.hid (HGa.out.later hbn); have HOb := Lib.hid (own_keep HOa.out hbn); have HBb := Lib.hid (below_then HBa.out hbn); have HRGb := Lib.hid (rng_later HRGa.out hbn (by have := HRB.out; have := HBa.out.size; omega))
      clear hbn HLa HRa HGa HOa HBa HRGa
      refine hK.out _ _ ⟨fun _ => ⟨HLb.out, HGb.out, HRGb.out⟩, trivial⟩ (fun hHeld => ?_)
      clear hK K
      try simp only [Act.put, List.setIfInBounds_toArray, List.set_cons_zero, List.set_cons_succ, List.getElem_toArray, List.getElem_cons_zero, List.getElem_cons_succ]
      refine wpAnyL_ready (rs := [8]) (by kernel_rfl) (by simp) ?_
      refine AllReadyL.cons rfl (fun K hK => ?_) AllReadyL.nil
      rw [if_pos (by rfl)]
      obtain ⟨i0, z0', hi, hi0, hi1, hi2, hi3⟩ := a8_parts
      refine wp_app _ (.tmp 24) (.tmp 30) 42 rfl w.heap.size 22 i0 z0' 8 8 Try.underlying42 hi hi0 hi1 hi2 hi3 (by decide) _ _ _ rfl HOb.out _ _ _ _ _ rfl (Sl.of_own (HQ7.out.own (base := 0) (size := 8) (cap := 1) (n := 1) (Nat.zero_le _) (Nat.le_refl _) (by omega) (by rw [dl_len, HXO.out.len]) (by rw [List.take_of_length_le (by rw [dl_len, HXO.out.len]; exact Nat.le_refl _)]))) (dl_one' _) (by unfold maxLen; omega) (by omega) HBb.out.size ?_
      intro v9 wc hown hg hat
      rw [← HCD.out] at hown
      obtain ⟨P9, c9, h9⟩ := own_form hown
      subst h9
      have HLc := Lib.hid (HLb.out.grown hg (Ne.symm (own_bk_ne HOb.out HLb.out (by decide)))); have HRc := Lib.hid (HRb.out.grown hg (Ne.symm (own_bk_ne HOb.out HRb.out (by decide)))); have HGc := Lib.hid (HGb.out.grown hg (Ne.symm (own_bk_ne HOb.out HGb.out (by decide)))); have HBc := Lib.hid (grown_below HBb.out HOb.out hg (Nat.le_refl _) HBb.out.size); have HOc := Lib.hid hown
      have hgb : Below w.heap.size wb wc := grown_below (Below.refl _ _) HOb.out hg (Nat.le_refl _) HBb.out.size
      have HRGc := Lib.hid (rng_later HRGb.out hgb HRB.out)
      clear hown hg hat hi hi0 hi1 hi2 hi3 HLb HRb HGb HOb HBb HRGb hgb
      refine hK.out _ _ ⟨fun _ => ⟨HLc.out, HGc.out, HRGc.out⟩, trivial⟩ (fun hHeld => ?_)
      clear hK K
      try simp only [Act.put, List.setIfInBounds_toArray, List.set_cons_zero, List.set_cons_succ, List.getElem_toArray, List.getElem_cons_zero, List.getElem_cons_succ]
      refine wpAnyL_take0 (i := 9) (v := ?_) rfl (by kernel_rfl) (by kernel_rfl) (by kernel_rfl) (by rfl) (fun _ _ _ h => h) (Or.inl ⟨by rfl, ?_⟩) hHeld ?_
      rotate_left
      · intro w _
        go_simp
        try with_reducible rfl
      clear hHeld
      intro hHeld
      try simp only [Act.put, List.setIfInBounds_toArray, List.set_cons_zero, List.set_cons_succ, List.getElem_toArray, List.getElem_cons_zero, List.getElem_cons_succ]
      refine wpAnyL_ready (rs := [10]) (by kernel_rfl) (by simp) ?_
      refine AllReadyL.cons rfl (fun K hK => ?_) AllReadyL.nil
      rw [if_pos (by rfl)]
      refine wp_store_part _ _ _ rfl gl 9 _ ([.slice P9 (k + 1) c9]) rfl rfl rfl _ (.int .i64 L0.k :: dl L0.h) ([.slice P k c]) ([.int .i64 L0.s, .int .i64 L0.c, .int .i64 L0.u]) (by have := HGc.out; simpa [lkC] using this) (by simp [dl_len, HHO.out.len]) rfl (by kernel_rfl) (by simp [Value.oneCell']) ?_
      intro wd hp
      refine hK.out _ _ ⟨fun h => dead h (by kernel_rfl), trivial⟩ (fun hHeld => ?_)
      clear hK K
      try simp only [Act.put, List.setIfInBounds_toArray, List.set_cons_zero, List.set_cons_succ, List.getElem_toArray, List.getElem_cons_zero, List.getElem_cons_succ]
      refine wpAnyL_done (by kernel_rfl) ?_ _
      clear hHeld
      have HGd : Hid (Bk wd gl 44 (lkC L0 (.slice P9 (k + 1) c9))) := by show Bk _ _ _ _; have := hp.bk; simpa [lkC] using this
      have HLd := Lib.hid (HLc.out.grown hp.only (by intro e; injection e with e; have := HGZ.out; omega)); have HRd := Lib.hid (HRc.out.grown hp.only (by intro e; injection e with e; have := HGZ.out; omega))
      have HOd := Lib.hid (own_only HOc.out hp.only (own_bk_ne HOc.out HGc.out (by decide)))
      have HBd := Lib.hid (below_only HBc.out hp.only HBc.out.size HGZ.out.2)
      clear hp HLc HRc HGc HOc HBc HRGc
      go_wp2_with fail
      go_roundw
      case rel => exact ⟨k + 1, P9, c9, hlt, by go_num, HLd, HRd, HGd, HOd, HBd⟩
      case measure => simp [intOf]; omega
    · have hki : ¬ ((k : Int) < N) := by omega
      obtain rfl : N = k := by omega
      go_wp2_with (first
        | (with_reducible refine wpList_load_bk rfl 44 _ rfl gl rfl (lkC L0 (.slice P N c)) 44 HGr.out _ Try.underlying44 rfl (rlk_sz HHO.out _) ?_)
        | (with_reducible refine stop_store 44 _ _ rfl ?_))
      refine StopD.go ?_
      refine wpList_store_part rfl 44 _ _ rfl (z + 1) 0 (.agg (lkC L0 (.slice P N c)).toArray) (lkC L0 (.slice P N c)) rfl rfl rfl 44 [] zLk' [] (by simpa using HRr.out) rfl (by rw [lkC_len HHO.out]; rfl) (rlk_sz HHO.out _) (lk_one _ _ _ _) ?_
      intro w9 hp
      have HR9 : Hid (Bk w9 (z + 1) 44 (lkC L0 (.slice P N c))) := by show Bk _ _ _ _; have := hp.bk; simpa using this
      have HB9 := Lib.hid (below_only HBr.out hp.only HBr.out.size (by rw [HZ.out]; exact Nat.le_succ z))
      have HO9 := Lib.hid (own_only HOr.out hp.only (own_bk_ne HOr.out HRr.out (by decide)))
      clear hp
      go_wp2_with fail
      refine bodyPost_ret (lplain_ret HR9.out (rlk_sz HHO.out _) _ rfl) rfl ?_
      refine ⟨P, c, rfl, ?_, HB9.out⟩
      have := HO9.out
      rwa [List.take_of_length_le (by rw [HKL.out]; exact Nat.le_refl _)] at this
def overI (L : LkT) (pay : Int) : Int := if L.k = 0 then L.c else max (L.c - pay) 0
set_option maxRecDepth 20000 in
set_option maxHeartbeats 2000000 in
theorem over_any (w : World) (L : LkT) (hh : DgOk L.h) (A : Option Addr) (N C : Nat) (pay : Int) (h0 : 0 ≤ L.c) (h1 : L.c ≤ 1125899906842624) (h2 : 0 ≤ pay) (h3 : pay ≤ 1125899906842624) :
    Calls Try.prog 15 #[.agg (lkC L (.slice A N C)).toArray, .int .i64 pay] w fun e w' => e = .returned (.int .i64 (overI L pay)) ∧ Below w.heap.size w w' := by
  obtain ⟨L0, hL0⟩ : ∃ x, L = x := ⟨_, rfl⟩
  rw [hL0] at hh h0 h1 ⊢
  clear hL0 L
  obtain ⟨X, hX⟩ : ∃ X, (lkC L0 (.slice A N C)).toArray = X := ⟨_, rfl⟩
  obtain ⟨w1, hw1⟩ : ∃ w1, w.alloc (.cells X 44) = w1 := ⟨_, rfl⟩
  have HB : Hid (Below w.heap.size w w1) := hw1 ▸ below_new w _
  have kx : Bk w1 w.heap.size 44 (lkC L0 (.slice A N C)) := hw1 ▸ Bk.new' w _ X (by rw [← hX])
  have HW := Lib.hid hw1
  have c0 := (lk_mem hh kx).c0; have c11 := (lk_mem hh kx).c11
  have HOV : Hid (overI L0 pay = if L0.k = 0 then L0.c else max (L0.c - pay) 0) := rfl
  obtain ⟨R, hR⟩ : ∃ R, overI L0 pay = R := ⟨_, rfl⟩
  rw [hR] at HOV ⊢
  rw [hX]
  obtain ⟨lk, hlk⟩ : ∃ x, L0.k = x := ⟨_, rfl⟩
  obtain ⟨lc, hlc⟩ : ∃ x, L0.c = x := ⟨_, rfl⟩
  rw [hlk] at c0 HOV
  rw [hlc] at c11 HOV h0 h1
  have hwr : IntKind.i64.wrap (lc - pay) = lc - pay := by rw [IntWalk.i64_in]; omega
  have hw6 : wrap64 (lc - pay) = lc - pay := IntWalk.wrap64_in _ (by omega)
  clear hX hw1 kx hh hR hlk hlc
  by_cases hk : lk = 0
  · have hk1 : (lk == 0) = true := by simpa using hk
    have HR : Hid (R = lc) := by show _ = _; rw [HOV.out, if_pos hk]
    clear hk
    go_enter Try.func15, Try.ntmps15
    go_upto_region 1 with fail
    rw [HW.out]
    go_wp2_with fail
    go_ret
    exact ⟨by rw [HR.out]; rfl, HB.out⟩
  · have hk1 : (lk == 0) = false := by simpa using hk
    have HR : Hid (R = max (lc - pay) 0) := by show _ = _; rw [HOV.out, if_neg hk]
    clear hk
    go_enter Try.func15, Try.ntmps15
    go_upto_region 1 with fail
    rw [HW.out]
    go_wp2_with fail
    all_goals
      go_ret
      refine ⟨?_, HB.out⟩
      rw [HR.out]
      first
        | rfl
        | (rw [show max (lc - pay) 0 = lc - pay by omega]; rfl)
        | (rw [show max (lc - pay) 0 = 0 by omega]; rfl)
end Go.Proofs.Ytbclfjdamklbpaa
