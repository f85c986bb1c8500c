/- BlockSame: the walk. (Printed by tools/mkXBJ.py out of tools/XBJ.body.) -/
import Derived.Test.YtbpmomedhdmloaaDoorBK
namespace Go.Proofs.YtbpmomedhdmloaaDoor
set_option linter.unusedSimpArgs false
set_option linter.unusedVariables false
open Go.RowKit Go.Maps

theorem txs_later {w w' : World} {A : Option Addr} {N : Nat} {L : List TxT} (h : ∃ xs, Txs w A N xs ∧ xs.map (·.2) = L) (hb : Below w.heap.size w w') : ∃ xs, Txs w' A N xs ∧ xs.map (·.2) = L := by
  obtain ⟨xs, hx, e⟩ := h
  exact ⟨xs, hx.later hb, e⟩
/-- Two blocks made out of two. -/
structure TwoB (w0 w : World) (gX gY : Nat) (p : List Int) (h : Int) (m : List Int) (A1 : Option Addr) (N c1 : Nat) (L : List TxT) (p' : List Int) (h' : Int) (m' : List Int) (A2 : Option Addr) (N' c2 : Nat) (L' : List TxT) : Prop where
  x : BkAt w gX p h m A1 N c1 L
  y : BkAt w gY p' h' m' A2 N' c2 L'
  bl : Below w0.heap.size w0 w
theorem BkAt.same {w : World} {g g' : Nat} {p p' : List Int} {h h' : Int} {m m' : List Int} {A A' : Option Addr} {N C N' C' : Nat} {L L' : List TxT} (k : BkAt w g p h m A N C L) (k' : BkAt w g' p' h' m' A' N' C' L') (hp : DgOk p) (hm : DgOk m) (hp' : DgOk p') (hm' : DgOk m') :
    Calls Tryd.prog 19 #[.agg (bkC p h m (.slice A N C)).toArray, .agg (bkC p' h' m' (.slice A' N' C')).toArray] w fun e w' => e = .returned (.bool (sameB p h m L p' h' m' L')) ∧ Below w.heap.size w w' := by
  obtain ⟨b, xs, hx, e⟩ := k
  obtain ⟨b', ys, hy, e'⟩ := k'
  rw [← e, ← e']
  exact bSame_any w p h m hp hm A N C xs hx p' h' m' hp' hm' A' N' C' ys hy
theorem ms_step2 {N q : Nat} (h : q < N) : N - (intOf (Value.int .i64 ((q : Int) + 1))).toNat < N - (intOf (Value.int .i64 (q : Int))).toNat := by
  simp only [intOf]
  omega
theorem sameB_refl (p : List Int) (h : Int) (m : List Int) (L : List TxT) : sameB p h m L p h m L = true := by unfold sameB; simp [eqL_self, sameL_refl]
set_option maxRecDepth 20000 in
set_option maxHeartbeats 16000000 in
theorem bsame_law (w : World) (p : List Int) (h : Int) (m : List Int) (hp : DgOk p) (hm : DgOk m) (A : Option Addr) (N C : Nat) (xs : List (List Value × TxT)) (hx : Txs w A N xs)
    (hl : ∀ x ∈ xs, x.2.b.length ≤ 140737488355328 ∧ x.2.s.length ≤ 140737488355328)
    (p' : List Int) (h' : Int) (m' : List Int) (hp' : DgOk p') (hm' : DgOk m') (A' : Option Addr) (N' C' : Nat) (ys : List (List Value × TxT)) (hy : Txs w A' N' ys)
    (hl' : ∀ x ∈ ys, x.2.b.length ≤ 140737488355328 ∧ x.2.s.length ≤ 140737488355328) :
    Calls Tryd.prog 5 #[.agg (bkC p h m (.slice A N C)).toArray, .agg (bkC p' h' m' (.slice A' N' C')).toArray] w fun e w' => e = .returned (.bool true) ∧ Below w.heap.size w w' := by
  have HFW := Lib.hid (fun w' (hx' : Txs w' A N xs) => few_any w' p h m hp hm A N C xs hx' hl)
  have HFW' := Lib.hid (fun w' (hx' : Txs w' A' N' ys) => few_any w' p' h' m' hp' hm' A' N' C' ys hx' hl')
  have HOA := Lib.hid (fun (hN : N ≤ 1000) w' (hx' : Txs w' A N xs) => of_any w' p h m hp hm A N C xs hx' hN)
  have HOB := Lib.hid (fun (hN : N' ≤ 1000) w' (hx' : Txs w' A' N' ys) => of_any w' p' h' m' hp' hm' A' N' C' ys hx' hN)
  have HRS := Lib.hid (fun w' (hx' : Txs w' A N xs) (hy' : Txs w' A' N' ys) => rbSame_any w' p h m hp hm A N C xs hx' p' h' m' hp' hm' A' N' C' ys hy')
  have HRT := Lib.hid (fun w' (B : Option Addr) (M D : Nat) (zs : List (List Value × TxT)) (hz' : Txs w' B M zs) (hx' : Txs w' A N xs) => rbSame_any w' p h m hp hm B M D zs hz' p h m hp hm A N C xs hx')
  have HF0 := Lib.hid (bk_fit (h := h) (A := A) (N := N) (C := C) hp hm); have HF0' := Lib.hid (bk_fit (h := h') (A := A') (N := N') (C := C') hp' hm')
  obtain ⟨L, hL⟩ : ∃ L, xs.map (·.2) = L := ⟨_, rfl⟩
  obtain ⟨L', hL'⟩ : ∃ L, ys.map (·.2) = L := ⟨_, rfl⟩
  have HLN : Hid (L.length = N) := by show _ = _; rw [← hL, List.length_map, hx.length]
  have HLN' : Hid (L'.length = N') := by show _ = _; rw [← hL', List.length_map, hy.length]
  rw [hL] at HFW HRS HRT; rw [hL'] at HFW' HRS
  have HLL := Lib.hid hL; have HLL' := Lib.hid hL'
  obtain ⟨l, hl0⟩ : ∃ x, bkC p h m (.slice A N C) = x := ⟨_, rfl⟩
  obtain ⟨X, hX⟩ : ∃ X, l.toArray = X := ⟨_, rfl⟩
  obtain ⟨l', hl0'⟩ : ∃ x, bkC p' h' m' (.slice A' N' C') = x := ⟨_, rfl⟩
  obtain ⟨Y, hY⟩ : ∃ X, l'.toArray = X := ⟨_, rfl⟩
  obtain ⟨z, hz⟩ : ∃ z, w.heap.size = z := ⟨_, rfl⟩
  obtain ⟨w1, hw1⟩ : ∃ w1, (w.alloc (.cells X 25)).alloc (.cells Y 25) = w1 := ⟨_, rfl⟩
  have hb1 : Below w.heap.size w w1 := hw1 ▸ (below_new w _).alloc (by simp) _
  have kx : Bk w1 z 25 l := hw1 ▸ (Bk.at_ w _ X hz (by rw [← hX])).alloc _
  have ky : Bk w1 (z + 1) 25 l' := hw1 ▸ Bk.at_ _ _ Y (by simp [hz]) (by rw [← hY])
  have hsz1 : w1.heap.size = z + 2 := by rw [← hw1]; simp [hz]
  have HM : Hid (∀ w' g', Bk w' g' 25 l → BkcM w' g' p h m (.slice A N C)) := fun w' g' k => by rw [← hl0] at k; exact bkc_mem hp hm k
  have HW := Lib.hid hw1; have HBB1 := Lib.hid hb1; have HZ := Lib.hid hz; have HK1 := Lib.hid kx; have HJ1 := Lib.hid ky; have HPO := Lib.hid hp; have HMO := Lib.hid hm; have HPO' := Lib.hid hp'; have HMO' := Lib.hid hm'; have HXE := Lib.hid hX; have HYE := Lib.hid hY
  have HX1 := Lib.hid (hx.later hb1); have HY1 := Lib.hid (hy.later hb1)
  rw [hl0] at HFW HOA HRS HF0 HRT ⊢
  rw [hl0'] at HFW' HOB HRS HF0' ⊢
  rw [hX] at HFW HOA HRS HRT ⊢
  rw [hY] at HFW' HOB HRS ⊢
  clear hL hL' hl0 hX hl0' hY hz hw1 hb1 kx ky hp hm hp' hm' hx hy hl hl'
  go_enter Tryd.func5, Tryd.ntmps5
  go_upto_region 1 with fail
  rw [HW.out, HZ.out]
  go_wp2_with fail
  refine (known_any w1).mono ?_
  rintro e w2 ⟨rfl, hbn⟩
  have HZ2 : Hid (z + 2 ≤ w2.heap.size) := by have := hbn.size; show z + 2 ≤ _; omega
  have HBB2 := Lib.hid (below_then HBB1.out hbn)
  have HK2 := Lib.hid (HK1.out.later hbn)
  have HJ2 := Lib.hid (HJ1.out.later hbn)
  have HX2 := Lib.hid (HX1.out.later hbn)
  have HY2 := Lib.hid (HY1.out.later hbn)
  clear hbn
  clear hsz1
  go_wp2_with ((with_reducible refine wpList_load_bkG2 ?_ 25 _ rfl z rfl l 25 HK2.out _ Tryd.underlying25 rfl HF0.out.rsize ?_); rfl)
  rw [HXE.out]
  refine (HFW.out w2 HX2.out).mono ?_
  rintro e wa ⟨rfl, hbn⟩
  have HZa : Hid (z + 2 ≤ wa.heap.size) := Nat.le_trans HZ2.out hbn.size
  have HBBa := Lib.hid (below_then HBB2.out hbn)
  have HKa := Lib.hid (HK2.out.later hbn)
  have HJa := Lib.hid (HJ2.out.later hbn)
  have HXa := Lib.hid (HX2.out.later hbn)
  have HYa := Lib.hid (HY2.out.later hbn)
  clear hbn
  obtain ⟨fw, hfw⟩ : ∃ b, fewT L = b := ⟨_, rfl⟩
  rw [hfw]
  have HFE := Lib.hid hfw
  clear hfw HK1 HK2 HJ1 HJ2 HX1 HX2 HY1 HY2
  cases fw
  · go_wp2_with fail
    refine (known_any wa).mono ?_
    rintro e w4 ⟨rfl, hbn⟩
    go_wp2_with fail
    go_ret
    exact ⟨rfl, below_then HBBa.out hbn⟩
  go_wp2_with ((with_reducible refine wpList_load_bkG2 ?_ 25 _ rfl (z + 1) rfl l' 25 HJa.out _ Tryd.underlying25 rfl HF0'.out.rsize ?_); rfl)
  rw [HYE.out]
  refine (HFW'.out wa HYa.out).mono ?_
  rintro e w3 ⟨rfl, hbn⟩
  have HZW : Hid (z + 2 ≤ w3.heap.size) := Nat.le_trans HZa.out hbn.size
  have HBB3 := Lib.hid (below_then HBBa.out hbn)
  have HK3 := Lib.hid (HKa.out.later hbn)
  have HJ3 := Lib.hid (HJa.out.later hbn)
  have HX3 := Lib.hid (HXa.out.later hbn)
  have HY3 := Lib.hid (HYa.out.later hbn)
  clear hbn
  obtain ⟨fw, hfw⟩ : ∃ b, fewT L' = b := ⟨_, rfl⟩
  rw [hfw]
  have HFE' := Lib.hid hfw
  clear hfw HKa HJa HXa HYa
  cases fw
  · go_wp2_with fail
    refine (known_any w3).mono ?_
    rintro e w4 ⟨rfl, hbn⟩
    go_wp2_with fail
    go_ret
    exact ⟨rfl, below_then HBB3.out hbn⟩
  have HN : Hid (N ≤ 66) := by have := few_len HFE.out; rw [HLN.out] at this; exact this
  have HN' : Hid (N' ≤ 66) := by have := few_len HFE'.out; rw [HLN'.out] at this; exact this
  have HEA := Lib.hid (few_each HFE.out)
  have HOA := Lib.hid (HOA.out (by have := HN.out; omega)); have HOB := Lib.hid (HOB.out (by have := HN'.out; omega))
  go_wp2_with fail
  go_cut [5, 6] (fun p1 p2 wx => ∃ gX gY P1 P3 q1 q3, p1 = .pointer (some ⟨gX, 0, none⟩) ∧ p2 = .pointer (some ⟨gY, 0, none⟩) ∧ TwoB w3 wx gX gY p h m P1 N q1 L p' h' m' P3 N' q3 L')
  case first =>
    refine wp_region_held_drew (S := fun w' => Bk w' z 25 l ∧ Bk w' (z + 1) 25 l') (by kernel_rfl) ⟨Bk.drew HK3.out, Bk.drew HJ3.out⟩ (fun hHeld => ?_)
    have hbd : Below w3.heap.size w3 w3.drew := below_draws w3 w3.heap.size 1
    obtain ⟨y0, hy0⟩ : ∃ wa, w3.drew = wa := ⟨_, rfl⟩
    rw [hy0] at hbd hHeld ⊢
    have HBy0 := Lib.hid hbd; have HKy0 := Lib.hid (HK3.out.later hbd); have HXy0 := Lib.hid (HX3.out.later hbd); have HYy0 := Lib.hid (HY3.out.later hbd); have HJy0 := Lib.hid (HJ3.out.later hbd)
    clear hy0 hbd
    refine wpAnyH_take (i := 0) (v := .agg (List.toArray (l))) rfl (by kernel_rfl) (by kernel_rfl) (by kernel_rfl) (fun _ _ _ h => h) (yieldsIf_load_mid (by rfl) _ _ rfl _ _ rfl (l) _ (fun w hSw => (Bk.range (pre := []) (post := []) (by simpa using hSw.1) rfl)) Tryd.underlying25 rfl (HF0.out.rsize)) (by assumption) ?_
    try simp only [Act.put, List.setIfInBounds_toArray, List.set_cons_zero, List.set_cons_succ, List.getElem_toArray, List.getElem_cons_zero, List.getElem_cons_succ]
    refine wpAnyH_take (i := 2) (v := .agg (List.toArray (l'))) rfl (by kernel_rfl) (by kernel_rfl) (by kernel_rfl) (fun _ _ _ h => h) (yieldsIf_load_mid (by rfl) _ _ rfl _ _ rfl (l') _ (fun w hSw => (Bk.range (pre := []) (post := []) (by simpa using hSw.2) rfl)) Tryd.underlying25 rfl (HF0'.out.rsize)) (by assumption) ?_
    try simp only [Act.put, List.setIfInBounds_toArray, List.set_cons_zero, List.set_cons_succ, List.getElem_toArray, List.getElem_cons_zero, List.getElem_cons_succ]
    as_aux_lemma =>
    refine wpAnyH_ready (rs := [1, 4, 5]) (by kernel_rfl) (by simp) ?_
    refine (AllReadyH.cons rfl (fun K hK => ?_) (AllReadyH.cons rfl (fun K hK => ?_) (AllReadyH.cons rfl (fun K hK => ?_) AllReadyH.nil)))
    ·
      go_simp
      rw [HXE.out]
      refine (HOA.out y0 HXy0.out).mono ?_
      rintro e y1a ⟨⟨v1, rfl, hown⟩, hbn⟩
      obtain ⟨P1, q1, rfl⟩ := own_form hown
      obtain ⟨y1, hy⟩ : ∃ y, y1a = y := ⟨_, rfl⟩
      have hbd : Below y1a.heap.size y1a y1 := hy ▸ Below.refl _ _
      have hsl := own_base (own_keep hown hbd) HBy0.out.size
      have hbn := below_then hbn hbd
      have HBy1 := Lib.hid (below_then HBy0.out hbn); have HKy1 := Lib.hid (HKy0.out.later hbn); have HJy1 := Lib.hid (HJy0.out.later hbn); have HXy1 := Lib.hid (HXy0.out.later hbn); have HYy1 := Lib.hid (HYy0.out.later hbn)
      have HO1y1 := Lib.hid hsl
      rw [hy]
      refine hK.out _ _ ⟨HKy1.out, HJy1.out⟩ (fun hHeld => ?_)
      clear hK K hown hbn hbd hy hsl
      try simp only [Act.put, List.setIfInBounds_toArray, List.set_cons_zero, List.set_cons_succ, List.getElem_toArray, List.getElem_cons_zero, List.getElem_cons_succ]
      refine wpAnyH_ready (rs := [3, 4, 5]) (by kernel_rfl) (by simp) ?_
      refine (AllReadyH.cons rfl (fun K hK => ?_) (AllReadyH.cons rfl (fun K hK => ?_) (AllReadyH.cons rfl (fun K hK => ?_) AllReadyH.nil)))
      ·
        go_simp
        rw [HYE.out]
        refine (HOB.out y1 HYy1.out).mono ?_
        rintro e y2a ⟨⟨v3, rfl, hown⟩, hbn⟩
        obtain ⟨P3, q3, rfl⟩ := own_form hown
        obtain ⟨y2, hy⟩ : ∃ y, y2a = y := ⟨_, rfl⟩
        have hbd : Below y2a.heap.size y2a y2 := hy ▸ Below.refl _ _
        have hsl := own_base (own_keep hown hbd) HBy1.out.size
        have hbn := below_then hbn hbd
        have HBy2 := Lib.hid (below_then HBy1.out hbn); have HKy2 := Lib.hid (HKy1.out.later hbn); have HJy2 := Lib.hid (HJy1.out.later hbn); have HXy2 := Lib.hid (HXy1.out.later hbn); have HYy2 := Lib.hid (HYy1.out.later hbn)
        have HO1y2 := Lib.hid (own_keep HO1y1.out hbn)
        have HO3y2 := Lib.hid hsl
        rw [hy]
        refine hK.out _ _ ⟨HKy2.out, HJy2.out⟩ (fun hHeld => ?_)
        clear hK K hown hbn hbd hy hsl
        try simp only [Act.put, List.setIfInBounds_toArray, List.set_cons_zero, List.set_cons_succ, List.getElem_toArray, List.getElem_cons_zero, List.getElem_cons_succ]
        refine wpAnyH_ready (rs := [4, 5]) (by kernel_rfl) (by simp) ?_
        refine (AllReadyH.cons rfl (fun K hK => ?_) (AllReadyH.cons rfl (fun K hK => ?_) AllReadyH.nil))
        ·
          go_simp
          obtain ⟨g4, hg⟩ : ∃ g, y2.heap.size = g := ⟨_, rfl⟩
          obtain ⟨y3, hy⟩ : ∃ y, (y2.alloc (.cells #[.int .u8 0, .int .u8 0, .int .u8 0, .int .u8 0, .int .u8 0, .int .u8 0, .int .u8 0, .int .u8 0, .int .i64 0, .int .u8 0, .int .u8 0, .int .u8 0, .int .u8 0, .int .u8 0, .int .u8 0, .int .u8 0, .int .u8 0, .slice none 0 0] 31)) = y := ⟨_, rfl⟩
          have hbn : Below y2.heap.size y2 y3 := hy ▸ (below_new y2 _)
          have HBy3 := Lib.hid (below_then HBy2.out hbn); have HKy3 := Lib.hid (HKy2.out.later hbn); have HJy3 := Lib.hid (HJy2.out.later hbn); have HXy3 := Lib.hid (HXy2.out.later hbn); have HYy3 := Lib.hid (HYy2.out.later hbn)
          have HO1y3 := Lib.hid (own_keep HO1y2.out hbn)
          have HO3y3 := Lib.hid (own_keep HO3y2.out hbn)
          have HZ4y3 : Hid (Bk y3 g4 31 zBk) := hy ▸ (Bk.at_ y2 _ #[.int .u8 0, .int .u8 0, .int .u8 0, .int .u8 0, .int .u8 0, .int .u8 0, .int .u8 0, .int .u8 0, .int .i64 0, .int .u8 0, .int .u8 0, .int .u8 0, .int .u8 0, .int .u8 0, .int .u8 0, .int .u8 0, .int .u8 0, .slice none 0 0] hg rfl)
          have HG4 : Hid (w3.heap.size ≤ g4) := by show _ ≤ _; rw [← hg]; exact HBy2.out.size
          rw [hy, hg]
          refine hK.out _ _ ⟨HKy3.out, HJy3.out⟩ (fun hHeld => ?_)
          clear hK K hbn hy hg
          try simp only [Act.put, List.setIfInBounds_toArray, List.set_cons_zero, List.set_cons_succ, List.getElem_toArray, List.getElem_cons_zero, List.getElem_cons_succ]
          refine wpAnyH_ready (rs := [5]) (by kernel_rfl) (by simp) ?_
          refine (AllReadyH.cons rfl (fun K hK => ?_) AllReadyH.nil)
          go_simp
          obtain ⟨g5, hg⟩ : ∃ g, y3.heap.size = g := ⟨_, rfl⟩
          obtain ⟨y4, hy⟩ : ∃ y, (y3.alloc (.cells #[.int .u8 0, .int .u8 0, .int .u8 0, .int .u8 0, .int .u8 0, .int .u8 0, .int .u8 0, .int .u8 0, .int .i64 0, .int .u8 0, .int .u8 0, .int .u8 0, .int .u8 0, .int .u8 0, .int .u8 0, .int .u8 0, .int .u8 0, .slice none 0 0] 31)) = y := ⟨_, rfl⟩
          have hbn : Below y3.heap.size y3 y4 := hy ▸ (below_new y3 _)
          have HBy4 := Lib.hid (below_then HBy3.out hbn); have HKy4 := Lib.hid (HKy3.out.later hbn); have HJy4 := Lib.hid (HJy3.out.later hbn); have HXy4 := Lib.hid (HXy3.out.later hbn); have HYy4 := Lib.hid (HYy3.out.later hbn)
          have HO1y4 := Lib.hid (own_keep HO1y3.out hbn)
          have HO3y4 := Lib.hid (own_keep HO3y3.out hbn)
          have HZ4y4 := Lib.hid (HZ4y3.out.later hbn)
          have HZ5y4 : Hid (Bk y4 g5 31 zBk) := hy ▸ (Bk.at_ y3 _ #[.int .u8 0, .int .u8 0, .int .u8 0, .int .u8 0, .int .u8 0, .int .u8 0, .int .u8 0, .int .u8 0, .int .i64 0, .int .u8 0, .int .u8 0, .int .u8 0, .int .u8 0, .int .u8 0, .int .u8 0, .int .u8 0, .int .u8 0, .slice none 0 0] hg rfl)
          have HG5 : Hid (w3.heap.size ≤ g5) := by show _ ≤ _; rw [← hg]; exact HBy3.out.size
          have HNE : Hid (g4 ≠ g5) := by have := HZ4y3.out.lt; show g4 ≠ g5; omega
          rw [hy, hg]
          refine hK.out _ _ ⟨HKy4.out, HJy4.out⟩ (fun hHeld => ?_)
          clear hK K hbn hy hg
          try simp only [Act.put, List.setIfInBounds_toArray, List.set_cons_zero, List.set_cons_succ, List.getElem_toArray, List.getElem_cons_zero, List.getElem_cons_succ]
          as_aux_lemma =>
          have HF1 : Hid (BkFit (bkC p h m (.slice P1 N q1))) := bk_fit HPO.out HMO.out
          have HF3 : Hid (BkFit (bkC p' h' m' (.slice P3 N' q3))) := bk_fit HPO'.out HMO'.out
          refine wpAnyH_ready (rs := [6]) (by kernel_rfl) (by simp) ?_
          refine AllReadyH.cons rfl (fun K hK => ?_) AllReadyH.nil
          rw [if_pos (by rfl)]
          refine wp_store_part _ _ _ rfl g4 0 _ (bkC p h m (.slice P1 N q1)) rfl rfl rfl _ ([]) (zBk) ([]) (by simpa using HZ4y4.out) rfl (by rw [HF1.out.len]; rfl) HF1.out.size HF1.out.one ?_
          intro wd hp
          refine hK.out _ _ ⟨HKy4.out.grown hp.only (by intro e; injection e with e; have := HG4.out; have := HZW.out; omega), HJy4.out.grown hp.only (by intro e; injection e with e; have := HG4.out; have := HZW.out; omega)⟩ (fun hHeld => ?_)
          clear hK K
          try simp only [Act.put, List.setIfInBounds_toArray, List.set_cons_zero, List.set_cons_succ, List.getElem_toArray, List.getElem_cons_zero, List.getElem_cons_succ]
          have hb4 : Below w3.heap.size w3 wd := below_only HBy4.out hp.only HBy4.out.size HG4.out
          have k4 : Bk wd g4 31 (bkC p h m (.slice P1 N q1)) := by have := hp.bk; simpa using this
          have k5 : Bk wd g5 31 zBk := HZ5y4.out.grown hp.only (by intro e; injection e with e; have := HNE.out; omega)
          have kz : Bk wd z 25 l := HKy4.out.grown hp.only (by intro e; injection e with e; have := HG4.out; have := HZW.out; omega)
          have kj : Bk wd (z + 1) 25 l' := HJy4.out.grown hp.only (by intro e; injection e with e; have := HG4.out; have := HZW.out; omega)
          have o1 := own_only HO1y4.out hp.only (own_bk_ne HO1y4.out HZ4y4.out (by decide))
          have o3 := own_only HO3y4.out hp.only (own_bk_ne HO3y4.out HZ4y4.out (by decide))
          clear hp
          refine wpAnyH_ready (rs := [7]) (by kernel_rfl) (by simp) ?_
          refine AllReadyH.cons rfl (fun K hK => ?_) AllReadyH.nil
          rw [if_pos (by rfl)]
          refine wp_store_part _ _ _ rfl g5 0 _ (bkC p' h' m' (.slice P3 N' q3)) rfl rfl rfl _ ([]) (zBk) ([]) (by simpa using k5) rfl (by rw [HF3.out.len]; rfl) HF3.out.size HF3.out.one ?_
          intro we hp
          refine hK.out _ _ ⟨kz.grown hp.only (by intro e; injection e with e; have := HG5.out; have := HZW.out; omega), kj.grown hp.only (by intro e; injection e with e; have := HG5.out; have := HZW.out; omega)⟩ (fun hHeld => ?_)
          clear hK K
          try simp only [Act.put, List.setIfInBounds_toArray, List.set_cons_zero, List.set_cons_succ, List.getElem_toArray, List.getElem_cons_zero, List.getElem_cons_succ]
          have k5' := k5
          have hb5 : Below w3.heap.size w3 we := below_only hb4 hp.only hb4.size HG5.out
          have k5 : Bk we g5 31 (bkC p' h' m' (.slice P3 N' q3)) := by have := hp.bk; simpa using this
          have k4 : Bk we g4 31 (bkC p h m (.slice P1 N q1)) := k4.grown hp.only (by intro e; injection e with e; have := HNE.out; omega)
          have o1 := own_only o1 hp.only (own_bk_ne o1 k5' (by decide))
          have o3 := own_only o3 hp.only (own_bk_ne o3 k5' (by decide))
          clear hp
          refine wpAnyH_done rfl ?_ _
          go_wp2_with fail
          go_meet
          exact ⟨g4, g5, P1, P3, q1, q3, rfl, rfl, ⟨⟨k4, xs, ⟨Sl.of_own o1, fun x hx => (HX3.out.th x hx).later hb5⟩, HLL.out⟩, ⟨k5, ys, ⟨Sl.of_own o3, fun x hx => (HY3.out.th x hx).later hb5⟩, HLL'.out⟩, hb5⟩⟩
        ·
          go_simp
          obtain ⟨g5, hg⟩ : ∃ g, y2.heap.size = g := ⟨_, rfl⟩
          obtain ⟨y5, hy⟩ : ∃ y, (y2.alloc (.cells #[.int .u8 0, .int .u8 0, .int .u8 0, .int .u8 0, .int .u8 0, .int .u8 0, .int .u8 0, .int .u8 0, .int .i64 0, .int .u8 0, .int .u8 0, .int .u8 0, .int .u8 0, .int .u8 0, .int .u8 0, .int .u8 0, .int .u8 0, .slice none 0 0] 31)) = y := ⟨_, rfl⟩
          have hbn : Below y2.heap.size y2 y5 := hy ▸ (below_new y2 _)
          have HBy5 := Lib.hid (below_then HBy2.out hbn); have HKy5 := Lib.hid (HKy2.out.later hbn); have HJy5 := Lib.hid (HJy2.out.later hbn); have HXy5 := Lib.hid (HXy2.out.later hbn); have HYy5 := Lib.hid (HYy2.out.later hbn)
          have HO1y5 := Lib.hid (own_keep HO1y2.out hbn)
          have HO3y5 := Lib.hid (own_keep HO3y2.out hbn)
          have HZ5y5 : Hid (Bk y5 g5 31 zBk) := hy ▸ (Bk.at_ y2 _ #[.int .u8 0, .int .u8 0, .int .u8 0, .int .u8 0, .int .u8 0, .int .u8 0, .int .u8 0, .int .u8 0, .int .i64 0, .int .u8 0, .int .u8 0, .int .u8 0, .int .u8 0, .int .u8 0, .int .u8 0, .int .u8 0, .int .u8 0, .slice none 0 0] hg rfl)
          have HG5 : Hid (w3.heap.size ≤ g5) := by show _ ≤ _; rw [← hg]; exact HBy2.out.size
          rw [hy, hg]
          refine hK.out _ _ ⟨HKy5.out, HJy5.out⟩ (fun hHeld => ?_)
          clear hK K hbn hy hg
          try simp only [Act.put, List.setIfInBounds_toArray, List.set_cons_zero, List.set_cons_succ, List.getElem_toArray, List.getElem_cons_zero, List.getElem_cons_succ]
          refine wpAnyH_ready (rs := [4]) (by kernel_rfl) (by simp) ?_
          refine (AllReadyH.cons rfl (fun K hK => ?_) AllReadyH.nil)
          go_simp
          obtain ⟨g4, hg⟩ : ∃ g, y5.heap.size = g := ⟨_, rfl⟩
          obtain ⟨y6, hy⟩ : ∃ y, (y5.alloc (.cells #[.int .u8 0, .int .u8 0, .int .u8 0, .int .u8 0, .int .u8 0, .int .u8 0, .int .u8 0, .int .u8 0, .int .i64 0, .int .u8 0, .int .u8 0, .int .u8 0, .int .u8 0, .int .u8 0, .int .u8 0, .int .u8 0, .int .u8 0, .slice none 0 0] 31)) = y := ⟨_, rfl⟩
          have hbn : Below y5.heap.size y5 y6 := hy ▸ (below_new y5 _)
          have HBy6 := Lib.hid (below_then HBy5.out hbn); have HKy6 := Lib.hid (HKy5.out.later hbn); have HJy6 := Lib.hid (HJy5.out.later hbn); have HXy6 := Lib.hid (HXy5.out.later hbn); have HYy6 := Lib.hid (HYy5.out.later hbn)
          have HO1y6 := Lib.hid (own_keep HO1y5.out hbn)
          have HO3y6 := Lib.hid (own_keep HO3y5.out hbn)
          have HZ5y6 := Lib.hid (HZ5y5.out.later hbn)
          have HZ4y6 : Hid (Bk y6 g4 31 zBk) := hy ▸ (Bk.at_ y5 _ #[.int .u8 0, .int .u8 0, .int .u8 0, .int .u8 0, .int .u8 0, .int .u8 0, .int .u8 0, .int .u8 0, .int .i64 0, .int .u8 0, .int .u8 0, .int .u8 0, .int .u8 0, .int .u8 0, .int .u8 0, .int .u8 0, .int .u8 0, .slice none 0 0] hg rfl)
          have HG4 : Hid (w3.heap.size ≤ g4) := by show _ ≤ _; rw [← hg]; exact HBy5.out.size
          have HNE : Hid (g4 ≠ g5) := by have := HZ5y5.out.lt; show g4 ≠ g5; omega
          rw [hy, hg]
          refine hK.out _ _ ⟨HKy6.out, HJy6.out⟩ (fun hHeld => ?_)
          clear hK K hbn hy hg
          try simp only [Act.put, List.setIfInBounds_toArray, List.set_cons_zero, List.set_cons_succ, List.getElem_toArray, List.getElem_cons_zero, List.getElem_cons_succ]
          as_aux_lemma =>
          have HF1 : Hid (BkFit (bkC p h m (.slice P1 N q1))) := bk_fit HPO.out HMO.out
          have HF3 : Hid (BkFit (bkC p' h' m' (.slice P3 N' q3))) := bk_fit HPO'.out HMO'.out
          refine wpAnyH_ready (rs := [6]) (by kernel_rfl) (by simp) ?_
          refine AllReadyH.cons rfl (fun K hK => ?_) AllReadyH.nil
          rw [if_pos (by rfl)]
          refine wp_store_part _ _ _ rfl g4 0 _ (bkC p h m (.slice P1 N q1)) rfl rfl rfl _ ([]) (zBk) ([]) (by simpa using HZ4y6.out) rfl (by rw [HF1.out.len]; rfl) HF1.out.size HF1.out.one ?_
          intro wd hp
          refine hK.out _ _ ⟨HKy6.out.grown hp.only (by intro e; injection e with e; have := HG4.out; have := HZW.out; omega), HJy6.out.grown hp.only (by intro e; injection e with e; have := HG4.out; have := HZW.out; omega)⟩ (fun hHeld => ?_)
          clear hK K
          try simp only [Act.put, List.setIfInBounds_toArray, List.set_cons_zero, List.set_cons_succ, List.getElem_toArray, List.getElem_cons_zero, List.getElem_cons_succ]
          have hb4 : Below w3.heap.size w3 wd := below_only HBy6.out hp.only HBy6.out.size HG4.out
          have k4 : Bk wd g4 31 (bkC p h m (.slice P1 N q1)) := by have := hp.bk; simpa using this
          have k5 : Bk wd g5 31 zBk := HZ5y6.out.grown hp.only (by intro e; injection e with e; have := HNE.out; omega)
          have kz : Bk wd z 25 l := HKy6.out.grown hp.only (by intro e; injection e with e; have := HG4.out; have := HZW.out; omega)
          have kj : Bk wd (z + 1) 25 l' := HJy6.out.grown hp.only (by intro e; injection e with e; have := HG4.out; have := HZW.out; omega)
          have o1 := own_only HO1y6.out hp.only (own_bk_ne HO1y6.out HZ4y6.out (by decide))
          have o3 := own_only HO3y6.out hp.only (own_bk_ne HO3y6.out HZ4y6.out (by decide))
          clear hp
          refine wpAnyH_ready (rs := [7]) (by kernel_rfl) (by simp) ?_
          refine AllReadyH.cons rfl (fun K hK => ?_) AllReadyH.nil
          rw [if_pos (by rfl)]
          refine wp_store_part _ _ _ rfl g5 0 _ (bkC p' h' m' (.slice P3 N' q3)) rfl rfl rfl _ ([]) (zBk) ([]) (by simpa using k5) rfl (by rw [HF3.out.len]; rfl) HF3.out.size HF3.out.one ?_
          intro we hp
          refine hK.out _ _ ⟨kz.grown hp.only (by intro e; injection e with e; have := HG5.out; have := HZW.out; omega), kj.grown hp.only (by intro e; injection e with e; have := HG5.out; have := HZW.out; omega)⟩ (fun hHeld => ?_)
          clear hK K
          try simp only [Act.put, List.setIfInBounds_toArray, List.set_cons_zero, List.set_cons_succ, List.getElem_toArray, List.getElem_cons_zero, List.getElem_cons_succ]
          have k5' := k5
          have hb5 : Below w3.heap.size w3 we := below_only hb4 hp.only hb4.size HG5.out
          have k5 : Bk we g5 31 (bkC p' h' m' (.slice P3 N' q3)) := by have := hp.bk; simpa using this
          have k4 : Bk we g4 31 (bkC p h m (.slice P1 N q1)) := k4.grown hp.only (by intro e; injection e with e; have := HNE.out; omega)
          have o1 := own_only o1 hp.only (own_bk_ne o1 k5' (by decide))
          have o3 := own_only o3 hp.only (own_bk_ne o3 k5' (by decide))
          clear hp
          refine wpAnyH_done rfl ?_ _
          go_wp2_with fail
          go_meet
          exact ⟨g4, g5, P1, P3, q1, q3, rfl, rfl, ⟨⟨k4, xs, ⟨Sl.of_own o1, fun x hx => (HX3.out.th x hx).later hb5⟩, HLL.out⟩, ⟨k5, ys, ⟨Sl.of_own o3, fun x hx => (HY3.out.th x hx).later hb5⟩, HLL'.out⟩, hb5⟩⟩
      ·
        go_simp
        obtain ⟨g4, hg⟩ : ∃ g, y1.heap.size = g := ⟨_, rfl⟩
        obtain ⟨y7, hy⟩ : ∃ y, (y1.alloc (.cells #[.int .u8 0, .int .u8 0, .int .u8 0, .int .u8 0, .int .u8 0, .int .u8 0, .int .u8 0, .int .u8 0, .int .i64 0, .int .u8 0, .int .u8 0, .int .u8 0, .int .u8 0, .int .u8 0, .int .u8 0, .int .u8 0, .int .u8 0, .slice none 0 0] 31)) = y := ⟨_, rfl⟩
        have hbn : Below y1.heap.size y1 y7 := hy ▸ (below_new y1 _)
        have HBy7 := Lib.hid (below_then HBy1.out hbn); have HKy7 := Lib.hid (HKy1.out.later hbn); have HJy7 := Lib.hid (HJy1.out.later hbn); have HXy7 := Lib.hid (HXy1.out.later hbn); have HYy7 := Lib.hid (HYy1.out.later hbn)
        have HO1y7 := Lib.hid (own_keep HO1y1.out hbn)
        have HZ4y7 : Hid (Bk y7 g4 31 zBk) := hy ▸ (Bk.at_ y1 _ #[.int .u8 0, .int .u8 0, .int .u8 0, .int .u8 0, .int .u8 0, .int .u8 0, .int .u8 0, .int .u8 0, .int .i64 0, .int .u8 0, .int .u8 0, .int .u8 0, .int .u8 0, .int .u8 0, .int .u8 0, .int .u8 0, .int .u8 0, .slice none 0 0] hg rfl)
        have HG4 : Hid (w3.heap.size ≤ g4) := by show _ ≤ _; rw [← hg]; exact HBy1.out.size
        rw [hy, hg]
        refine hK.out _ _ ⟨HKy7.out, HJy7.out⟩ (fun hHeld => ?_)
        clear hK K hbn hy hg
        try simp only [Act.put, List.setIfInBounds_toArray, List.set_cons_zero, List.set_cons_succ, List.getElem_toArray, List.getElem_cons_zero, List.getElem_cons_succ]
        refine wpAnyH_ready (rs := [3, 5]) (by kernel_rfl) (by simp) ?_
        refine (AllReadyH.cons rfl (fun K hK => ?_) (AllReadyH.cons rfl (fun K hK => ?_) AllReadyH.nil))
        ·
          go_simp
          rw [HYE.out]
          refine (HOB.out y7 HYy7.out).mono ?_
          rintro e y8a ⟨⟨v3, rfl, hown⟩, hbn⟩
          obtain ⟨P3, q3, rfl⟩ := own_form hown
          obtain ⟨y8, hy⟩ : ∃ y, y8a = y := ⟨_, rfl⟩
          have hbd : Below y8a.heap.size y8a y8 := hy ▸ Below.refl _ _
          have hsl := own_base (own_keep hown hbd) HBy7.out.size
          have hbn := below_then hbn hbd
          have HBy8 := Lib.hid (below_then HBy7.out hbn); have HKy8 := Lib.hid (HKy7.out.later hbn); have HJy8 := Lib.hid (HJy7.out.later hbn); have HXy8 := Lib.hid (HXy7.out.later hbn); have HYy8 := Lib.hid (HYy7.out.later hbn)
          have HO1y8 := Lib.hid (own_keep HO1y7.out hbn)
          have HZ4y8 := Lib.hid (HZ4y7.out.later hbn)
          have HO3y8 := Lib.hid hsl
          rw [hy]
          refine hK.out _ _ ⟨HKy8.out, HJy8.out⟩ (fun hHeld => ?_)
          clear hK K hown hbn hbd hy hsl
          try simp only [Act.put, List.setIfInBounds_toArray, List.set_cons_zero, List.set_cons_succ, List.getElem_toArray, List.getElem_cons_zero, List.getElem_cons_succ]
          refine wpAnyH_ready (rs := [5]) (by kernel_rfl) (by simp) ?_
          refine (AllReadyH.cons rfl (fun K hK => ?_) AllReadyH.nil)
          go_simp
          obtain ⟨g5, hg⟩ : ∃ g, y8.heap.size = g := ⟨_, rfl⟩
          obtain ⟨y9, hy⟩ : ∃ y, (y8.alloc (.cells #[.int .u8 0, .int .u8 0, .int .u8 0, .int .u8 0, .int .u8 0, .int .u8 0, .int .u8 0, .int .u8 0, .int .i64 0, .int .u8 0, .int .u8 0, .int .u8 0, .int .u8 0, .int .u8 0, .int .u8 0, .int .u8 0, .int .u8 0, .slice none 0 0] 31)) = y := ⟨_, rfl⟩
          have hbn : Below y8.heap.size y8 y9 := hy ▸ (below_new y8 _)
          have HBy9 := Lib.hid (below_then HBy8.out hbn); have HKy9 := Lib.hid (HKy8.out.later hbn); have HJy9 := Lib.hid (HJy8.out.later hbn); have HXy9 := Lib.hid (HXy8.out.later hbn); have HYy9 := Lib.hid (HYy8.out.later hbn)
          have HO1y9 := Lib.hid (own_keep HO1y8.out hbn)
          have HO3y9 := Lib.hid (own_keep HO3y8.out hbn)
          have HZ4y9 := Lib.hid (HZ4y8.out.later hbn)
          have HZ5y9 : Hid (Bk y9 g5 31 zBk) := hy ▸ (Bk.at_ y8 _ #[.int .u8 0, .int .u8 0, .int .u8 0, .int .u8 0, .int .u8 0, .int .u8 0, .int .u8 0, .int .u8 0, .int .i64 0, .int .u8 0, .int .u8 0, .int .u8 0, .int .u8 0, .int .u8 0, .int .u8 0, .int .u8 0, .int .u8 0, .slice none 0 0] hg rfl)
          have HG5 : Hid (w3.heap.size ≤ g5) := by show _ ≤ _; rw [← hg]; exact HBy8.out.size
          have HNE : Hid (g4 ≠ g5) := by have := HZ4y8.out.lt; show g4 ≠ g5; omega
          rw [hy, hg]
          refine hK.out _ _ ⟨HKy9.out, HJy9.out⟩ (fun hHeld => ?_)
          clear hK K hbn hy hg
          try simp only [Act.put, List.setIfInBounds_toArray, List.set_cons_zero, List.set_cons_succ, List.getElem_toArray, List.getElem_cons_zero, List.getElem_cons_succ]
          as_aux_lemma =>
          have HF1 : Hid (BkFit (bkC p h m (.slice P1 N q1))) := bk_fit HPO.out HMO.out
          have HF3 : Hid (BkFit (bkC p' h' m' (.slice P3 N' q3))) := bk_fit HPO'.out HMO'.out
          refine wpAnyH_ready (rs := [6]) (by kernel_rfl) (by simp) ?_
          refine AllReadyH.cons rfl (fun K hK => ?_) AllReadyH.nil
          rw [if_pos (by rfl)]
          refine wp_store_part _ _ _ rfl g4 0 _ (bkC p h m (.slice P1 N q1)) rfl rfl rfl _ ([]) (zBk) ([]) (by simpa using HZ4y9.out) rfl (by rw [HF1.out.len]; rfl) HF1.out.size HF1.out.one ?_
          intro wd hp
          refine hK.out _ _ ⟨HKy9.out.grown hp.only (by intro e; injection e with e; have := HG4.out; have := HZW.out; omega), HJy9.out.grown hp.only (by intro e; injection e with e; have := HG4.out; have := HZW.out; omega)⟩ (fun hHeld => ?_)
          clear hK K
          try simp only [Act.put, List.setIfInBounds_toArray, List.set_cons_zero, List.set_cons_succ, List.getElem_toArray, List.getElem_cons_zero, List.getElem_cons_succ]
          have hb4 : Below w3.heap.size w3 wd := below_only HBy9.out hp.only HBy9.out.size HG4.out
          have k4 : Bk wd g4 31 (bkC p h m (.slice P1 N q1)) := by have := hp.bk; simpa using this
          have k5 : Bk wd g5 31 zBk := HZ5y9.out.grown hp.only (by intro e; injection e with e; have := HNE.out; omega)
          have kz : Bk wd z 25 l := HKy9.out.grown hp.only (by intro e; injection e with e; have := HG4.out; have := HZW.out; omega)
          have kj : Bk wd (z + 1) 25 l' := HJy9.out.grown hp.only (by intro e; injection e with e; have := HG4.out; have := HZW.out; omega)
          have o1 := own_only HO1y9.out hp.only (own_bk_ne HO1y9.out HZ4y9.out (by decide))
          have o3 := own_only HO3y9.out hp.only (own_bk_ne HO3y9.out HZ4y9.out (by decide))
          clear hp
          refine wpAnyH_ready (rs := [7]) (by kernel_rfl) (by simp) ?_
          refine AllReadyH.cons rfl (fun K hK => ?_) AllReadyH.nil
          rw [if_pos (by rfl)]
          refine wp_store_part _ _ _ rfl g5 0 _ (bkC p' h' m' (.slice P3 N' q3)) rfl rfl rfl _ ([]) (zBk) ([]) (by simpa using k5) rfl (by rw [HF3.out.len]; rfl) HF3.out.size HF3.out.one ?_
          intro we hp
          refine hK.out _ _ ⟨kz.grown hp.only (by intro e; injection e with e; have := HG5.out; have := HZW.out; omega), kj.grown hp.only (by intro e; injection e with e; have := HG5.out; have := HZW.out; omega)⟩ (fun hHeld => ?_)
          clear hK K
          try simp only [Act.put, List.setIfInBounds_toArray, List.set_cons_zero, List.set_cons_succ, List.getElem_toArray, List.getElem_cons_zero, List.getElem_cons_succ]
          have k5' := k5
          have hb5 : Below w3.heap.size w3 we := below_only hb4 hp.only hb4.size HG5.out
          have k5 : Bk we g5 31 (bkC p' h' m' (.slice P3 N' q3)) := by have := hp.bk; simpa using this
          have k4 : Bk we g4 31 (bkC p h m (.slice P1 N q1)) := k4.grown hp.only (by intro e; injection e with e; have := HNE.out; omega)
          have o1 := own_only o1 hp.only (own_bk_ne o1 k5' (by decide))
          have o3 := own_only o3 hp.only (own_bk_ne o3 k5' (by decide))
          clear hp
          refine wpAnyH_done rfl ?_ _
          go_wp2_with fail
          go_meet
          exact ⟨g4, g5, P1, P3, q1, q3, rfl, rfl, ⟨⟨k4, xs, ⟨Sl.of_own o1, fun x hx => (HX3.out.th x hx).later hb5⟩, HLL.out⟩, ⟨k5, ys, ⟨Sl.of_own o3, fun x hx => (HY3.out.th x hx).later hb5⟩, HLL'.out⟩, hb5⟩⟩
        ·
          go_simp
          obtain ⟨g5, hg⟩ : ∃ g, y7.heap.size = g := ⟨_, rfl⟩
          obtain ⟨y10, hy⟩ : ∃ y, (y7.alloc (.cells #[.int .u8 0, .int .u8 0, .int .u8 0, .int .u8 0, .int .u8 0, .int .u8 0, .int .u8 0, .int .u8 0, .int .i64 0, .int .u8 0, .int .u8 0, .int .u8 0, .int .u8 0, .int .u8 0, .int .u8 0, .int .u8 0, .int .u8 0, .slice none 0 0] 31)) = y := ⟨_, rfl⟩
          have hbn : Below y7.heap.size y7 y10 := hy ▸ (below_new y7 _)
          have HBy10 := Lib.hid (below_then HBy7.out hbn); have HKy10 := Lib.hid (HKy7.out.later hbn); have HJy10 := Lib.hid (HJy7.out.later hbn); have HXy10 := Lib.hid (HXy7.out.later hbn); have HYy10 := Lib.hid (HYy7.out.later hbn)
          have HO1y10 := Lib.hid (own_keep HO1y7.out hbn)
          have HZ4y10 := Lib.hid (HZ4y7.out.later hbn)
          have HZ5y10 : Hid (Bk y10 g5 31 zBk) := hy ▸ (Bk.at_ y7 _ #[.int .u8 0, .int .u8 0, .int .u8 0, .int .u8 0, .int .u8 0, .int .u8 0, .int .u8 0, .int .u8 0, .int .i64 0, .int .u8 0, .int .u8 0, .int .u8 0, .int .u8 0, .int .u8 0, .int .u8 0, .int .u8 0, .int .u8 0, .slice none 0 0] hg rfl)
          have HG5 : Hid (w3.heap.size ≤ g5) := by show _ ≤ _; rw [← hg]; exact HBy7.out.size
          have HNE : Hid (g4 ≠ g5) := by have := HZ4y7.out.lt; show g4 ≠ g5; omega
          rw [hy, hg]
          refine hK.out _ _ ⟨HKy10.out, HJy10.out⟩ (fun hHeld => ?_)
          clear hK K hbn hy hg
          try simp only [Act.put, List.setIfInBounds_toArray, List.set_cons_zero, List.set_cons_succ, List.getElem_toArray, List.getElem_cons_zero, List.getElem_cons_succ]
          refine wpAnyH_ready (rs := [3]) (by kernel_rfl) (by simp) ?_
          refine (AllReadyH.cons rfl (fun K hK => ?_) AllReadyH.nil)
          go_simp
          rw [HYE.out]
          refine (HOB.out y10 HYy10.out).mono ?_
          rintro e y11a ⟨⟨v3, rfl, hown⟩, hbn⟩
          obtain ⟨P3, q3, rfl⟩ := own_form hown
          obtain ⟨y11, hy⟩ : ∃ y, y11a = y := ⟨_, rfl⟩
          have hbd : Below y11a.heap.size y11a y11 := hy ▸ Below.refl _ _
          have hsl := own_base (own_keep hown hbd) HBy10.out.size
          have hbn := below_then hbn hbd
          have HBy11 := Lib.hid (below_then HBy10.out hbn); have HKy11 := Lib.hid (HKy10.out.later hbn); have HJy11 := Lib.hid (HJy10.out.later hbn); have HXy11 := Lib.hid (HXy10.out.later hbn); have HYy11 := Lib.hid (HYy10.out.later hbn)
          have HO1y11 := Lib.hid (own_keep HO1y10.out hbn)
          have HZ4y11 := Lib.hid (HZ4y10.out.later hbn)
          have HZ5y11 := Lib.hid (HZ5y10.out.later hbn)
          have HO3y11 := Lib.hid hsl
          rw [hy]
          refine hK.out _ _ ⟨HKy11.out, HJy11.out⟩ (fun hHeld => ?_)
          clear hK K hown hbn hbd hy hsl
          try simp only [Act.put, List.setIfInBounds_toArray, List.set_cons_zero, List.set_cons_succ, List.getElem_toArray, List.getElem_cons_zero, List.getElem_cons_succ]
          as_aux_lemma =>
          have HF1 : Hid (BkFit (bkC p h m (.slice P1 N q1))) := bk_fit HPO.out HMO.out
          have HF3 : Hid (BkFit (bkC p' h' m' (.slice P3 N' q3))) := bk_fit HPO'.out HMO'.out
          refine wpAnyH_ready (rs := [6]) (by kernel_rfl) (by simp) ?_
          refine AllReadyH.cons rfl (fun K hK => ?_) AllReadyH.nil
          rw [if_pos (by rfl)]
          refine wp_store_part _ _ _ rfl g4 0 _ (bkC p h m (.slice P1 N q1)) rfl rfl rfl _ ([]) (zBk) ([]) (by simpa using HZ4y11.out) rfl (by rw [HF1.out.len]; rfl) HF1.out.size HF1.out.one ?_
          intro wd hp
          refine hK.out _ _ ⟨HKy11.out.grown hp.only (by intro e; injection e with e; have := HG4.out; have := HZW.out; omega), HJy11.out.grown hp.only (by intro e; injection e with e; have := HG4.out; have := HZW.out; omega)⟩ (fun hHeld => ?_)
          clear hK K
          try simp only [Act.put, List.setIfInBounds_toArray, List.set_cons_zero, List.set_cons_succ, List.getElem_toArray, List.getElem_cons_zero, List.getElem_cons_succ]
          have hb4 : Below w3.heap.size w3 wd := below_only HBy11.out hp.only HBy11.out.size HG4.out
          have k4 : Bk wd g4 31 (bkC p h m (.slice P1 N q1)) := by have := hp.bk; simpa using this
          have k5 : Bk wd g5 31 zBk := HZ5y11.out.grown hp.only (by intro e; injection e with e; have := HNE.out; omega)
          have kz : Bk wd z 25 l := HKy11.out.grown hp.only (by intro e; injection e with e; have := HG4.out; have := HZW.out; omega)
          have kj : Bk wd (z + 1) 25 l' := HJy11.out.grown hp.only (by intro e; injection e with e; have := HG4.out; have := HZW.out; omega)
          have o1 := own_only HO1y11.out hp.only (own_bk_ne HO1y11.out HZ4y11.out (by decide))
          have o3 := own_only HO3y11.out hp.only (own_bk_ne HO3y11.out HZ4y11.out (by decide))
          clear hp
          refine wpAnyH_ready (rs := [7]) (by kernel_rfl) (by simp) ?_
          refine AllReadyH.cons rfl (fun K hK => ?_) AllReadyH.nil
          rw [if_pos (by rfl)]
          refine wp_store_part _ _ _ rfl g5 0 _ (bkC p' h' m' (.slice P3 N' q3)) rfl rfl rfl _ ([]) (zBk) ([]) (by simpa using k5) rfl (by rw [HF3.out.len]; rfl) HF3.out.size HF3.out.one ?_
          intro we hp
          refine hK.out _ _ ⟨kz.grown hp.only (by intro e; injection e with e; have := HG5.out; have := HZW.out; omega), kj.grown hp.only (by intro e; injection e with e; have := HG5.out; have := HZW.out; omega)⟩ (fun hHeld => ?_)
          clear hK K
          try simp only [Act.put, List.setIfInBounds_toArray, List.set_cons_zero, List.set_cons_succ, List.getElem_toArray, List.getElem_cons_zero, List.getElem_cons_succ]
          have k5' := k5
          have hb5 : Below w3.heap.size w3 we := below_only hb4 hp.only hb4.size HG5.out
          have k5 : Bk we g5 31 (bkC p' h' m' (.slice P3 N' q3)) := by have := hp.bk; simpa using this
          have k4 : Bk we g4 31 (bkC p h m (.slice P1 N q1)) := k4.grown hp.only (by intro e; injection e with e; have := HNE.out; omega)
          have o1 := own_only o1 hp.only (own_bk_ne o1 k5' (by decide))
          have o3 := own_only o3 hp.only (own_bk_ne o3 k5' (by decide))
          clear hp
          refine wpAnyH_done rfl ?_ _
          go_wp2_with fail
          go_meet
          exact ⟨g4, g5, P1, P3, q1, q3, rfl, rfl, ⟨⟨k4, xs, ⟨Sl.of_own o1, fun x hx => (HX3.out.th x hx).later hb5⟩, HLL.out⟩, ⟨k5, ys, ⟨Sl.of_own o3, fun x hx => (HY3.out.th x hx).later hb5⟩, HLL'.out⟩, hb5⟩⟩
      ·
        go_simp
        obtain ⟨g5, hg⟩ : ∃ g, y1.heap.size = g := ⟨_, rfl⟩
        obtain ⟨y12, hy⟩ : ∃ y, (y1.alloc (.cells #[.int .u8 0, .int .u8 0, .int .u8 0, .int .u8 0, .int .u8 0, .int .u8 0, .int .u8 0, .int .u8 0, .int .i64 0, .int .u8 0, .int .u8 0, .int .u8 0, .int .u8 0, .int .u8 0, .int .u8 0, .int .u8 0, .int .u8 0, .slice none 0 0] 31)) = y := ⟨_, rfl⟩
        have hbn : Below y1.heap.size y1 y12 := hy ▸ (below_new y1 _)
        have HBy12 := Lib.hid (below_then HBy1.out hbn); have HKy12 := Lib.hid (HKy1.out.later hbn); have HJy12 := Lib.hid (HJy1.out.later hbn); have HXy12 := Lib.hid (HXy1.out.later hbn); have HYy12 := Lib.hid (HYy1.out.later hbn)
        have HO1y12 := Lib.hid (own_keep HO1y1.out hbn)
        have HZ5y12 : Hid (Bk y12 g5 31 zBk) := hy ▸ (Bk.at_ y1 _ #[.int .u8 0, .int .u8 0, .int .u8 0, .int .u8 0, .int .u8 0, .int .u8 0, .int .u8 0, .int .u8 0, .int .i64 0, .int .u8 0, .int .u8 0, .int .u8 0, .int .u8 0, .int .u8 0, .int .u8 0, .int .u8 0, .int .u8 0, .slice none 0 0] hg rfl)
        have HG5 : Hid (w3.heap.size ≤ g5) := by show _ ≤ _; rw [← hg]; exact HBy1.out.size
        rw [hy, hg]
        refine hK.out _ _ ⟨HKy12.out, HJy12.out⟩ (fun hHeld => ?_)
        clear hK K hbn hy hg
        try simp only [Act.put, List.setIfInBounds_toArray, List.set_cons_zero, List.set_cons_succ, List.getElem_toArray, List.getElem_cons_zero, List.getElem_cons_succ]
        refine wpAnyH_ready (rs := [3, 4]) (by kernel_rfl) (by simp) ?_
        refine (AllReadyH.cons rfl (fun K hK => ?_) (AllReadyH.cons rfl (fun K hK => ?_) AllReadyH.nil))
        ·
          go_simp
          rw [HYE.out]
          refine (HOB.out y12 HYy12.out).mono ?_
          rintro e y13a ⟨⟨v3, rfl, hown⟩, hbn⟩
          obtain ⟨P3, q3, rfl⟩ := own_form hown
          obtain ⟨y13, hy⟩ : ∃ y, y13a = y := ⟨_, rfl⟩
          have hbd : Below y13a.heap.size y13a y13 := hy ▸ Below.refl _ _
          have hsl := own_base (own_keep hown hbd) HBy12.out.size
          have hbn := below_then hbn hbd
          have HBy13 := Lib.hid (below_then HBy12.out hbn); have HKy13 := Lib.hid (HKy12.out.later hbn); have HJy13 := Lib.hid (HJy12.out.later hbn); have HXy13 := Lib.hid (HXy12.out.later hbn); have HYy13 := Lib.hid (HYy12.out.later hbn)
          have HO1y13 := Lib.hid (own_keep HO1y12.out hbn)
          have HZ5y13 := Lib.hid (HZ5y12.out.later hbn)
          have HO3y13 := Lib.hid hsl
          rw [hy]
          refine hK.out _ _ ⟨HKy13.out, HJy13.out⟩ (fun hHeld => ?_)
          clear hK K hown hbn hbd hy hsl
          try simp only [Act.put, List.setIfInBounds_toArray, List.set_cons_zero, List.set_cons_succ, List.getElem_toArray, List.getElem_cons_zero, List.getElem_cons_succ]
          refine wpAnyH_ready (rs := [4]) (by kernel_rfl) (by simp) ?_
          refine (AllReadyH.cons rfl (fun K hK => ?_) AllReadyH.nil)
          go_simp
          obtain ⟨g4, hg⟩ : ∃ g, y13.heap.size = g := ⟨_, rfl⟩
          obtain ⟨y14, hy⟩ : ∃ y, (y13.alloc (.cells #[.int .u8 0, .int .u8 0, .int .u8 0, .int .u8 0, .int .u8 0, .int .u8 0, .int .u8 0, .int .u8 0, .int .i64 0, .int .u8 0, .int .u8 0, .int .u8 0, .int .u8 0, .int .u8 0, .int .u8 0, .int .u8 0, .int .u8 0, .slice none 0 0] 31)) = y := ⟨_, rfl⟩
          have hbn : Below y13.heap.size y13 y14 := hy ▸ (below_new y13 _)
          have HBy14 := Lib.hid (below_then HBy13.out hbn); have HKy14 := Lib.hid (HKy13.out.later hbn); have HJy14 := Lib.hid (HJy13.out.later hbn); have HXy14 := Lib.hid (HXy13.out.later hbn); have HYy14 := Lib.hid (HYy13.out.later hbn)
          have HO1y14 := Lib.hid (own_keep HO1y13.out hbn)
          have HO3y14 := Lib.hid (own_keep HO3y13.out hbn)
          have HZ5y14 := Lib.hid (HZ5y13.out.later hbn)
          have HZ4y14 : Hid (Bk y14 g4 31 zBk) := hy ▸ (Bk.at_ y13 _ #[.int .u8 0, .int .u8 0, .int .u8 0, .int .u8 0, .int .u8 0, .int .u8 0, .int .u8 0, .int .u8 0, .int .i64 0, .int .u8 0, .int .u8 0, .int .u8 0, .int .u8 0, .int .u8 0, .int .u8 0, .int .u8 0, .int .u8 0, .slice none 0 0] hg rfl)
          have HG4 : Hid (w3.heap.size ≤ g4) := by show _ ≤ _; rw [← hg]; exact HBy13.out.size
          have HNE : Hid (g4 ≠ g5) := by have := HZ5y13.out.lt; show g4 ≠ g5; omega
          rw [hy, hg]
          refine hK.out _ _ ⟨HKy14.out, HJy14.out⟩ (fun hHeld => ?_)
          clear hK K hbn hy hg
          try simp only [Act.put, List.setIfInBounds_toArray, List.set_cons_zero, List.set_cons_succ, List.getElem_toArray, List.getElem_cons_zero, List.getElem_cons_succ]
          as_aux_lemma =>
          have HF1 : Hid (BkFit (bkC p h m (.slice P1 N q1))) := bk_fit HPO.out HMO.out
          have HF3 : Hid (BkFit (bkC p' h' m' (.slice P3 N' q3))) := bk_fit HPO'.out HMO'.out
          refine wpAnyH_ready (rs := [6]) (by kernel_rfl) (by simp) ?_
          refine AllReadyH.cons rfl (fun K hK => ?_) AllReadyH.nil
          rw [if_pos (by rfl)]
          refine wp_store_part _ _ _ rfl g4 0 _ (bkC p h m (.slice P1 N q1)) rfl rfl rfl _ ([]) (zBk) ([]) (by simpa using HZ4y14.out) rfl (by rw [HF1.out.len]; rfl) HF1.out.size HF1.out.one ?_
          intro wd hp
          refine hK.out _ _ ⟨HKy14.out.grown hp.only (by intro e; injection e with e; have := HG4.out; have := HZW.out; omega), HJy14.out.grown hp.only (by intro e; injection e with e; have := HG4.out; have := HZW.out; omega)⟩ (fun hHeld => ?_)
          clear hK K
          try simp only [Act.put, List.setIfInBounds_toArray, List.set_cons_zero, List.set_cons_succ, List.getElem_toArray, List.getElem_cons_zero, List.getElem_cons_succ]
          have hb4 : Below w3.heap.size w3 wd := below_only HBy14.out hp.only HBy14.out.size HG4.out
          have k4 : Bk wd g4 31 (bkC p h m (.slice P1 N q1)) := by have := hp.bk; simpa using this
          have k5 : Bk wd g5 31 zBk := HZ5y14.out.grown hp.only (by intro e; injection e with e; have := HNE.out; omega)
          have kz : Bk wd z 25 l := HKy14.out.grown hp.only (by intro e; injection e with e; have := HG4.out; have := HZW.out; omega)
          have kj : Bk wd (z + 1) 25 l' := HJy14.out.grown hp.only (by intro e; injection e with e; have := HG4.out; have := HZW.out; omega)
          have o1 := own_only HO1y14.out hp.only (own_bk_ne HO1y14.out HZ4y14.out (by decide))
          have o3 := own_only HO3y14.out hp.only (own_bk_ne HO3y14.out HZ4y14.out (by decide))
          clear hp
          refine wpAnyH_ready (rs := [7]) (by kernel_rfl) (by simp) ?_
          refine AllReadyH.cons rfl (fun K hK => ?_) AllReadyH.nil
          rw [if_pos (by rfl)]
          refine wp_store_part _ _ _ rfl g5 0 _ (bkC p' h' m' (.slice P3 N' q3)) rfl rfl rfl _ ([]) (zBk) ([]) (by simpa using k5) rfl (by rw [HF3.out.len]; rfl) HF3.out.size HF3.out.one ?_
          intro we hp
          refine hK.out _ _ ⟨kz.grown hp.only (by intro e; injection e with e; have := HG5.out; have := HZW.out; omega), kj.grown hp.only (by intro e; injection e with e; have := HG5.out; have := HZW.out; omega)⟩ (fun hHeld => ?_)
          clear hK K
          try simp only [Act.put, List.setIfInBounds_toArray, List.set_cons_zero, List.set_cons_succ, List.getElem_toArray, List.getElem_cons_zero, List.getElem_cons_succ]
          have k5' := k5
          have hb5 : Below w3.heap.size w3 we := below_only hb4 hp.only hb4.size HG5.out
          have k5 : Bk we g5 31 (bkC p' h' m' (.slice P3 N' q3)) := by have := hp.bk; simpa using this
          have k4 : Bk we g4 31 (bkC p h m (.slice P1 N q1)) := k4.grown hp.only (by intro e; injection e with e; have := HNE.out; omega)
          have o1 := own_only o1 hp.only (own_bk_ne o1 k5' (by decide))
          have o3 := own_only o3 hp.only (own_bk_ne o3 k5' (by decide))
          clear hp
          refine wpAnyH_done rfl ?_ _
          go_wp2_with fail
          go_meet
          exact ⟨g4, g5, P1, P3, q1, q3, rfl, rfl, ⟨⟨k4, xs, ⟨Sl.of_own o1, fun x hx => (HX3.out.th x hx).later hb5⟩, HLL.out⟩, ⟨k5, ys, ⟨Sl.of_own o3, fun x hx => (HY3.out.th x hx).later hb5⟩, HLL'.out⟩, hb5⟩⟩
        ·
          go_simp
          obtain ⟨g4, hg⟩ : ∃ g, y12.heap.size = g := ⟨_, rfl⟩
          obtain ⟨y15, hy⟩ : ∃ y, (y12.alloc (.cells #[.int .u8 0, .int .u8 0, .int .u8 0, .int .u8 0, .int .u8 0, .int .u8 0, .int .u8 0, .int .u8 0, .int .i64 0, .int .u8 0, .int .u8 0, .int .u8 0, .int .u8 0, .int .u8 0, .int .u8 0, .int .u8 0, .int .u8 0, .slice none 0 0] 31)) = y := ⟨_, rfl⟩
          have hbn : Below y12.heap.size y12 y15 := hy ▸ (below_new y12 _)
          have HBy15 := Lib.hid (below_then HBy12.out hbn); have HKy15 := Lib.hid (HKy12.out.later hbn); have HJy15 := Lib.hid (HJy12.out.later hbn); have HXy15 := Lib.hid (HXy12.out.later hbn); have HYy15 := Lib.hid (HYy12.out.later hbn)
          have HO1y15 := Lib.hid (own_keep HO1y12.out hbn)
          have HZ5y15 := Lib.hid (HZ5y12.out.later hbn)
          have HZ4y15 : Hid (Bk y15 g4 31 zBk) := hy ▸ (Bk.at_ y12 _ #[.int .u8 0, .int .u8 0, .int .u8 0, .int .u8 0, .int .u8 0, .int .u8 0, .int .u8 0, .int .u8 0, .int .i64 0, .int .u8 0, .int .u8 0, .int .u8 0, .int .u8 0, .int .u8 0, .int .u8 0, .int .u8 0, .int .u8 0, .slice none 0 0] hg rfl)
          have HG4 : Hid (w3.heap.size ≤ g4) := by show _ ≤ _; rw [← hg]; exact HBy12.out.size
          have HNE : Hid (g4 ≠ g5) := by have := HZ5y12.out.lt; show g4 ≠ g5; omega
          rw [hy, hg]
          refine hK.out _ _ ⟨HKy15.out, HJy15.out⟩ (fun hHeld => ?_)
          clear hK K hbn hy hg
          try simp only [Act.put, List.setIfInBounds_toArray, List.set_cons_zero, List.set_cons_succ, List.getElem_toArray, List.getElem_cons_zero, List.getElem_cons_succ]
          refine wpAnyH_ready (rs := [3]) (by kernel_rfl) (by simp) ?_
          refine (AllReadyH.cons rfl (fun K hK => ?_) AllReadyH.nil)
          go_simp
          rw [HYE.out]
          refine (HOB.out y15 HYy15.out).mono ?_
          rintro e y16a ⟨⟨v3, rfl, hown⟩, hbn⟩
          obtain ⟨P3, q3, rfl⟩ := own_form hown
          obtain ⟨y16, hy⟩ : ∃ y, y16a = y := ⟨_, rfl⟩
          have hbd : Below y16a.heap.size y16a y16 := hy ▸ Below.refl _ _
          have hsl := own_base (own_keep hown hbd) HBy15.out.size
          have hbn := below_then hbn hbd
          have HBy16 := Lib.hid (below_then HBy15.out hbn); have HKy16 := Lib.hid (HKy15.out.later hbn); have HJy16 := Lib.hid (HJy15.out.later hbn); have HXy16 := Lib.hid (HXy15.out.later hbn); have HYy16 := Lib.hid (HYy15.out.later hbn)
          have HO1y16 := Lib.hid (own_keep HO1y15.out hbn)
          have HZ4y16 := Lib.hid (HZ4y15.out.later hbn)
          have HZ5y16 := Lib.hid (HZ5y15.out.later hbn)
          have HO3y16 := Lib.hid hsl
          rw [hy]
          refine hK.out _ _ ⟨HKy16.out, HJy16.out⟩ (fun hHeld => ?_)
          clear hK K hown hbn hbd hy hsl
          try simp only [Act.put, List.setIfInBounds_toArray, List.set_cons_zero, List.set_cons_succ, List.getElem_toArray, List.getElem_cons_zero, List.getElem_cons_succ]
          as_aux_lemma =>
          have HF1 : Hid (BkFit (bkC p h m (.slice P1 N q1))) := bk_fit HPO.out HMO.out
          have HF3 : Hid (BkFit (bkC p' h' m' (.slice P3 N' q3))) := bk_fit HPO'.out HMO'.out
          refine wpAnyH_ready (rs := [6]) (by kernel_rfl) (by simp) ?_
          refine AllReadyH.cons rfl (fun K hK => ?_) AllReadyH.nil
          rw [if_pos (by rfl)]
          refine wp_store_part _ _ _ rfl g4 0 _ (bkC p h m (.slice P1 N q1)) rfl rfl rfl _ ([]) (zBk) ([]) (by simpa using HZ4y16.out) rfl (by rw [HF1.out.len]; rfl) HF1.out.size HF1.out.one ?_
          intro wd hp
          refine hK.out _ _ ⟨HKy16.out.grown hp.only (by intro e; injection e with e; have := HG4.out; have := HZW.out; omega), HJy16.out.grown hp.only (by intro e; injection e with e; have := HG4.out; have := HZW.out; omega)⟩ (fun hHeld => ?_)
          clear hK K
          try simp only [Act.put, List.setIfInBounds_toArray, List.set_cons_zero, List.set_cons_succ, List.getElem_toArray, List.getElem_cons_zero, List.getElem_cons_succ]
          have hb4 : Below w3.heap.size w3 wd := below_only HBy16.out hp.only HBy16.out.size HG4.out
          have k4 : Bk wd g4 31 (bkC p h m (.slice P1 N q1)) := by have := hp.bk; simpa using this
          have k5 : Bk wd g5 31 zBk := HZ5y16.out.grown hp.only (by intro e; injection e with e; have := HNE.out; omega)
          have kz : Bk wd z 25 l := HKy16.out.grown hp.only (by intro e; injection e with e; have := HG4.out; have := HZW.out; omega)
          have kj : Bk wd (z + 1) 25 l' := HJy16.out.grown hp.only (by intro e; injection e with e; have := HG4.out; have := HZW.out; omega)
          have o1 := own_only HO1y16.out hp.only (own_bk_ne HO1y16.out HZ4y16.out (by decide))
          have o3 := own_only HO3y16.out hp.only (own_bk_ne HO3y16.out HZ4y16.out (by decide))
          clear hp
          refine wpAnyH_ready (rs := [7]) (by kernel_rfl) (by simp) ?_
          refine AllReadyH.cons rfl (fun K hK => ?_) AllReadyH.nil
          rw [if_pos (by rfl)]
          refine wp_store_part _ _ _ rfl g5 0 _ (bkC p' h' m' (.slice P3 N' q3)) rfl rfl rfl _ ([]) (zBk) ([]) (by simpa using k5) rfl (by rw [HF3.out.len]; rfl) HF3.out.size HF3.out.one ?_
          intro we hp
          refine hK.out _ _ ⟨kz.grown hp.only (by intro e; injection e with e; have := HG5.out; have := HZW.out; omega), kj.grown hp.only (by intro e; injection e with e; have := HG5.out; have := HZW.out; omega)⟩ (fun hHeld => ?_)
          clear hK K
          try simp only [Act.put, List.setIfInBounds_toArray, List.set_cons_zero, List.set_cons_succ, List.getElem_toArray, List.getElem_cons_zero, List.getElem_cons_succ]
          have k5' := k5
          have hb5 : Below w3.heap.size w3 we := below_only hb4 hp.only hb4.size HG5.out
          have k5 : Bk we g5 31 (bkC p' h' m' (.slice P3 N' q3)) := by have := hp.bk; simpa using this
          have k4 : Bk we g4 31 (bkC p h m (.slice P1 N q1)) := k4.grown hp.only (by intro e; injection e with e; have := HNE.out; omega)
          have o1 := own_only o1 hp.only (own_bk_ne o1 k5' (by decide))
          have o3 := own_only o3 hp.only (own_bk_ne o3 k5' (by decide))
          clear hp
          refine wpAnyH_done rfl ?_ _
          go_wp2_with fail
          go_meet
          exact ⟨g4, g5, P1, P3, q1, q3, rfl, rfl, ⟨⟨k4, xs, ⟨Sl.of_own o1, fun x hx => (HX3.out.th x hx).later hb5⟩, HLL.out⟩, ⟨k5, ys, ⟨Sl.of_own o3, fun x hx => (HY3.out.th x hx).later hb5⟩, HLL'.out⟩, hb5⟩⟩
    ·
      go_simp
      obtain ⟨g4, hg⟩ : ∃ g, y0.heap.size = g := ⟨_, rfl⟩
      obtain ⟨y17, hy⟩ : ∃ y, (y0.alloc (.cells #[.int .u8 0, .int .u8 0, .int .u8 0, .int .u8 0, .int .u8 0, .int .u8 0, .int .u8 0, .int .u8 0, .int .i64 0, .int .u8 0, .int .u8 0, .int .u8 0, .int .u8 0, .int .u8 0, .int .u8 0, .int .u8 0, .int .u8 0, .slice none 0 0] 31)) = y := ⟨_, rfl⟩
      have hbn : Below y0.heap.size y0 y17 := hy ▸ (below_new y0 _)
      have HBy17 := Lib.hid (below_then HBy0.out hbn); have HKy17 := Lib.hid (HKy0.out.later hbn); have HJy17 := Lib.hid (HJy0.out.later hbn); have HXy17 := Lib.hid (HXy0.out.later hbn); have HYy17 := Lib.hid (HYy0.out.later hbn)
      have HZ4y17 : Hid (Bk y17 g4 31 zBk) := hy ▸ (Bk.at_ y0 _ #[.int .u8 0, .int .u8 0, .int .u8 0, .int .u8 0, .int .u8 0, .int .u8 0, .int .u8 0, .int .u8 0, .int .i64 0, .int .u8 0, .int .u8 0, .int .u8 0, .int .u8 0, .int .u8 0, .int .u8 0, .int .u8 0, .int .u8 0, .slice none 0 0] hg rfl)
      have HG4 : Hid (w3.heap.size ≤ g4) := by show _ ≤ _; rw [← hg]; exact HBy0.out.size
      rw [hy, hg]
      refine hK.out _ _ ⟨HKy17.out, HJy17.out⟩ (fun hHeld => ?_)
      clear hK K hbn hy hg
      try simp only [Act.put, List.setIfInBounds_toArray, List.set_cons_zero, List.set_cons_succ, List.getElem_toArray, List.getElem_cons_zero, List.getElem_cons_succ]
      refine wpAnyH_ready (rs := [1, 5]) (by kernel_rfl) (by simp) ?_
      refine (AllReadyH.cons rfl (fun K hK => ?_) (AllReadyH.cons rfl (fun K hK => ?_) AllReadyH.nil))
      ·
        go_simp
        rw [HXE.out]
        refine (HOA.out y17 HXy17.out).mono ?_
        rintro e y18a ⟨⟨v1, rfl, hown⟩, hbn⟩
        obtain ⟨P1, q1, rfl⟩ := own_form hown
        obtain ⟨y18, hy⟩ : ∃ y, y18a = y := ⟨_, rfl⟩
        have hbd : Below y18a.heap.size y18a y18 := hy ▸ Below.refl _ _
        have hsl := own_base (own_keep hown hbd) HBy17.out.size
        have hbn := below_then hbn hbd
        have HBy18 := Lib.hid (below_then HBy17.out hbn); have HKy18 := Lib.hid (HKy17.out.later hbn); have HJy18 := Lib.hid (HJy17.out.later hbn); have HXy18 := Lib.hid (HXy17.out.later hbn); have HYy18 := Lib.hid (HYy17.out.later hbn)
        have HZ4y18 := Lib.hid (HZ4y17.out.later hbn)
        have HO1y18 := Lib.hid hsl
        rw [hy]
        refine hK.out _ _ ⟨HKy18.out, HJy18.out⟩ (fun hHeld => ?_)
        clear hK K hown hbn hbd hy hsl
        try simp only [Act.put, List.setIfInBounds_toArray, List.set_cons_zero, List.set_cons_succ, List.getElem_toArray, List.getElem_cons_zero, List.getElem_cons_succ]
        refine wpAnyH_ready (rs := [3, 5]) (by kernel_rfl) (by simp) ?_
        refine (AllReadyH.cons rfl (fun K hK => ?_) (AllReadyH.cons rfl (fun K hK => ?_) AllReadyH.nil))
        ·
          go_simp
          rw [HYE.out]
          refine (HOB.out y18 HYy18.out).mono ?_
          rintro e y19a ⟨⟨v3, rfl, hown⟩, hbn⟩
          obtain ⟨P3, q3, rfl⟩ := own_form hown
          obtain ⟨y19, hy⟩ : ∃ y, y19a = y := ⟨_, rfl⟩
          have hbd : Below y19a.heap.size y19a y19 := hy ▸ Below.refl _ _
          have hsl := own_base (own_keep hown hbd) HBy18.out.size
          have hbn := below_then hbn hbd
          have HBy19 := Lib.hid (below_then HBy18.out hbn); have HKy19 := Lib.hid (HKy18.out.later hbn); have HJy19 := Lib.hid (HJy18.out.later hbn); have HXy19 := Lib.hid (HXy18.out.later hbn); have HYy19 := Lib.hid (HYy18.out.later hbn)
          have HO1y19 := Lib.hid (own_keep HO1y18.out hbn)
          have HZ4y19 := Lib.hid (HZ4y18.out.later hbn)
          have HO3y19 := Lib.hid hsl
          rw [hy]
          refine hK.out _ _ ⟨HKy19.out, HJy19.out⟩ (fun hHeld => ?_)
          clear hK K hown hbn hbd hy hsl
          try simp only [Act.put, List.setIfInBounds_toArray, List.set_cons_zero, List.set_cons_succ, List.getElem_toArray, List.getElem_cons_zero, List.getElem_cons_succ]
          refine wpAnyH_ready (rs := [5]) (by kernel_rfl) (by simp) ?_
          refine (AllReadyH.cons rfl (fun K hK => ?_) AllReadyH.nil)
          go_simp
          obtain ⟨g5, hg⟩ : ∃ g, y19.heap.size = g := ⟨_, rfl⟩
          obtain ⟨y20, hy⟩ : ∃ y, (y19.alloc (.cells #[.int .u8 0, .int .u8 0, .int .u8 0, .int .u8 0, .int .u8 0, .int .u8 0, .int .u8 0, .int .u8 0, .int .i64 0, .int .u8 0, .int .u8 0, .int .u8 0, .int .u8 0, .int .u8 0, .int .u8 0, .int .u8 0, .int .u8 0, .slice none 0 0] 31)) = y := ⟨_, rfl⟩
          have hbn : Below y19.heap.size y19 y20 := hy ▸ (below_new y19 _)
          have HBy20 := Lib.hid (below_then HBy19.out hbn); have HKy20 := Lib.hid (HKy19.out.later hbn); have HJy20 := Lib.hid (HJy19.out.later hbn); have HXy20 := Lib.hid (HXy19.out.later hbn); have HYy20 := Lib.hid (HYy19.out.later hbn)
          have HO1y20 := Lib.hid (own_keep HO1y19.out hbn)
          have HO3y20 := Lib.hid (own_keep HO3y19.out hbn)
          have HZ4y20 := Lib.hid (HZ4y19.out.later hbn)
          have HZ5y20 : Hid (Bk y20 g5 31 zBk) := hy ▸ (Bk.at_ y19 _ #[.int .u8 0, .int .u8 0, .int .u8 0, .int .u8 0, .int .u8 0, .int .u8 0, .int .u8 0, .int .u8 0, .int .i64 0, .int .u8 0, .int .u8 0, .int .u8 0, .int .u8 0, .int .u8 0, .int .u8 0, .int .u8 0, .int .u8 0, .slice none 0 0] hg rfl)
          have HG5 : Hid (w3.heap.size ≤ g5) := by show _ ≤ _; rw [← hg]; exact HBy19.out.size
          have HNE : Hid (g4 ≠ g5) := by have := HZ4y19.out.lt; show g4 ≠ g5; omega
          rw [hy, hg]
          refine hK.out _ _ ⟨HKy20.out, HJy20.out⟩ (fun hHeld => ?_)
          clear hK K hbn hy hg
          try simp only [Act.put, List.setIfInBounds_toArray, List.set_cons_zero, List.set_cons_succ, List.getElem_toArray, List.getElem_cons_zero, List.getElem_cons_succ]
          as_aux_lemma =>
          have HF1 : Hid (BkFit (bkC p h m (.slice P1 N q1))) := bk_fit HPO.out HMO.out
          have HF3 : Hid (BkFit (bkC p' h' m' (.slice P3 N' q3))) := bk_fit HPO'.out HMO'.out
          refine wpAnyH_ready (rs := [6]) (by kernel_rfl) (by simp) ?_
          refine AllReadyH.cons rfl (fun K hK => ?_) AllReadyH.nil
          rw [if_pos (by rfl)]
          refine wp_store_part _ _ _ rfl g4 0 _ (bkC p h m (.slice P1 N q1)) rfl rfl rfl _ ([]) (zBk) ([]) (by simpa using HZ4y20.out) rfl (by rw [HF1.out.len]; rfl) HF1.out.size HF1.out.one ?_
          intro wd hp
          refine hK.out _ _ ⟨HKy20.out.grown hp.only (by intro e; injection e with e; have := HG4.out; have := HZW.out; omega), HJy20.out.grown hp.only (by intro e; injection e with e; have := HG4.out; have := HZW.out; omega)⟩ (fun hHeld => ?_)
          clear hK K
          try simp only [Act.put, List.setIfInBounds_toArray, List.set_cons_zero, List.set_cons_succ, List.getElem_toArray, List.getElem_cons_zero, List.getElem_cons_succ]
          have hb4 : Below w3.heap.size w3 wd := below_only HBy20.out hp.only HBy20.out.size HG4.out
          have k4 : Bk wd g4 31 (bkC p h m (.slice P1 N q1)) := by have := hp.bk; simpa using this
          have k5 : Bk wd g5 31 zBk := HZ5y20.out.grown hp.only (by intro e; injection e with e; have := HNE.out; omega)
          have kz : Bk wd z 25 l := HKy20.out.grown hp.only (by intro e; injection e with e; have := HG4.out; have := HZW.out; omega)
          have kj : Bk wd (z + 1) 25 l' := HJy20.out.grown hp.only (by intro e; injection e with e; have := HG4.out; have := HZW.out; omega)
          have o1 := own_only HO1y20.out hp.only (own_bk_ne HO1y20.out HZ4y20.out (by decide))
          have o3 := own_only HO3y20.out hp.only (own_bk_ne HO3y20.out HZ4y20.out (by decide))
          clear hp
          refine wpAnyH_ready (rs := [7]) (by kernel_rfl) (by simp) ?_
          refine AllReadyH.cons rfl (fun K hK => ?_) AllReadyH.nil
          rw [if_pos (by rfl)]
          refine wp_store_part _ _ _ rfl g5 0 _ (bkC p' h' m' (.slice P3 N' q3)) rfl rfl rfl _ ([]) (zBk) ([]) (by simpa using k5) rfl (by rw [HF3.out.len]; rfl) HF3.out.size HF3.out.one ?_
          intro we hp
          refine hK.out _ _ ⟨kz.grown hp.only (by intro e; injection e with e; have := HG5.out; have := HZW.out; omega), kj.grown hp.only (by intro e; injection e with e; have := HG5.out; have := HZW.out; omega)⟩ (fun hHeld => ?_)
          clear hK K
          try simp only [Act.put, List.setIfInBounds_toArray, List.set_cons_zero, List.set_cons_succ, List.getElem_toArray, List.getElem_cons_zero, List.getElem_cons_succ]
          have k5' := k5
          have hb5 : Below w3.heap.size w3 we := below_only hb4 hp.only hb4.size HG5.out
          have k5 : Bk we g5 31 (bkC p' h' m' (.slice P3 N' q3)) := by have := hp.bk; simpa using this
          have k4 : Bk we g4 31 (bkC p h m (.slice P1 N q1)) := k4.grown hp.only (by intro e; injection e with e; have := HNE.out; omega)
          have o1 := own_only o1 hp.only (own_bk_ne o1 k5' (by decide))
          have o3 := own_only o3 hp.only (own_bk_ne o3 k5' (by decide))
          clear hp
          refine wpAnyH_done rfl ?_ _
          go_wp2_with fail
          go_meet
          exact ⟨g4, g5, P1, P3, q1, q3, rfl, rfl, ⟨⟨k4, xs, ⟨Sl.of_own o1, fun x hx => (HX3.out.th x hx).later hb5⟩, HLL.out⟩, ⟨k5, ys, ⟨Sl.of_own o3, fun x hx => (HY3.out.th x hx).later hb5⟩, HLL'.out⟩, hb5⟩⟩
        ·
          go_simp
          obtain ⟨g5, hg⟩ : ∃ g, y18.heap.size = g := ⟨_, rfl⟩
          obtain ⟨y21, hy⟩ : ∃ y, (y18.alloc (.cells #[.int .u8 0, .int .u8 0, .int .u8 0, .int .u8 0, .int .u8 0, .int .u8 0, .int .u8 0, .int .u8 0, .int .i64 0, .int .u8 0, .int .u8 0, .int .u8 0, .int .u8 0, .int .u8 0, .int .u8 0, .int .u8 0, .int .u8 0, .slice none 0 0] 31)) = y := ⟨_, rfl⟩
          have hbn : Below y18.heap.size y18 y21 := hy ▸ (below_new y18 _)
          have HBy21 := Lib.hid (below_then HBy18.out hbn); have HKy21 := Lib.hid (HKy18.out.later hbn); have HJy21 := Lib.hid (HJy18.out.later hbn); have HXy21 := Lib.hid (HXy18.out.later hbn); have HYy21 := Lib.hid (HYy18.out.later hbn)
          have HO1y21 := Lib.hid (own_keep HO1y18.out hbn)
          have HZ4y21 := Lib.hid (HZ4y18.out.later hbn)
          have HZ5y21 : Hid (Bk y21 g5 31 zBk) := hy ▸ (Bk.at_ y18 _ #[.int .u8 0, .int .u8 0, .int .u8 0, .int .u8 0, .int .u8 0, .int .u8 0, .int .u8 0, .int .u8 0, .int .i64 0, .int .u8 0, .int .u8 0, .int .u8 0, .int .u8 0, .int .u8 0, .int .u8 0, .int .u8 0, .int .u8 0, .slice none 0 0] hg rfl)
          have HG5 : Hid (w3.heap.size ≤ g5) := by show _ ≤ _; rw [← hg]; exact HBy18.out.size
          have HNE : Hid (g4 ≠ g5) := by have := HZ4y18.out.lt; show g4 ≠ g5; omega
          rw [hy, hg]
          refine hK.out _ _ ⟨HKy21.out, HJy21.out⟩ (fun hHeld => ?_)
          clear hK K hbn hy hg
          try simp only [Act.put, List.setIfInBounds_toArray, List.set_cons_zero, List.set_cons_succ, List.getElem_toArray, List.getElem_cons_zero, List.getElem_cons_succ]
          refine wpAnyH_ready (rs := [3]) (by kernel_rfl) (by simp) ?_
          refine (AllReadyH.cons rfl (fun K hK => ?_) AllReadyH.nil)
          go_simp
          rw [HYE.out]
          refine (HOB.out y21 HYy21.out).mono ?_
          rintro e y22a ⟨⟨v3, rfl, hown⟩, hbn⟩
          obtain ⟨P3, q3, rfl⟩ := own_form hown
          obtain ⟨y22, hy⟩ : ∃ y, y22a = y := ⟨_, rfl⟩
          have hbd : Below y22a.heap.size y22a y22 := hy ▸ Below.refl _ _
          have hsl := own_base (own_keep hown hbd) HBy21.out.size
          have hbn := below_then hbn hbd
          have HBy22 := Lib.hid (below_then HBy21.out hbn); have HKy22 := Lib.hid (HKy21.out.later hbn); have HJy22 := Lib.hid (HJy21.out.later hbn); have HXy22 := Lib.hid (HXy21.out.later hbn); have HYy22 := Lib.hid (HYy21.out.later hbn)
          have HO1y22 := Lib.hid (own_keep HO1y21.out hbn)
          have HZ4y22 := Lib.hid (HZ4y21.out.later hbn)
          have HZ5y22 := Lib.hid (HZ5y21.out.later hbn)
          have HO3y22 := Lib.hid hsl
          rw [hy]
          refine hK.out _ _ ⟨HKy22.out, HJy22.out⟩ (fun hHeld => ?_)
          clear hK K hown hbn hbd hy hsl
          try simp only [Act.put, List.setIfInBounds_toArray, List.set_cons_zero, List.set_cons_succ, List.getElem_toArray, List.getElem_cons_zero, List.getElem_cons_succ]
          as_aux_lemma =>
          have HF1 : Hid (BkFit (bkC p h m (.slice P1 N q1))) := bk_fit HPO.out HMO.out
          have HF3 : Hid (BkFit (bkC p' h' m' (.slice P3 N' q3))) := bk_fit HPO'.out HMO'.out
          refine wpAnyH_ready (rs := [6]) (by kernel_rfl) (by simp) ?_
          refine AllReadyH.cons rfl (fun K hK => ?_) AllReadyH.nil
          rw [if_pos (by rfl)]
          refine wp_store_part _ _ _ rfl g4 0 _ (bkC p h m (.slice P1 N q1)) rfl rfl rfl _ ([]) (zBk) ([]) (by simpa using HZ4y22.out) rfl (by rw [HF1.out.len]; rfl) HF1.out.size HF1.out.one ?_
          intro wd hp
          refine hK.out _ _ ⟨HKy22.out.grown hp.only (by intro e; injection e with e; have := HG4.out; have := HZW.out; omega), HJy22.out.grown hp.only (by intro e; injection e with e; have := HG4.out; have := HZW.out; omega)⟩ (fun hHeld => ?_)
          clear hK K
          try simp only [Act.put, List.setIfInBounds_toArray, List.set_cons_zero, List.set_cons_succ, List.getElem_toArray, List.getElem_cons_zero, List.getElem_cons_succ]
          have hb4 : Below w3.heap.size w3 wd := below_only HBy22.out hp.only HBy22.out.size HG4.out
          have k4 : Bk wd g4 31 (bkC p h m (.slice P1 N q1)) := by have := hp.bk; simpa using this
          have k5 : Bk wd g5 31 zBk := HZ5y22.out.grown hp.only (by intro e; injection e with e; have := HNE.out; omega)
          have kz : Bk wd z 25 l := HKy22.out.grown hp.only (by intro e; injection e with e; have := HG4.out; have := HZW.out; omega)
          have kj : Bk wd (z + 1) 25 l' := HJy22.out.grown hp.only (by intro e; injection e with e; have := HG4.out; have := HZW.out; omega)
          have o1 := own_only HO1y22.out hp.only (own_bk_ne HO1y22.out HZ4y22.out (by decide))
          have o3 := own_only HO3y22.out hp.only (own_bk_ne HO3y22.out HZ4y22.out (by decide))
          clear hp
          refine wpAnyH_ready (rs := [7]) (by kernel_rfl) (by simp) ?_
          refine AllReadyH.cons rfl (fun K hK => ?_) AllReadyH.nil
          rw [if_pos (by rfl)]
          refine wp_store_part _ _ _ rfl g5 0 _ (bkC p' h' m' (.slice P3 N' q3)) rfl rfl rfl _ ([]) (zBk) ([]) (by simpa using k5) rfl (by rw [HF3.out.len]; rfl) HF3.out.size HF3.out.one ?_
          intro we hp
          refine hK.out _ _ ⟨kz.grown hp.only (by intro e; injection e with e; have := HG5.out; have := HZW.out; omega), kj.grown hp.only (by intro e; injection e with e; have := HG5.out; have := HZW.out; omega)⟩ (fun hHeld => ?_)
          clear hK K
          try simp only [Act.put, List.setIfInBounds_toArray, List.set_cons_zero, List.set_cons_succ, List.getElem_toArray, List.getElem_cons_zero, List.getElem_cons_succ]
          have k5' := k5
          have hb5 : Below w3.heap.size w3 we := below_only hb4 hp.only hb4.size HG5.out
          have k5 : Bk we g5 31 (bkC p' h' m' (.slice P3 N' q3)) := by have := hp.bk; simpa using this
          have k4 : Bk we g4 31 (bkC p h m (.slice P1 N q1)) := k4.grown hp.only (by intro e; injection e with e; have := HNE.out; omega)
          have o1 := own_only o1 hp.only (own_bk_ne o1 k5' (by decide))
          have o3 := own_only o3 hp.only (own_bk_ne o3 k5' (by decide))
          clear hp
          refine wpAnyH_done rfl ?_ _
          go_wp2_with fail
          go_meet
          exact ⟨g4, g5, P1, P3, q1, q3, rfl, rfl, ⟨⟨k4, xs, ⟨Sl.of_own o1, fun x hx => (HX3.out.th x hx).later hb5⟩, HLL.out⟩, ⟨k5, ys, ⟨Sl.of_own o3, fun x hx => (HY3.out.th x hx).later hb5⟩, HLL'.out⟩, hb5⟩⟩
      ·
        go_simp
        obtain ⟨g5, hg⟩ : ∃ g, y17.heap.size = g := ⟨_, rfl⟩
        obtain ⟨y23, hy⟩ : ∃ y, (y17.alloc (.cells #[.int .u8 0, .int .u8 0, .int .u8 0, .int .u8 0, .int .u8 0, .int .u8 0, .int .u8 0, .int .u8 0, .int .i64 0, .int .u8 0, .int .u8 0, .int .u8 0, .int .u8 0, .int .u8 0, .int .u8 0, .int .u8 0, .int .u8 0, .slice none 0 0] 31)) = y := ⟨_, rfl⟩
        have hbn : Below y17.heap.size y17 y23 := hy ▸ (below_new y17 _)
        have HBy23 := Lib.hid (below_then HBy17.out hbn); have HKy23 := Lib.hid (HKy17.out.later hbn); have HJy23 := Lib.hid (HJy17.out.later hbn); have HXy23 := Lib.hid (HXy17.out.later hbn); have HYy23 := Lib.hid (HYy17.out.later hbn)
        have HZ4y23 := Lib.hid (HZ4y17.out.later hbn)
        have HZ5y23 : Hid (Bk y23 g5 31 zBk) := hy ▸ (Bk.at_ y17 _ #[.int .u8 0, .int .u8 0, .int .u8 0, .int .u8 0, .int .u8 0, .int .u8 0, .int .u8 0, .int .u8 0, .int .i64 0, .int .u8 0, .int .u8 0, .int .u8 0, .int .u8 0, .int .u8 0, .int .u8 0, .int .u8 0, .int .u8 0, .slice none 0 0] hg rfl)
        have HG5 : Hid (w3.heap.size ≤ g5) := by show _ ≤ _; rw [← hg]; exact HBy17.out.size
        have HNE : Hid (g4 ≠ g5) := by have := HZ4y17.out.lt; show g4 ≠ g5; omega
        rw [hy, hg]
        refine hK.out _ _ ⟨HKy23.out, HJy23.out⟩ (fun hHeld => ?_)
        clear hK K hbn hy hg
        try simp only [Act.put, List.setIfInBounds_toArray, List.set_cons_zero, List.set_cons_succ, List.getElem_toArray, List.getElem_cons_zero, List.getElem_cons_succ]
        refine wpAnyH_ready (rs := [1]) (by kernel_rfl) (by simp) ?_
        refine (AllReadyH.cons rfl (fun K hK => ?_) AllReadyH.nil)
        go_simp
        rw [HXE.out]
        refine (HOA.out y23 HXy23.out).mono ?_
        rintro e y24a ⟨⟨v1, rfl, hown⟩, hbn⟩
        obtain ⟨P1, q1, rfl⟩ := own_form hown
        obtain ⟨y24, hy⟩ : ∃ y, y24a = y := ⟨_, rfl⟩
        have hbd : Below y24a.heap.size y24a y24 := hy ▸ Below.refl _ _
        have hsl := own_base (own_keep hown hbd) HBy23.out.size
        have hbn := below_then hbn hbd
        have HBy24 := Lib.hid (below_then HBy23.out hbn); have HKy24 := Lib.hid (HKy23.out.later hbn); have HJy24 := Lib.hid (HJy23.out.later hbn); have HXy24 := Lib.hid (HXy23.out.later hbn); have HYy24 := Lib.hid (HYy23.out.later hbn)
        have HZ4y24 := Lib.hid (HZ4y23.out.later hbn)
        have HZ5y24 := Lib.hid (HZ5y23.out.later hbn)
        have HO1y24 := Lib.hid hsl
        rw [hy]
        refine hK.out _ _ ⟨HKy24.out, HJy24.out⟩ (fun hHeld => ?_)
        clear hK K hown hbn hbd hy hsl
        try simp only [Act.put, List.setIfInBounds_toArray, List.set_cons_zero, List.set_cons_succ, List.getElem_toArray, List.getElem_cons_zero, List.getElem_cons_succ]
        refine wpAnyH_ready (rs := [3]) (by kernel_rfl) (by simp) ?_
        refine (AllReadyH.cons rfl (fun K hK => ?_) AllReadyH.nil)
        go_simp
        rw [HYE.out]
        refine (HOB.out y24 HYy24.out).mono ?_
        rintro e y25a ⟨⟨v3, rfl, hown⟩, hbn⟩
        obtain ⟨P3, q3, rfl⟩ := own_form hown
        obtain ⟨y25, hy⟩ : ∃ y, y25a = y := ⟨_, rfl⟩
        have hbd : Below y25a.heap.size y25a y25 := hy ▸ Below.refl _ _
        have hsl := own_base (own_keep hown hbd) HBy24.out.size
        have hbn := below_then hbn hbd
        have HBy25 := Lib.hid (below_then HBy24.out hbn); have HKy25 := Lib.hid (HKy24.out.later hbn); have HJy25 := Lib.hid (HJy24.out.later hbn); have HXy25 := Lib.hid (HXy24.out.later hbn); have HYy25 := Lib.hid (HYy24.out.later hbn)
        have HO1y25 := Lib.hid (own_keep HO1y24.out hbn)
        have HZ4y25 := Lib.hid (HZ4y24.out.later hbn)
        have HZ5y25 := Lib.hid (HZ5y24.out.later hbn)
        have HO3y25 := Lib.hid hsl
        rw [hy]
        refine hK.out _ _ ⟨HKy25.out, HJy25.out⟩ (fun hHeld => ?_)
        clear hK K hown hbn hbd hy hsl
        try simp only [Act.put, List.setIfInBounds_toArray, List.set_cons_zero, List.set_cons_succ, List.getElem_toArray, List.getElem_cons_zero, List.getElem_cons_succ]
        as_aux_lemma =>
        have HF1 : Hid (BkFit (bkC p h m (.slice P1 N q1))) := bk_fit HPO.out HMO.out
        have HF3 : Hid (BkFit (bkC p' h' m' (.slice P3 N' q3))) := bk_fit HPO'.out HMO'.out
        refine wpAnyH_ready (rs := [6]) (by kernel_rfl) (by simp) ?_
        refine AllReadyH.cons rfl (fun K hK => ?_) AllReadyH.nil
        rw [if_pos (by rfl)]
        refine wp_store_part _ _ _ rfl g4 0 _ (bkC p h m (.slice P1 N q1)) rfl rfl rfl _ ([]) (zBk) ([]) (by simpa using HZ4y25.out) rfl (by rw [HF1.out.len]; rfl) HF1.out.size HF1.out.one ?_
        intro wd hp
        refine hK.out _ _ ⟨HKy25.out.grown hp.only (by intro e; injection e with e; have := HG4.out; have := HZW.out; omega), HJy25.out.grown hp.only (by intro e; injection e with e; have := HG4.out; have := HZW.out; omega)⟩ (fun hHeld => ?_)
        clear hK K
        try simp only [Act.put, List.setIfInBounds_toArray, List.set_cons_zero, List.set_cons_succ, List.getElem_toArray, List.getElem_cons_zero, List.getElem_cons_succ]
        have hb4 : Below w3.heap.size w3 wd := below_only HBy25.out hp.only HBy25.out.size HG4.out
        have k4 : Bk wd g4 31 (bkC p h m (.slice P1 N q1)) := by have := hp.bk; simpa using this
        have k5 : Bk wd g5 31 zBk := HZ5y25.out.grown hp.only (by intro e; injection e with e; have := HNE.out; omega)
        have kz : Bk wd z 25 l := HKy25.out.grown hp.only (by intro e; injection e with e; have := HG4.out; have := HZW.out; omega)
        have kj : Bk wd (z + 1) 25 l' := HJy25.out.grown hp.only (by intro e; injection e with e; have := HG4.out; have := HZW.out; omega)
        have o1 := own_only HO1y25.out hp.only (own_bk_ne HO1y25.out HZ4y25.out (by decide))
        have o3 := own_only HO3y25.out hp.only (own_bk_ne HO3y25.out HZ4y25.out (by decide))
        clear hp
        refine wpAnyH_ready (rs := [7]) (by kernel_rfl) (by simp) ?_
        refine AllReadyH.cons rfl (fun K hK => ?_) AllReadyH.nil
        rw [if_pos (by rfl)]
        refine wp_store_part _ _ _ rfl g5 0 _ (bkC p' h' m' (.slice P3 N' q3)) rfl rfl rfl _ ([]) (zBk) ([]) (by simpa using k5) rfl (by rw [HF3.out.len]; rfl) HF3.out.size HF3.out.one ?_
        intro we hp
        refine hK.out _ _ ⟨kz.grown hp.only (by intro e; injection e with e; have := HG5.out; have := HZW.out; omega), kj.grown hp.only (by intro e; injection e with e; have := HG5.out; have := HZW.out; omega)⟩ (fun hHeld => ?_)
        clear hK K
        try simp only [Act.put, List.setIfInBounds_toArray, List.set_cons_zero, List.set_cons_succ, List.getElem_toArray, List.getElem_cons_zero, List.getElem_cons_succ]
        have k5' := k5
        have hb5 : Below w3.heap.size w3 we := below_only hb4 hp.only hb4.size HG5.out
        have k5 : Bk we g5 31 (bkC p' h' m' (.slice P3 N' q3)) := by have := hp.bk; simpa using this
        have k4 : Bk we g4 31 (bkC p h m (.slice P1 N q1)) := k4.grown hp.only (by intro e; injection e with e; have := HNE.out; omega)
        have o1 := own_only o1 hp.only (own_bk_ne o1 k5' (by decide))
        have o3 := own_only o3 hp.only (own_bk_ne o3 k5' (by decide))
        clear hp
        refine wpAnyH_done rfl ?_ _
        go_wp2_with fail
        go_meet
        exact ⟨g4, g5, P1, P3, q1, q3, rfl, rfl, ⟨⟨k4, xs, ⟨Sl.of_own o1, fun x hx => (HX3.out.th x hx).later hb5⟩, HLL.out⟩, ⟨k5, ys, ⟨Sl.of_own o3, fun x hx => (HY3.out.th x hx).later hb5⟩, HLL'.out⟩, hb5⟩⟩
    ·
      go_simp
      obtain ⟨g5, hg⟩ : ∃ g, y0.heap.size = g := ⟨_, rfl⟩
      obtain ⟨y26, hy⟩ : ∃ y, (y0.alloc (.cells #[.int .u8 0, .int .u8 0, .int .u8 0, .int .u8 0, .int .u8 0, .int .u8 0, .int .u8 0, .int .u8 0, .int .i64 0, .int .u8 0, .int .u8 0, .int .u8 0, .int .u8 0, .int .u8 0, .int .u8 0, .int .u8 0, .int .u8 0, .slice none 0 0] 31)) = y := ⟨_, rfl⟩
      have hbn : Below y0.heap.size y0 y26 := hy ▸ (below_new y0 _)
      have HBy26 := Lib.hid (below_then HBy0.out hbn); have HKy26 := Lib.hid (HKy0.out.later hbn); have HJy26 := Lib.hid (HJy0.out.later hbn); have HXy26 := Lib.hid (HXy0.out.later hbn); have HYy26 := Lib.hid (HYy0.out.later hbn)
      have HZ5y26 : Hid (Bk y26 g5 31 zBk) := hy ▸ (Bk.at_ y0 _ #[.int .u8 0, .int .u8 0, .int .u8 0, .int .u8 0, .int .u8 0, .int .u8 0, .int .u8 0, .int .u8 0, .int .i64 0, .int .u8 0, .int .u8 0, .int .u8 0, .int .u8 0, .int .u8 0, .int .u8 0, .int .u8 0, .int .u8 0, .slice none 0 0] hg rfl)
      have HG5 : Hid (w3.heap.size ≤ g5) := by show _ ≤ _; rw [← hg]; exact HBy0.out.size
      rw [hy, hg]
      refine hK.out _ _ ⟨HKy26.out, HJy26.out⟩ (fun hHeld => ?_)
      clear hK K hbn hy hg
      try simp only [Act.put, List.setIfInBounds_toArray, List.set_cons_zero, List.set_cons_succ, List.getElem_toArray, List.getElem_cons_zero, List.getElem_cons_succ]
      refine wpAnyH_ready (rs := [1, 4]) (by kernel_rfl) (by simp) ?_
      refine (AllReadyH.cons rfl (fun K hK => ?_) (AllReadyH.cons rfl (fun K hK => ?_) AllReadyH.nil))
      ·
        go_simp
        rw [HXE.out]
        refine (HOA.out y26 HXy26.out).mono ?_
        rintro e y27a ⟨⟨v1, rfl, hown⟩, hbn⟩
        obtain ⟨P1, q1, rfl⟩ := own_form hown
        obtain ⟨y27, hy⟩ : ∃ y, y27a = y := ⟨_, rfl⟩
        have hbd : Below y27a.heap.size y27a y27 := hy ▸ Below.refl _ _
        have hsl := own_base (own_keep hown hbd) HBy26.out.size
        have hbn := below_then hbn hbd
        have HBy27 := Lib.hid (below_then HBy26.out hbn); have HKy27 := Lib.hid (HKy26.out.later hbn); have HJy27 := Lib.hid (HJy26.out.later hbn); have HXy27 := Lib.hid (HXy26.out.later hbn); have HYy27 := Lib.hid (HYy26.out.later hbn)
        have HZ5y27 := Lib.hid (HZ5y26.out.later hbn)
        have HO1y27 := Lib.hid hsl
        rw [hy]
        refine hK.out _ _ ⟨HKy27.out, HJy27.out⟩ (fun hHeld => ?_)
        clear hK K hown hbn hbd hy hsl
        try simp only [Act.put, List.setIfInBounds_toArray, List.set_cons_zero, List.set_cons_succ, List.getElem_toArray, List.getElem_cons_zero, List.getElem_cons_succ]
        refine wpAnyH_ready (rs := [3, 4]) (by kernel_rfl) (by simp) ?_
        refine (AllReadyH.cons rfl (fun K hK => ?_) (AllReadyH.cons rfl (fun K hK => ?_) AllReadyH.nil))
        ·
          go_simp
          rw [HYE.out]
          refine (HOB.out y27 HYy27.out).mono ?_
          rintro e y28a ⟨⟨v3, rfl, hown⟩, hbn⟩
          obtain ⟨P3, q3, rfl⟩ := own_form hown
          obtain ⟨y28, hy⟩ : ∃ y, y28a = y := ⟨_, rfl⟩
          have hbd : Below y28a.heap.size y28a y28 := hy ▸ Below.refl _ _
          have hsl := own_base (own_keep hown hbd) HBy27.out.size
          have hbn := below_then hbn hbd
          have HBy28 := Lib.hid (below_then HBy27.out hbn); have HKy28 := Lib.hid (HKy27.out.later hbn); have HJy28 := Lib.hid (HJy27.out.later hbn); have HXy28 := Lib.hid (HXy27.out.later hbn); have HYy28 := Lib.hid (HYy27.out.later hbn)
          have HO1y28 := Lib.hid (own_keep HO1y27.out hbn)
          have HZ5y28 := Lib.hid (HZ5y27.out.later hbn)
          have HO3y28 := Lib.hid hsl
          rw [hy]
          refine hK.out _ _ ⟨HKy28.out, HJy28.out⟩ (fun hHeld => ?_)
          clear hK K hown hbn hbd hy hsl
          try simp only [Act.put, List.setIfInBounds_toArray, List.set_cons_zero, List.set_cons_succ, List.getElem_toArray, List.getElem_cons_zero, List.getElem_cons_succ]
          refine wpAnyH_ready (rs := [4]) (by kernel_rfl) (by simp) ?_
          refine (AllReadyH.cons rfl (fun K hK => ?_) AllReadyH.nil)
          go_simp
          obtain ⟨g4, hg⟩ : ∃ g, y28.heap.size = g := ⟨_, rfl⟩
          obtain ⟨y29, hy⟩ : ∃ y, (y28.alloc (.cells #[.int .u8 0, .int .u8 0, .int .u8 0, .int .u8 0, .int .u8 0, .int .u8 0, .int .u8 0, .int .u8 0, .int .i64 0, .int .u8 0, .int .u8 0, .int .u8 0, .int .u8 0, .int .u8 0, .int .u8 0, .int .u8 0, .int .u8 0, .slice none 0 0] 31)) = y := ⟨_, rfl⟩
          have hbn : Below y28.heap.size y28 y29 := hy ▸ (below_new y28 _)
          have HBy29 := Lib.hid (below_then HBy28.out hbn); have HKy29 := Lib.hid (HKy28.out.later hbn); have HJy29 := Lib.hid (HJy28.out.later hbn); have HXy29 := Lib.hid (HXy28.out.later hbn); have HYy29 := Lib.hid (HYy28.out.later hbn)
          have HO1y29 := Lib.hid (own_keep HO1y28.out hbn)
          have HO3y29 := Lib.hid (own_keep HO3y28.out hbn)
          have HZ5y29 := Lib.hid (HZ5y28.out.later hbn)
          have HZ4y29 : Hid (Bk y29 g4 31 zBk) := hy ▸ (Bk.at_ y28 _ #[.int .u8 0, .int .u8 0, .int .u8 0, .int .u8 0, .int .u8 0, .int .u8 0, .int .u8 0, .int .u8 0, .int .i64 0, .int .u8 0, .int .u8 0, .int .u8 0, .int .u8 0, .int .u8 0, .int .u8 0, .int .u8 0, .int .u8 0, .slice none 0 0] hg rfl)
          have HG4 : Hid (w3.heap.size ≤ g4) := by show _ ≤ _; rw [← hg]; exact HBy28.out.size
          have HNE : Hid (g4 ≠ g5) := by have := HZ5y28.out.lt; show g4 ≠ g5; omega
          rw [hy, hg]
          refine hK.out _ _ ⟨HKy29.out, HJy29.out⟩ (fun hHeld => ?_)
          clear hK K hbn hy hg
          try simp only [Act.put, List.setIfInBounds_toArray, List.set_cons_zero, List.set_cons_succ, List.getElem_toArray, List.getElem_cons_zero, List.getElem_cons_succ]
          as_aux_lemma =>
          have HF1 : Hid (BkFit (bkC p h m (.slice P1 N q1))) := bk_fit HPO.out HMO.out
          have HF3 : Hid (BkFit (bkC p' h' m' (.slice P3 N' q3))) := bk_fit HPO'.out HMO'.out
          refine wpAnyH_ready (rs := [6]) (by kernel_rfl) (by simp) ?_
          refine AllReadyH.cons rfl (fun K hK => ?_) AllReadyH.nil
          rw [if_pos (by rfl)]
          refine wp_store_part _ _ _ rfl g4 0 _ (bkC p h m (.slice P1 N q1)) rfl rfl rfl _ ([]) (zBk) ([]) (by simpa using HZ4y29.out) rfl (by rw [HF1.out.len]; rfl) HF1.out.size HF1.out.one ?_
          intro wd hp
          refine hK.out _ _ ⟨HKy29.out.grown hp.only (by intro e; injection e with e; have := HG4.out; have := HZW.out; omega), HJy29.out.grown hp.only (by intro e; injection e with e; have := HG4.out; have := HZW.out; omega)⟩ (fun hHeld => ?_)
          clear hK K
          try simp only [Act.put, List.setIfInBounds_toArray, List.set_cons_zero, List.set_cons_succ, List.getElem_toArray, List.getElem_cons_zero, List.getElem_cons_succ]
          have hb4 : Below w3.heap.size w3 wd := below_only HBy29.out hp.only HBy29.out.size HG4.out
          have k4 : Bk wd g4 31 (bkC p h m (.slice P1 N q1)) := by have := hp.bk; simpa using this
          have k5 : Bk wd g5 31 zBk := HZ5y29.out.grown hp.only (by intro e; injection e with e; have := HNE.out; omega)
          have kz : Bk wd z 25 l := HKy29.out.grown hp.only (by intro e; injection e with e; have := HG4.out; have := HZW.out; omega)
          have kj : Bk wd (z + 1) 25 l' := HJy29.out.grown hp.only (by intro e; injection e with e; have := HG4.out; have := HZW.out; omega)
          have o1 := own_only HO1y29.out hp.only (own_bk_ne HO1y29.out HZ4y29.out (by decide))
          have o3 := own_only HO3y29.out hp.only (own_bk_ne HO3y29.out HZ4y29.out (by decide))
          clear hp
          refine wpAnyH_ready (rs := [7]) (by kernel_rfl) (by simp) ?_
          refine AllReadyH.cons rfl (fun K hK => ?_) AllReadyH.nil
          rw [if_pos (by rfl)]
          refine wp_store_part _ _ _ rfl g5 0 _ (bkC p' h' m' (.slice P3 N' q3)) rfl rfl rfl _ ([]) (zBk) ([]) (by simpa using k5) rfl (by rw [HF3.out.len]; rfl) HF3.out.size HF3.out.one ?_
          intro we hp
          refine hK.out _ _ ⟨kz.grown hp.only (by intro e; injection e with e; have := HG5.out; have := HZW.out; omega), kj.grown hp.only (by intro e; injection e with e; have := HG5.out; have := HZW.out; omega)⟩ (fun hHeld => ?_)
          clear hK K
          try simp only [Act.put, List.setIfInBounds_toArray, List.set_cons_zero, List.set_cons_succ, List.getElem_toArray, List.getElem_cons_zero, List.getElem_cons_succ]
          have k5' := k5
          have hb5 : Below w3.heap.size w3 we := below_only hb4 hp.only hb4.size HG5.out
          have k5 : Bk we g5 31 (bkC p' h' m' (.slice P3 N' q3)) := by have := hp.bk; simpa using this
          have k4 : Bk we g4 31 (bkC p h m (.slice P1 N q1)) := k4.grown hp.only (by intro e; injection e with e; have := HNE.out; omega)
          have o1 := own_only o1 hp.only (own_bk_ne o1 k5' (by decide))
          have o3 := own_only o3 hp.only (own_bk_ne o3 k5' (by decide))
          clear hp
          refine wpAnyH_done rfl ?_ _
          go_wp2_with fail
          go_meet
          exact ⟨g4, g5, P1, P3, q1, q3, rfl, rfl, ⟨⟨k4, xs, ⟨Sl.of_own o1, fun x hx => (HX3.out.th x hx).later hb5⟩, HLL.out⟩, ⟨k5, ys, ⟨Sl.of_own o3, fun x hx => (HY3.out.th x hx).later hb5⟩, HLL'.out⟩, hb5⟩⟩
        ·
          go_simp
          obtain ⟨g4, hg⟩ : ∃ g, y27.heap.size = g := ⟨_, rfl⟩
          obtain ⟨y30, hy⟩ : ∃ y, (y27.alloc (.cells #[.int .u8 0, .int .u8 0, .int .u8 0, .int .u8 0, .int .u8 0, .int .u8 0, .int .u8 0, .int .u8 0, .int .i64 0, .int .u8 0, .int .u8 0, .int .u8 0, .int .u8 0, .int .u8 0, .int .u8 0, .int .u8 0, .int .u8 0, .slice none 0 0] 31)) = y := ⟨_, rfl⟩
          have hbn : Below y27.heap.size y27 y30 := hy ▸ (below_new y27 _)
          have HBy30 := Lib.hid (below_then HBy27.out hbn); have HKy30 := Lib.hid (HKy27.out.later hbn); have HJy30 := Lib.hid (HJy27.out.later hbn); have HXy30 := Lib.hid (HXy27.out.later hbn); have HYy30 := Lib.hid (HYy27.out.later hbn)
          have HO1y30 := Lib.hid (own_keep HO1y27.out hbn)
          have HZ5y30 := Lib.hid (HZ5y27.out.later hbn)
          have HZ4y30 : Hid (Bk y30 g4 31 zBk) := hy ▸ (Bk.at_ y27 _ #[.int .u8 0, .int .u8 0, .int .u8 0, .int .u8 0, .int .u8 0, .int .u8 0, .int .u8 0, .int .u8 0, .int .i64 0, .int .u8 0, .int .u8 0, .int .u8 0, .int .u8 0, .int .u8 0, .int .u8 0, .int .u8 0, .int .u8 0, .slice none 0 0] hg rfl)
          have HG4 : Hid (w3.heap.size ≤ g4) := by show _ ≤ _; rw [← hg]; exact HBy27.out.size
          have HNE : Hid (g4 ≠ g5) := by have := HZ5y27.out.lt; show g4 ≠ g5; omega
          rw [hy, hg]
          refine hK.out _ _ ⟨HKy30.out, HJy30.out⟩ (fun hHeld => ?_)
          clear hK K hbn hy hg
          try simp only [Act.put, List.setIfInBounds_toArray, List.set_cons_zero, List.set_cons_succ, List.getElem_toArray, List.getElem_cons_zero, List.getElem_cons_succ]
          refine wpAnyH_ready (rs := [3]) (by kernel_rfl) (by simp) ?_
          refine (AllReadyH.cons rfl (fun K hK => ?_) AllReadyH.nil)
          go_simp
          rw [HYE.out]
          refine (HOB.out y30 HYy30.out).mono ?_
          rintro e y31a ⟨⟨v3, rfl, hown⟩, hbn⟩
          obtain ⟨P3, q3, rfl⟩ := own_form hown
          obtain ⟨y31, hy⟩ : ∃ y, y31a = y := ⟨_, rfl⟩
          have hbd : Below y31a.heap.size y31a y31 := hy ▸ Below.refl _ _
          have hsl := own_base (own_keep hown hbd) HBy30.out.size
          have hbn := below_then hbn hbd
          have HBy31 := Lib.hid (below_then HBy30.out hbn); have HKy31 := Lib.hid (HKy30.out.later hbn); have HJy31 := Lib.hid (HJy30.out.later hbn); have HXy31 := Lib.hid (HXy30.out.later hbn); have HYy31 := Lib.hid (HYy30.out.later hbn)
          have HO1y31 := Lib.hid (own_keep HO1y30.out hbn)
          have HZ4y31 := Lib.hid (HZ4y30.out.later hbn)
          have HZ5y31 := Lib.hid (HZ5y30.out.later hbn)
          have HO3y31 := Lib.hid hsl
          rw [hy]
          refine hK.out _ _ ⟨HKy31.out, HJy31.out⟩ (fun hHeld => ?_)
          clear hK K hown hbn hbd hy hsl
          try simp only [Act.put, List.setIfInBounds_toArray, List.set_cons_zero, List.set_cons_succ, List.getElem_toArray, List.getElem_cons_zero, List.getElem_cons_succ]
          as_aux_lemma =>
          have HF1 : Hid (BkFit (bkC p h m (.slice P1 N q1))) := bk_fit HPO.out HMO.out
          have HF3 : Hid (BkFit (bkC p' h' m' (.slice P3 N' q3))) := bk_fit HPO'.out HMO'.out
          refine wpAnyH_ready (rs := [6]) (by kernel_rfl) (by simp) ?_
          refine AllReadyH.cons rfl (fun K hK => ?_) AllReadyH.nil
          rw [if_pos (by rfl)]
          refine wp_store_part _ _ _ rfl g4 0 _ (bkC p h m (.slice P1 N q1)) rfl rfl rfl _ ([]) (zBk) ([]) (by simpa using HZ4y31.out) rfl (by rw [HF1.out.len]; rfl) HF1.out.size HF1.out.one ?_
          intro wd hp
          refine hK.out _ _ ⟨HKy31.out.grown hp.only (by intro e; injection e with e; have := HG4.out; have := HZW.out; omega), HJy31.out.grown hp.only (by intro e; injection e with e; have := HG4.out; have := HZW.out; omega)⟩ (fun hHeld => ?_)
          clear hK K
          try simp only [Act.put, List.setIfInBounds_toArray, List.set_cons_zero, List.set_cons_succ, List.getElem_toArray, List.getElem_cons_zero, List.getElem_cons_succ]
          have hb4 : Below w3.heap.size w3 wd := below_only HBy31.out hp.only HBy31.out.size HG4.out
          have k4 : Bk wd g4 31 (bkC p h m (.slice P1 N q1)) := by have := hp.bk; simpa using this
          have k5 : Bk wd g5 31 zBk := HZ5y31.out.grown hp.only (by intro e; injection e with e; have := HNE.out; omega)
          have kz : Bk wd z 25 l := HKy31.out.grown hp.only (by intro e; injection e with e; have := HG4.out; have := HZW.out; omega)
          have kj : Bk wd (z + 1) 25 l' := HJy31.out.grown hp.only (by intro e; injection e with e; have := HG4.out; have := HZW.out; omega)
          have o1 := own_only HO1y31.out hp.only (own_bk_ne HO1y31.out HZ4y31.out (by decide))
          have o3 := own_only HO3y31.out hp.only (own_bk_ne HO3y31.out HZ4y31.out (by decide))
          clear hp
          refine wpAnyH_ready (rs := [7]) (by kernel_rfl) (by simp) ?_
          refine AllReadyH.cons rfl (fun K hK => ?_) AllReadyH.nil
          rw [if_pos (by rfl)]
          refine wp_store_part _ _ _ rfl g5 0 _ (bkC p' h' m' (.slice P3 N' q3)) rfl rfl rfl _ ([]) (zBk) ([]) (by simpa using k5) rfl (by rw [HF3.out.len]; rfl) HF3.out.size HF3.out.one ?_
          intro we hp
          refine hK.out _ _ ⟨kz.grown hp.only (by intro e; injection e with e; have := HG5.out; have := HZW.out; omega), kj.grown hp.only (by intro e; injection e with e; have := HG5.out; have := HZW.out; omega)⟩ (fun hHeld => ?_)
          clear hK K
          try simp only [Act.put, List.setIfInBounds_toArray, List.set_cons_zero, List.set_cons_succ, List.getElem_toArray, List.getElem_cons_zero, List.getElem_cons_succ]
          have k5' := k5
          have hb5 : Below w3.heap.size w3 we := below_only hb4 hp.only hb4.size HG5.out
          have k5 : Bk we g5 31 (bkC p' h' m' (.slice P3 N' q3)) := by have := hp.bk; simpa using this
          have k4 : Bk we g4 31 (bkC p h m (.slice P1 N q1)) := k4.grown hp.only (by intro e; injection e with e; have := HNE.out; omega)
          have o1 := own_only o1 hp.only (own_bk_ne o1 k5' (by decide))
          have o3 := own_only o3 hp.only (own_bk_ne o3 k5' (by decide))
          clear hp
          refine wpAnyH_done rfl ?_ _
          go_wp2_with fail
          go_meet
          exact ⟨g4, g5, P1, P3, q1, q3, rfl, rfl, ⟨⟨k4, xs, ⟨Sl.of_own o1, fun x hx => (HX3.out.th x hx).later hb5⟩, HLL.out⟩, ⟨k5, ys, ⟨Sl.of_own o3, fun x hx => (HY3.out.th x hx).later hb5⟩, HLL'.out⟩, hb5⟩⟩
      ·
        go_simp
        obtain ⟨g4, hg⟩ : ∃ g, y26.heap.size = g := ⟨_, rfl⟩
        obtain ⟨y32, hy⟩ : ∃ y, (y26.alloc (.cells #[.int .u8 0, .int .u8 0, .int .u8 0, .int .u8 0, .int .u8 0, .int .u8 0, .int .u8 0, .int .u8 0, .int .i64 0, .int .u8 0, .int .u8 0, .int .u8 0, .int .u8 0, .int .u8 0, .int .u8 0, .int .u8 0, .int .u8 0, .slice none 0 0] 31)) = y := ⟨_, rfl⟩
        have hbn : Below y26.heap.size y26 y32 := hy ▸ (below_new y26 _)
        have HBy32 := Lib.hid (below_then HBy26.out hbn); have HKy32 := Lib.hid (HKy26.out.later hbn); have HJy32 := Lib.hid (HJy26.out.later hbn); have HXy32 := Lib.hid (HXy26.out.later hbn); have HYy32 := Lib.hid (HYy26.out.later hbn)
        have HZ5y32 := Lib.hid (HZ5y26.out.later hbn)
        have HZ4y32 : Hid (Bk y32 g4 31 zBk) := hy ▸ (Bk.at_ y26 _ #[.int .u8 0, .int .u8 0, .int .u8 0, .int .u8 0, .int .u8 0, .int .u8 0, .int .u8 0, .int .u8 0, .int .i64 0, .int .u8 0, .int .u8 0, .int .u8 0, .int .u8 0, .int .u8 0, .int .u8 0, .int .u8 0, .int .u8 0, .slice none 0 0] hg rfl)
        have HG4 : Hid (w3.heap.size ≤ g4) := by show _ ≤ _; rw [← hg]; exact HBy26.out.size
        have HNE : Hid (g4 ≠ g5) := by have := HZ5y26.out.lt; show g4 ≠ g5; omega
        rw [hy, hg]
        refine hK.out _ _ ⟨HKy32.out, HJy32.out⟩ (fun hHeld => ?_)
        clear hK K hbn hy hg
        try simp only [Act.put, List.setIfInBounds_toArray, List.set_cons_zero, List.set_cons_succ, List.getElem_toArray, List.getElem_cons_zero, List.getElem_cons_succ]
        refine wpAnyH_ready (rs := [1]) (by kernel_rfl) (by simp) ?_
        refine (AllReadyH.cons rfl (fun K hK => ?_) AllReadyH.nil)
        go_simp
        rw [HXE.out]
        refine (HOA.out y32 HXy32.out).mono ?_
        rintro e y33a ⟨⟨v1, rfl, hown⟩, hbn⟩
        obtain ⟨P1, q1, rfl⟩ := own_form hown
        obtain ⟨y33, hy⟩ : ∃ y, y33a = y := ⟨_, rfl⟩
        have hbd : Below y33a.heap.size y33a y33 := hy ▸ Below.refl _ _
        have hsl := own_base (own_keep hown hbd) HBy32.out.size
        have hbn := below_then hbn hbd
        have HBy33 := Lib.hid (below_then HBy32.out hbn); have HKy33 := Lib.hid (HKy32.out.later hbn); have HJy33 := Lib.hid (HJy32.out.later hbn); have HXy33 := Lib.hid (HXy32.out.later hbn); have HYy33 := Lib.hid (HYy32.out.later hbn)
        have HZ4y33 := Lib.hid (HZ4y32.out.later hbn)
        have HZ5y33 := Lib.hid (HZ5y32.out.later hbn)
        have HO1y33 := Lib.hid hsl
        rw [hy]
        refine hK.out _ _ ⟨HKy33.out, HJy33.out⟩ (fun hHeld => ?_)
        clear hK K hown hbn hbd hy hsl
        try simp only [Act.put, List.setIfInBounds_toArray, List.set_cons_zero, List.set_cons_succ, List.getElem_toArray, List.getElem_cons_zero, List.getElem_cons_succ]
        refine wpAnyH_ready (rs := [3]) (by kernel_rfl) (by simp) ?_
        refine (AllReadyH.cons rfl (fun K hK => ?_) AllReadyH.nil)
        go_simp
        rw [HYE.out]
        refine (HOB.out y33 HYy33.out).mono ?_
        rintro e y34a ⟨⟨v3, rfl, hown⟩, hbn⟩
        obtain ⟨P3, q3, rfl⟩ := own_form hown
        obtain ⟨y34, hy⟩ : ∃ y, y34a = y := ⟨_, rfl⟩
        have hbd : Below y34a.heap.size y34a y34 := hy ▸ Below.refl _ _
        have hsl := own_base (own_keep hown hbd) HBy33.out.size
        have hbn := below_then hbn hbd
        have HBy34 := Lib.hid (below_then HBy33.out hbn); have HKy34 := Lib.hid (HKy33.out.later hbn); have HJy34 := Lib.hid (HJy33.out.later hbn); have HXy34 := Lib.hid (HXy33.out.later hbn); have HYy34 := Lib.hid (HYy33.out.later hbn)
        have HO1y34 := Lib.hid (own_keep HO1y33.out hbn)
        have HZ4y34 := Lib.hid (HZ4y33.out.later hbn)
        have HZ5y34 := Lib.hid (HZ5y33.out.later hbn)
        have HO3y34 := Lib.hid hsl
        rw [hy]
        refine hK.out _ _ ⟨HKy34.out, HJy34.out⟩ (fun hHeld => ?_)
        clear hK K hown hbn hbd hy hsl
        try simp only [Act.put, List.setIfInBounds_toArray, List.set_cons_zero, List.set_cons_succ, List.getElem_toArray, List.getElem_cons_zero, List.getElem_cons_succ]
        as_aux_lemma =>
        have HF1 : Hid (BkFit (bkC p h m (.slice P1 N q1))) := bk_fit HPO.out HMO.out
        have HF3 : Hid (BkFit (bkC p' h' m' (.slice P3 N' q3))) := bk_fit HPO'.out HMO'.out
        refine wpAnyH_ready (rs := [6]) (by kernel_rfl) (by simp) ?_
        refine AllReadyH.cons rfl (fun K hK => ?_) AllReadyH.nil
        rw [if_pos (by rfl)]
        refine wp_store_part _ _ _ rfl g4 0 _ (bkC p h m (.slice P1 N q1)) rfl rfl rfl _ ([]) (zBk) ([]) (by simpa using HZ4y34.out) rfl (by rw [HF1.out.len]; rfl) HF1.out.size HF1.out.one ?_
        intro wd hp
        refine hK.out _ _ ⟨HKy34.out.grown hp.only (by intro e; injection e with e; have := HG4.out; have := HZW.out; omega), HJy34.out.grown hp.only (by intro e; injection e with e; have := HG4.out; have := HZW.out; omega)⟩ (fun hHeld => ?_)
        clear hK K
        try simp only [Act.put, List.setIfInBounds_toArray, List.set_cons_zero, List.set_cons_succ, List.getElem_toArray, List.getElem_cons_zero, List.getElem_cons_succ]
        have hb4 : Below w3.heap.size w3 wd := below_only HBy34.out hp.only HBy34.out.size HG4.out
        have k4 : Bk wd g4 31 (bkC p h m (.slice P1 N q1)) := by have := hp.bk; simpa using this
        have k5 : Bk wd g5 31 zBk := HZ5y34.out.grown hp.only (by intro e; injection e with e; have := HNE.out; omega)
        have kz : Bk wd z 25 l := HKy34.out.grown hp.only (by intro e; injection e with e; have := HG4.out; have := HZW.out; omega)
        have kj : Bk wd (z + 1) 25 l' := HJy34.out.grown hp.only (by intro e; injection e with e; have := HG4.out; have := HZW.out; omega)
        have o1 := own_only HO1y34.out hp.only (own_bk_ne HO1y34.out HZ4y34.out (by decide))
        have o3 := own_only HO3y34.out hp.only (own_bk_ne HO3y34.out HZ4y34.out (by decide))
        clear hp
        refine wpAnyH_ready (rs := [7]) (by kernel_rfl) (by simp) ?_
        refine AllReadyH.cons rfl (fun K hK => ?_) AllReadyH.nil
        rw [if_pos (by rfl)]
        refine wp_store_part _ _ _ rfl g5 0 _ (bkC p' h' m' (.slice P3 N' q3)) rfl rfl rfl _ ([]) (zBk) ([]) (by simpa using k5) rfl (by rw [HF3.out.len]; rfl) HF3.out.size HF3.out.one ?_
        intro we hp
        refine hK.out _ _ ⟨kz.grown hp.only (by intro e; injection e with e; have := HG5.out; have := HZW.out; omega), kj.grown hp.only (by intro e; injection e with e; have := HG5.out; have := HZW.out; omega)⟩ (fun hHeld => ?_)
        clear hK K
        try simp only [Act.put, List.setIfInBounds_toArray, List.set_cons_zero, List.set_cons_succ, List.getElem_toArray, List.getElem_cons_zero, List.getElem_cons_succ]
        have k5' := k5
        have hb5 : Below w3.heap.size w3 we := below_only hb4 hp.only hb4.size HG5.out
        have k5 : Bk we g5 31 (bkC p' h' m' (.slice P3 N' q3)) := by have := hp.bk; simpa using this
        have k4 : Bk we g4 31 (bkC p h m (.slice P1 N q1)) := k4.grown hp.only (by intro e; injection e with e; have := HNE.out; omega)
        have o1 := own_only o1 hp.only (own_bk_ne o1 k5' (by decide))
        have o3 := own_only o3 hp.only (own_bk_ne o3 k5' (by decide))
        clear hp
        refine wpAnyH_done rfl ?_ _
        go_wp2_with fail
        go_meet
        exact ⟨g4, g5, P1, P3, q1, q3, rfl, rfl, ⟨⟨k4, xs, ⟨Sl.of_own o1, fun x hx => (HX3.out.th x hx).later hb5⟩, HLL.out⟩, ⟨k5, ys, ⟨Sl.of_own o3, fun x hx => (HY3.out.th x hx).later hb5⟩, HLL'.out⟩, hb5⟩⟩
  obtain ⟨gX, gY, P1, P3, q1, q3, rfl, rfl, hTB⟩ := hcut
  have HTXc := Lib.hid hTB.x; have HTYc := Lib.hid hTB.y; have HBC := Lib.hid hTB.bl
  have hbn := hTB.bl
  have HBBc := Lib.hid (below_then HBB3.out hbn)
  have HKc := Lib.hid (HK3.out.later hbn)
  have HJc := Lib.hid (HJ3.out.later hbn)
  have HXc := Lib.hid (HX3.out.later hbn)
  have HYc := Lib.hid (HY3.out.later hbn)
  clear hbn
  clear hTB HK3 HJ3 HX3 HY3 HBB3 HBC
  refine ‹∀ (a : Act) (w : World), Code.wp _ _ _ a w → _› _ _ ?_
  have HFX : Hid (BkFit (bkC p h m (.slice P1 N q1))) := bk_fit HPO.out HMO.out
  have HFY : Hid (BkFit (bkC p' h' m' (.slice P3 N' q3))) := bk_fit HPO'.out HMO'.out
  have HEL : Hid (∀ t ∈ L, t.b.length ≤ 4294967296 ∧ t.s.length ≤ 4294967296) := fun t ht => by have := HEA.out t ht; omega
  have hcl := HTXc.out.clone HPO.out HMO.out (by have := HN.out; omega) HEL.out
  have HSXY := Lib.hid (fun w' (k : BkAt w' gX p h m P1 N q1 L) (k' : BkAt w' gY p' h' m' P3 N' q3 L') => k.same k' HPO.out HMO.out HPO'.out HMO'.out)
  have HSXX := Lib.hid (fun w' (k : BkAt w' gX p h m P1 N q1 L) => k.same k HPO.out HMO.out HPO.out HMO.out)
  have HSCX := Lib.hid (fun w' (g : Nat) (B : Option Addr) (D : Nat) (L2 : List TxT) (k' : BkAt w' g p h m B N D L2) (k : BkAt w' gX p h m P1 N q1 L) => k'.same k HPO.out HMO.out HPO.out HMO.out)
  have HTOX := Lib.hid (fun w' (zs : List (List Value × TxT)) (hz' : Txs w' P1 N zs) => to_any w' p h m HPO.out HMO.out P1 N q1 zs hz' (by have := HN.out; omega))
  have HBX := Lib.hid (fun (w' : World) (k : BkAt w' gX p h m P1 N q1 L) => k.bk)
  have HBY := Lib.hid (fun (w' : World) (k : BkAt w' gY p' h' m' P3 N' q3 L') => k.bk)
  obtain ⟨CX, hCX⟩ : ∃ l, bkC p h m (.slice P1 N q1) = l := ⟨_, rfl⟩
  obtain ⟨CY, hCY⟩ : ∃ l, bkC p' h' m' (.slice P3 N' q3) = l := ⟨_, rfl⟩
  rw [hCX] at HFX hcl HSXY HSXX HSCX HTOX HBX
  rw [hCY] at HFY HSXY HBY
  rw [sameB_refl] at HSXX
  have HCL := Lib.hid hcl
  clear hcl hCX hCY
  go_wp2_with (with_reducible refine wpList_load_bk rfl 31 _ rfl gX rfl CX 31 (HBX.out _ HTXc.out) _ Tryd.underlying31 rfl HFX.out.size ?_)
  refine HCL.out.mono ?_
  rintro e w4 ⟨⟨v, zs7, rfl, hown⟩, hbn⟩
  obtain ⟨A7, c7, rfl⟩ := own_form hown.own
  have HOw4 := Lib.hid hown; have HBQ4 := Lib.hid hbn
  have HBB4 := Lib.hid (below_then HBBc.out hbn)
  have HK4 := Lib.hid (HKc.out.later hbn)
  have HJ4 := Lib.hid (HJc.out.later hbn)
  have HX4 := Lib.hid (HXc.out.later hbn)
  have HY4 := Lib.hid (HYc.out.later hbn)
  have HTX4 := Lib.hid (HTXc.out.later hbn)
  have HTY4 := Lib.hid (HTYc.out.later hbn)
  clear hbn
  have HF7 : Hid (BkFit (bkC p h m (.slice A7 N c7))) := bk_fit HPO.out HMO.out
  clear hown HCL
  go_wp2_with (with_reducible refine stop_store 31 _ _ rfl ?_)
  refine StopD.go ?_
  obtain ⟨g5, hg5⟩ : ∃ g, w4.heap.size = g := ⟨_, rfl⟩
  have hbn : Below w4.heap.size w4 (w4.alloc (.cells #[.int .u8 0, .int .u8 0, .int .u8 0, .int .u8 0, .int .u8 0, .int .u8 0, .int .u8 0, .int .u8 0, .int .i64 0, .int .u8 0, .int .u8 0, .int .u8 0, .int .u8 0, .int .u8 0, .int .u8 0, .int .u8 0, .int .u8 0, .slice none 0 0] 31)) := below_new w4 _
  have kt : Bk (w4.alloc (.cells #[.int .u8 0, .int .u8 0, .int .u8 0, .int .u8 0, .int .u8 0, .int .u8 0, .int .u8 0, .int .u8 0, .int .i64 0, .int .u8 0, .int .u8 0, .int .u8 0, .int .u8 0, .int .u8 0, .int .u8 0, .int .u8 0, .int .u8 0, .slice none 0 0] 31)) g5 31 ([] ++ (zBk ++ [])) := by rw [← hg5]; exact Bk.new' w4 _ #[.int .u8 0, .int .u8 0, .int .u8 0, .int .u8 0, .int .u8 0, .int .u8 0, .int .u8 0, .int .u8 0, .int .i64 0, .int .u8 0, .int .u8 0, .int .u8 0, .int .u8 0, .int .u8 0, .int .u8 0, .int .u8 0, .int .u8 0, .slice none 0 0] rfl
  rw [hg5]
  refine wpList_store_part rfl 31 _ _ rfl g5 0 (.agg (bkC p h m (.slice A7 N c7)).toArray) (bkC p h m (.slice A7 N c7)) rfl rfl rfl 31 [] zBk [] kt rfl (by rw [HF7.out.len]; rfl) HF7.out.size HF7.out.one ?_
  intro w5 hp
  have hbn : Below w4.heap.size w4 w5 := hbn.grown hp.only hbn.size (fun q hq => by injection hq with hq; omega)
  have HM5 : Hid (Bk w5 g5 31 (bkC p h m (.slice A7 N c7))) := by show Bk _ _ _ _; have := hp.bk; simpa using this
  clear hp kt
  have HOw5 := Lib.hid (HOw4.out.later hbn)
  have HGE : Hid (wc.heap.size ≤ g5) := by show _ ≤ g5; have := HBQ4.out.size; omega
  have HBQ5 := Lib.hid (below_then HBQ4.out hbn)
  have HBB5 := Lib.hid (below_then HBB4.out hbn)
  have HK5 := Lib.hid (HK4.out.later hbn)
  have HJ5 := Lib.hid (HJ4.out.later hbn)
  have HX5 := Lib.hid (HX4.out.later hbn)
  have HY5 := Lib.hid (HY4.out.later hbn)
  have HTX5 := Lib.hid (HTX4.out.later hbn)
  have HTY5 := Lib.hid (HTY4.out.later hbn)
  clear hbn
  clear hg5 HK4 HJ4 HX4 HY4 HTX4 HTY4 HOw4 HBQ4
  have HMA5 : Hid (BkAt w5 g5 p h m A7 N c7 L) := ⟨HM5.out, zs7, HOw5.out.txs, HOw5.out.map⟩
  have HBM := Lib.hid (fun (w' : World) (L2 : List TxT) (k : BkAt w' g5 p h m A7 N c7 L2) => k.bk)
  have HC7 : Hid (∀ w' g', Bk w' g' 31 (bkC p h m (.slice A7 N c7)) → BkcM w' g' p h m (.slice A7 N c7)) := fun w' g' k => bkc_mem HPO.out HMO.out k
  have HSC2 := Lib.hid (fun w' (L2 : List TxT) (k' : BkAt w' g5 p h m A7 N c7 L2) (k : BkAt w' gX p h m P1 N q1 L) => HSCX.out w' g5 A7 c7 L2 k' k)
  have HMK := Lib.hid (fun (w' : World) (L2 : List TxT) (b : Bk w' g5 31 (bkC p h m (.slice A7 N c7))) (t : ∃ xs, Txs w' A7 N xs ∧ xs.map (·.2) = L2) => (⟨b, t⟩ : BkAt w' g5 p h m A7 N c7 L2))
  obtain ⟨C7, hC7⟩ : ∃ l, bkC p h m (.slice A7 N c7) = l := ⟨_, rfl⟩
  rw [hC7] at HF7 HM5 HBM HC7 HSC2 HMK
  clear hC7 HSCX
  go_wp2_with fail
  refine wp_region_held_drew (S := fun w' => Bk w' gX 31 CX ∧ Bk w' gY 31 CY ∧ Bk w' z 25 l ∧ Bk w' (z + 1) 25 l' ∧ Bk w' g5 31 C7) (by kernel_rfl) ⟨Bk.drew (HBX.out _ HTX5.out), Bk.drew (HBY.out _ HTY5.out), Bk.drew HK5.out, Bk.drew HJ5.out, Bk.drew HM5.out⟩ (fun hHeld => ?_)
  have hbn : Below w5.heap.size w5 w5.drew := below_draws w5 w5.heap.size 1
  obtain ⟨w6, hw6⟩ : ∃ wa, w5.drew = wa := ⟨_, rfl⟩
  rw [hw6] at hbn hHeld ⊢
  have HBQ6 := Lib.hid (below_then HBQ5.out hbn)
  have HBB6 := Lib.hid (below_then HBB5.out hbn)
  have HK6 := Lib.hid (HK5.out.later hbn)
  have HJ6 := Lib.hid (HJ5.out.later hbn)
  have HX6 := Lib.hid (HX5.out.later hbn)
  have HY6 := Lib.hid (HY5.out.later hbn)
  have HTX6 := Lib.hid (HTX5.out.later hbn)
  have HTY6 := Lib.hid (HTY5.out.later hbn)
  have HM6 := Lib.hid (HM5.out.later hbn)
  have HOw6 := Lib.hid (HOw5.out.later hbn)
  clear hbn
  clear hw6 HK5 HJ5 HX5 HY5 HTX5 HTY5 HM5 HOw5 HBQ5 HMA5
  refine wpAnyH_take (i := 0) (v := .agg (List.toArray (CX))) rfl (by kernel_rfl) (by kernel_rfl) (by kernel_rfl) (fun _ _ _ h => h) (yieldsIf_load_mid (by rfl) _ _ rfl _ _ rfl (CX) _ (fun w hSw => (Bk.range (pre := []) (post := []) (by simpa using hSw.1) rfl)) Tryd.underlying31 rfl (HFX.out.size)) (by assumption) ?_
  try simp only [Act.put, List.setIfInBounds_toArray, List.set_cons_zero, List.set_cons_succ, List.getElem_toArray, List.getElem_cons_zero, List.getElem_cons_succ]
  refine wpAnyH_take (i := 1) (v := .agg (List.toArray (CY))) rfl (by kernel_rfl) (by kernel_rfl) (by kernel_rfl) (fun _ _ _ h => h) (yieldsIf_load_mid (by rfl) _ _ rfl _ _ rfl (CY) _ (fun w hSw => (Bk.range (pre := []) (post := []) (by simpa using hSw.2.1) rfl)) Tryd.underlying31 rfl (HFY.out.size)) (by assumption) ?_
  try simp only [Act.put, List.setIfInBounds_toArray, List.set_cons_zero, List.set_cons_succ, List.getElem_toArray, List.getElem_cons_zero, List.getElem_cons_succ]
  refine wpAnyH_take (i := 3) (v := .agg (List.toArray (l))) rfl (by kernel_rfl) (by kernel_rfl) (by kernel_rfl) (fun _ _ _ h => h) (yieldsIf_load_mid (by rfl) _ _ rfl _ _ rfl (l) _ (fun w hSw => (Bk.range (pre := []) (post := []) (by simpa using hSw.2.2.1) rfl)) Tryd.underlying25 rfl (HF0.out.rsize)) (by assumption) ?_
  try simp only [Act.put, List.setIfInBounds_toArray, List.set_cons_zero, List.set_cons_succ, List.getElem_toArray, List.getElem_cons_zero, List.getElem_cons_succ]
  refine wpAnyH_take (i := 4) (v := .agg (List.toArray (l'))) rfl (by kernel_rfl) (by kernel_rfl) (by kernel_rfl) (fun _ _ _ h => h) (yieldsIf_load_mid (by rfl) _ _ rfl _ _ rfl (l') _ (fun w hSw => (Bk.range (pre := []) (post := []) (by simpa using hSw.2.2.2.1) rfl)) Tryd.underlying25 rfl (HF0'.out.rsize)) (by assumption) ?_
  try simp only [Act.put, List.setIfInBounds_toArray, List.set_cons_zero, List.set_cons_succ, List.getElem_toArray, List.getElem_cons_zero, List.getElem_cons_succ]
  refine wpAnyH_ready (rs := [2]) (by kernel_rfl) (by simp) ?_
  refine AllReadyH.cons rfl (fun K hK => ?_) AllReadyH.nil
  go_simp
  (refine (HSXY.out w6 HTX6.out HTY6.out).mono ?_; rintro e w7 ⟨rfl, hbn⟩; have HBQ7 := Lib.hid (below_then HBQ6.out hbn); have HBB7 := Lib.hid (below_then HBB6.out hbn); have HK7 := Lib.hid (HK6.out.later hbn); have HJ7 := Lib.hid (HJ6.out.later hbn); have HX7 := Lib.hid (HX6.out.later hbn); have HY7 := Lib.hid (HY6.out.later hbn); have HTX7 := Lib.hid (HTX6.out.later hbn); have HTY7 := Lib.hid (HTY6.out.later hbn); have HM7 := Lib.hid (HM6.out.later hbn); have HOw7 := Lib.hid (HOw6.out.later hbn); clear hbn)
  refine hK.out _ _ (⟨HBX.out _ HTX7.out, HBY.out _ HTY7.out, HK7.out, HJ7.out, HM7.out⟩) (fun hHeld => ?_)
  clear hK K
  try simp only [Act.put, List.setIfInBounds_toArray, List.set_cons_zero, List.set_cons_succ, List.getElem_toArray, List.getElem_cons_zero, List.getElem_cons_succ]
  clear HK6 HJ6 HX6 HY6 HTX6 HTY6 HM6 HOw6 HBQ6
  refine wpAnyH_ready (rs := [5]) (by kernel_rfl) (by simp) ?_
  refine AllReadyH.cons rfl (fun K hK => ?_) AllReadyH.nil
  go_simp
  (rw [HXE.out, HYE.out]; refine (HRS.out w7 HX7.out HY7.out).mono ?_; rintro e w8 ⟨rfl, hbn⟩; have HBQ8 := Lib.hid (below_then HBQ7.out hbn); have HBB8 := Lib.hid (below_then HBB7.out hbn); have HK8 := Lib.hid (HK7.out.later hbn); have HJ8 := Lib.hid (HJ7.out.later hbn); have HX8 := Lib.hid (HX7.out.later hbn); have HY8 := Lib.hid (HY7.out.later hbn); have HTX8 := Lib.hid (HTX7.out.later hbn); have HTY8 := Lib.hid (HTY7.out.later hbn); have HM8 := Lib.hid (HM7.out.later hbn); have HOw8 := Lib.hid (HOw7.out.later hbn); clear hbn)
  refine hK.out _ _ (⟨HBX.out _ HTX8.out, HBY.out _ HTY8.out, HK8.out, HJ8.out, HM8.out⟩) (fun hHeld => ?_)
  clear hK K
  try simp only [Act.put, List.setIfInBounds_toArray, List.set_cons_zero, List.set_cons_succ, List.getElem_toArray, List.getElem_cons_zero, List.getElem_cons_succ]
  clear HK7 HJ7 HX7 HY7 HTX7 HTY7 HM7 HOw7 HBQ7
  obtain ⟨E, hE⟩ : ∃ E, sameB p h m L p' h' m' L' = E := ⟨_, rfl⟩
  simp only [hE]
  clear hE
  have hEE : (E != E) = false := by simp
  refine wpAnyH_take (i := 6) (v := ?_) rfl (by kernel_rfl) (by kernel_rfl) (by kernel_rfl) (fun _ _ _ h => h) (Or.inl ⟨by rfl, ?_⟩) (by assumption) ?_
  rotate_left
  · intro w hSw
    (try dsimp only at hSw)
    go_simp
    try with_reducible rfl
  try simp only [Act.put, List.setIfInBounds_toArray, List.set_cons_zero, List.set_cons_succ, List.getElem_toArray, List.getElem_cons_zero, List.getElem_cons_succ]
  refine wpAnyH_take (i := 7) (v := ?_) rfl (by kernel_rfl) (by kernel_rfl) (by kernel_rfl) (fun _ _ _ h => h) (Or.inl ⟨by rfl, ?_⟩) (by assumption) ?_
  rotate_left
  · intro w hSw
    (try dsimp only at hSw)
    go_simp
    try with_reducible rfl
  try simp only [Act.put, List.setIfInBounds_toArray, List.set_cons_zero, List.set_cons_succ, List.getElem_toArray, List.getElem_cons_zero, List.getElem_cons_succ]
  refine wpAnyH_take (i := 8) (v := .agg (List.toArray (CX))) rfl (by kernel_rfl) (by kernel_rfl) (by kernel_rfl) (fun _ _ _ h => h) (yieldsIf_load_mid (by rfl) _ _ rfl _ _ rfl (CX) _ (fun w hSw => (Bk.range (pre := []) (post := []) (by simpa using hSw.1) rfl)) Tryd.underlying31 rfl (HFX.out.size)) (by assumption) ?_
  try simp only [Act.put, List.setIfInBounds_toArray, List.set_cons_zero, List.set_cons_succ, List.getElem_toArray, List.getElem_cons_zero, List.getElem_cons_succ]
  refine wpAnyH_take (i := 9) (v := .agg (List.toArray (CX))) rfl (by kernel_rfl) (by kernel_rfl) (by kernel_rfl) (fun _ _ _ h => h) (yieldsIf_load_mid (by rfl) _ _ rfl _ _ rfl (CX) _ (fun w hSw => (Bk.range (pre := []) (post := []) (by simpa using hSw.1) rfl)) Tryd.underlying31 rfl (HFX.out.size)) (by assumption) ?_
  try simp only [Act.put, List.setIfInBounds_toArray, List.set_cons_zero, List.set_cons_succ, List.getElem_toArray, List.getElem_cons_zero, List.getElem_cons_succ]
  refine wpAnyH_ready (rs := [10]) (by kernel_rfl) (by simp) ?_
  refine AllReadyH.cons rfl (fun K hK => ?_) AllReadyH.nil
  go_simp
  (refine (HSXX.out w8 HTX8.out).mono ?_; rintro e w9 ⟨rfl, hbn⟩; have HBQ9 := Lib.hid (below_then HBQ8.out hbn); have HBB9 := Lib.hid (below_then HBB8.out hbn); have HK9 := Lib.hid (HK8.out.later hbn); have HJ9 := Lib.hid (HJ8.out.later hbn); have HX9 := Lib.hid (HX8.out.later hbn); have HY9 := Lib.hid (HY8.out.later hbn); have HTX9 := Lib.hid (HTX8.out.later hbn); have HTY9 := Lib.hid (HTY8.out.later hbn); have HM9 := Lib.hid (HM8.out.later hbn); have HOw9 := Lib.hid (HOw8.out.later hbn); clear hbn)
  refine hK.out _ _ (⟨HBX.out _ HTX9.out, HBY.out _ HTY9.out, HK9.out, HJ9.out, HM9.out⟩) (fun hHeld => ?_)
  clear hK K
  try simp only [Act.put, List.setIfInBounds_toArray, List.set_cons_zero, List.set_cons_succ, List.getElem_toArray, List.getElem_cons_zero, List.getElem_cons_succ]
  clear HK8 HJ8 HX8 HY8 HTX8 HTY8 HM8 HOw8 HBQ8
  refine wpAnyH_take (i := 11) (v := ?_) rfl (by kernel_rfl) (by kernel_rfl) (by kernel_rfl) (fun _ _ _ h => h) (Or.inl ⟨by rfl, ?_⟩) (by assumption) ?_
  rotate_left
  · intro w hSw
    (try dsimp only at hSw)
    go_simp
    try with_reducible rfl
  try simp only [Act.put, List.setIfInBounds_toArray, List.set_cons_zero, List.set_cons_succ, List.getElem_toArray, List.getElem_cons_zero, List.getElem_cons_succ]
  refine wpAnyH_take (i := 12) (v := ?_) rfl (by kernel_rfl) (by kernel_rfl) (by kernel_rfl) (fun _ _ _ h => h) (Or.inl ⟨by rfl, ?_⟩) (by assumption) ?_
  rotate_left
  · intro w hSw
    (try dsimp only at hSw)
    go_simp
    try with_reducible rfl
  try simp only [Act.put, List.setIfInBounds_toArray, List.set_cons_zero, List.set_cons_succ, List.getElem_toArray, List.getElem_cons_zero, List.getElem_cons_succ]
  refine wpAnyH_take (i := 13) (v := ?_) rfl (by kernel_rfl) (by kernel_rfl) (by kernel_rfl) (fun _ _ _ h => h) (Or.inl ⟨by rfl, ?_⟩) (by assumption) ?_
  rotate_left
  · intro w hSw
    (try dsimp only at hSw)
    go_simp
    try with_reducible rfl
  try simp only [Act.put, List.setIfInBounds_toArray, List.set_cons_zero, List.set_cons_succ, List.getElem_toArray, List.getElem_cons_zero, List.getElem_cons_succ]
  refine wpAnyH_take (i := 14) (v := .agg (List.toArray (C7))) rfl (by kernel_rfl) (by kernel_rfl) (by kernel_rfl) (fun _ _ _ h => h) (yieldsIf_load_mid (by rfl) _ _ rfl _ _ rfl (C7) _ (fun w hSw => (Bk.range (pre := []) (post := []) (by simpa using hSw.2.2.2.2) rfl)) Tryd.underlying31 rfl (HF7.out.size)) (by assumption) ?_
  try simp only [Act.put, List.setIfInBounds_toArray, List.set_cons_zero, List.set_cons_succ, List.getElem_toArray, List.getElem_cons_zero, List.getElem_cons_succ]
  refine wpAnyH_take (i := 15) (v := .agg (List.toArray (CX))) rfl (by kernel_rfl) (by kernel_rfl) (by kernel_rfl) (fun _ _ _ h => h) (yieldsIf_load_mid (by rfl) _ _ rfl _ _ rfl (CX) _ (fun w hSw => (Bk.range (pre := []) (post := []) (by simpa using hSw.1) rfl)) Tryd.underlying31 rfl (HFX.out.size)) (by assumption) ?_
  try simp only [Act.put, List.setIfInBounds_toArray, List.set_cons_zero, List.set_cons_succ, List.getElem_toArray, List.getElem_cons_zero, List.getElem_cons_succ]
  have hsc := HSC2.out w9 L (HMK.out w9 L HM9.out ⟨zs7, HOw9.out.txs, HOw9.out.map⟩) HTX9.out
  rw [sameB_refl] at hsc
  have HSC3 := Lib.hid hsc
  clear hsc
  refine wpAnyH_ready (rs := [16]) (by kernel_rfl) (by simp) ?_
  refine AllReadyH.cons rfl (fun K hK => ?_) AllReadyH.nil
  go_simp
  (refine HSC3.out.mono ?_; rintro e wA ⟨rfl, hbn⟩; have HBQA := Lib.hid (below_then HBQ9.out hbn); have HBBA := Lib.hid (below_then HBB9.out hbn); have HKA := Lib.hid (HK9.out.later hbn); have HJA := Lib.hid (HJ9.out.later hbn); have HXA := Lib.hid (HX9.out.later hbn); have HYA := Lib.hid (HY9.out.later hbn); have HTXA := Lib.hid (HTX9.out.later hbn); have HTYA := Lib.hid (HTY9.out.later hbn); have HMA := Lib.hid (HM9.out.later hbn); have HOwA := Lib.hid (HOw9.out.later hbn); clear hbn)
  refine hK.out _ _ (⟨HBX.out _ HTXA.out, HBY.out _ HTYA.out, HKA.out, HJA.out, HMA.out⟩) (fun hHeld => ?_)
  clear hK K
  try simp only [Act.put, List.setIfInBounds_toArray, List.set_cons_zero, List.set_cons_succ, List.getElem_toArray, List.getElem_cons_zero, List.getElem_cons_succ]
  clear HK9 HJ9 HX9 HY9 HTX9 HTY9 HM9 HOw9 HBQ9 HSC3
  refine wpAnyH_take (i := 17) (v := ?_) rfl (by kernel_rfl) (by kernel_rfl) (by kernel_rfl) (fun _ _ _ h => h) (Or.inl ⟨by rfl, ?_⟩) (by assumption) ?_
  rotate_left
  · intro w hSw
    (try dsimp only at hSw)
    go_simp
    try with_reducible rfl
  try simp only [Act.put, List.setIfInBounds_toArray, List.set_cons_zero, List.set_cons_succ, List.getElem_toArray, List.getElem_cons_zero, List.getElem_cons_succ]
  refine wpAnyH_take (i := 18) (v := ?_) rfl (by kernel_rfl) (by kernel_rfl) (by kernel_rfl) (fun _ _ _ h => h) (Or.inl ⟨by rfl, ?_⟩) (by assumption) ?_
  rotate_left
  · intro w hSw
    (try dsimp only at hSw)
    go_simp
    try with_reducible rfl
  try simp only [Act.put, List.setIfInBounds_toArray, List.set_cons_zero, List.set_cons_succ, List.getElem_toArray, List.getElem_cons_zero, List.getElem_cons_succ]
  refine wpAnyH_done rfl ?_ _
  have hc17 := (HC7.out _ _ HMA.out).c17
  have HMI : Hid (MutI wc.heap.size wA A7 N c7 L 0 zs7) := MutI.start HOwA.out
  go_wp2_with fail
  clear hc17
  go_loopw [8, 9, 51, 70] (fun _ _ kv _ wr => ∃ (i : Nat) (zs : List (List Value × TxT)), i ≤ N ∧ kv = .int .i64 i ∧ Hid (MutI wc.heap.size wr A7 N c7 L i zs) ∧ Hid (Bk wr g5 31 C7) ∧ Hid (Below wc.heap.size wc wr)) (fun _ _ kv _ _ => N - (intOf kv).toNat)
  case atStart => exact ⟨0, zs7, Nat.zero_le _, rfl, HMI.out, HMA.out, HBQA.out⟩
  case round =>
    obtain ⟨i, zs, hi, rfl, HI, HG, HB⟩ := hrel
    by_cases hlt : i < N
    · have hki : (i : Int) < N := by omega
      have hk0 : (0 : Int) ≤ i := by omega
      have HIN := Lib.hid hlt
      obtain ⟨gq, zq, rfl, hgl, hgb⟩ := HI.out.head (by omega)
      obtain ⟨⟨cs, t⟩, hx⟩ : ∃ x, zs[i]? = some x := ⟨zs[i]'(by rw [HI.out.len]; omega), List.getElem?_eq_getElem _⟩
      obtain ⟨⟨A1, B1, N1, C1, M1, D1, e0, o1, o2⟩, ok⟩ := HI.out.all _ (List.mem_of_getElem? hx)
      have e0 : cs = txC t (.slice A1 N1 C1) (.slice B1 M1 D1) := e0
      subst e0
      have hc9 : wr.cell? ⟨gq, i * 13 + 9, none⟩ = some (.int .i64 t.e) := HI.out.cell hx (by
        have hf : t.f.length = 8 := ok.f.len
        rw [txC, List.getElem?_append_right (by rw [dl_len, hf]; omega), dl_len, hf]; rfl)
      have hf9 : wr.frozen? ⟨gq, i * 13 + 9, none⟩ = false := hgb.frozen _
      have hc17 := (HC7.out _ _ HG.out).c17
      obtain ⟨zs', hmi⟩ := HI.out.fee HLN.out hx
      have HMJ := Lib.hid hmi
      have HGB := Lib.hid hgb; have HGL := Lib.hid hgl
      clear hx o1 o2 ok hgb hgl hmi
      go_upto_region 11 with fail
      clear hc9 hf9 hc17
      have hg7 := only_set (only_refl wr gq) (i * 13 + 9) (.int .i64 (wrap64 (t.e + 1)))
      obtain ⟨w7, hw7⟩ : ∃ w7, wr.setCell ⟨gq, i * 13 + 9, none⟩ (.int .i64 (wrap64 (t.e + 1))) = w7 := ⟨_, rfl⟩
      rw [hw7] at HMJ hg7 ⊢
      have HG7 := Lib.hid (HG.out.grown hg7 (fun e => by injection e with e; exact Bk.ne_ HG.out HGB.out (by decide) e))
      have HB7 := Lib.hid (below_only HB.out hg7 HB.out.size HGL.out)
      clear hw7 hg7 HG HB HI HGB
      obtain ⟨⟨cs2, t2⟩, hx2⟩ : ∃ x, zs'[i]? = some x := ⟨zs'[i]'(by rw [HMJ.out.len]; omega), List.getElem?_eq_getElem _⟩
      obtain ⟨⟨A2, B2, N2, C2, M2, D2, e2, p1, _⟩, ok2⟩ := HMJ.out.all _ (List.mem_of_getElem? hx2)
      have e2 : cs2 = txC t2 (.slice A2 N2 C2) (.slice B2 M2 D2) := e2
      have e11 : cs2[11]? = some (.slice A2 N2 C2) := by
        have hf : t2.f.length = 8 := ok2.f.len
        rw [e2, txC, List.getElem?_append_right (by rw [dl_len, hf]; omega), dl_len, hf]; rfl
      have hc11 : w7.cell? ⟨gq, i * 13 + 11, none⟩ = some (.slice A2 N2 C2) := HMJ.out.cell hx2 e11
      have hc17 := (HC7.out _ _ HG7.out).c17
      have HCS : Hid ((zs'.map (·.1))[i]? = some cs2) := by show _ = _; rw [List.getElem?_map, hx2]; rfl
      have HE11 := Lib.hid e11
      have hN2 : N2 ≤ 9223372036854775807 := (Sl.of_own p1).le
      clear hx2 e2 e11 ok2 p1
      go_wp2_with fail
      clear hc11 hc17
      go_loopw [9, 70] (fun _ kv wr => ∃ (j : Nat) (zs : List (List Value × TxT)), j ≤ N2 ∧ kv = .int .i64 j ∧ Hid (MutI wc.heap.size wr (some ⟨gq, 0, none⟩) N c7 L (i + 1) zs) ∧ Hid ((zs.map (·.1))[i]? = some cs2) ∧ Hid (Bk wr g5 31 C7) ∧ Hid (Below wc.heap.size wc wr)) (fun _ kv _ => N2 - (intOf kv).toNat)
      case atStart => exact ⟨0, zs', Nat.zero_le _, rfl, HMJ.out, HCS.out, HG7.out, HB7.out⟩
      case round =>
        clear HMJ HCS HG7 HB7
        obtain ⟨j, zs, hj, rfl, HI, HCS, HG, HB⟩ := hrel
        have hc17 := (HC7.out _ _ HG.out).c17
        by_cases hlj : j < N2
        · have hji : (j : Int) < N2 := by omega
          have hj0 : (0 : Int) ≤ j := by omega
          obtain ⟨⟨cs3, t3⟩, hx3, hcs3⟩ : ∃ x, zs[i]? = some x ∧ x.1 = cs2 := by
            have := HCS.out
            rw [List.getElem?_map] at this
            cases hz : zs[i]? with
            | none => rw [hz] at this; cases this
            | some y => rw [hz] at this; injection this with this; exact ⟨y, rfl, this⟩
          have hcs3 : cs3 = cs2 := hcs3
          subst hcs3
          obtain ⟨⟨A3, B3, N3, C3, M3, D3, e3, p1, _⟩, ok3⟩ := HI.out.all _ (List.mem_of_getElem? hx3)
          have e3 : cs3 = txC t3 (.slice A3 N3 C3) (.slice B3 M3 D3) := e3
          have e11 : cs3[11]? = some (.slice A3 N3 C3) := by
            have hf : t3.f.length = 8 := ok3.f.len
            rw [e3, txC, List.getElem?_append_right (by rw [dl_len, hf]; omega), dl_len, hf]; rfl
          have hee := HE11.out
          rw [e11] at hee
          injection hee with hee; injection hee with hA hNN hCC
          subst hA; subst hNN; subst hCC
          have hc11 : wr.cell? ⟨gq, i * 13 + 11, none⟩ = some (.slice A3 N3 C3) := HI.out.cell hx3 e11
          obtain ⟨gb, zb, hA3, hgb, hlb⟩ : ∃ gb zb, A3 = some ⟨gb, 0, none⟩ ∧ Bk wr gb 5 zb ∧ wc.heap.size ≤ gb := by
            rcases own_bk p1 with ⟨_, e5, _⟩ | ⟨q, cap, ys', e5, hb5, hk5, _⟩
            · omega
            · injection e5 with e5; exact ⟨q, ys', e5, hk5, hb5⟩
          subst hA3
          have hlen3 : t3.b.length = N3 := (Sl.of_own p1).length
          obtain ⟨x, hxb⟩ : ∃ x, t3.b[j]? = some x := ⟨t3.b[j]'(by omega), List.getElem?_eq_getElem _⟩
          have hx0 := ok3.b x (List.mem_of_getElem? hxb)
          obtain ⟨b9, o9, e9, _, hcc⟩ := (Sl.of_own p1).spot (by omega) (by omega)
          injection e9 with e9; injection e9 with e9 e10; subst e9; subst e10
          have hcb : wr.cell? ⟨gb, j, none⟩ = some (.int .u8 x) := by
            have := hcc j (.int .u8 x) (by rw [List.getElem?_map, hxb]; rfl)
            simpa using this
          have hfb : wr.frozen? ⟨gb, j, none⟩ = false := hgb.frozen _
          have hvr : 0 ≤ (x + 1) % 256 ∧ (x + 1) % 256 < 256 := by omega
          obtain ⟨zs9, hmi9, hm9⟩ := HI.out.byte (k := j) p1 hvr
          have HI9 := Lib.hid hmi9; have HCS9 : Hid ((zs9.map (·.1))[i]? = some cs3) := by show _ = _; rw [hm9]; exact HCS.out
          have HLB := Lib.hid hlb; have HGBB := Lib.hid hgb
          clear hx3 e3 e11 p1 ok3 hlen3 hxb hx0 hcc hmi9 hm9 hvr hlb hgb
          go_upto_region 15 with fail
          clear hcb hfb hc11 hc17
          have hg9 := only_set (only_refl wr gb) j (.int .u8 ((x + 1) % 256))
          obtain ⟨w9, hw9⟩ : ∃ w9, wr.setCell ⟨gb, j, none⟩ (.int .u8 ((x + 1) % 256)) = w9 := ⟨_, rfl⟩
          rw [hw9] at HI9 hg9 ⊢
          have HG9 := Lib.hid (HG.out.grown hg9 (fun e => by injection e with e; exact Bk.ne_ HG.out HGBB.out (by decide) e))
          have HB9 := Lib.hid (below_only HB.out hg9 HB.out.size HLB.out)
          have HQJ : Hid (wrap64 ((j : Int) + 1) = (j : Int) + 1) := IntWalk.wrap64_in _ (by omega)
          have HLJ := Lib.hid hlj
          clear hw9 hg9 HG HB HI HGBB
          go_wp2_with fail
          go_roundw
          case rel => exact ⟨j + 1, zs9, HLJ.out, by first | rfl | (rw [HQJ.out]; rfl), HI9, HCS9, HG9, HB9⟩
          case measure => first | exact ms_step HLJ.out HQJ.out | exact ms_step2 HLJ.out
        · have hji : ¬ ((j : Int) < N2) := by omega
          have HQI : Hid (wrap64 ((i : Int) + 1) = (i : Int) + 1) := IntWalk.wrap64_in _ (by have := HN.out; have := HIN.out; omega)
          clear hc17
          go_wp2_with fail
          go_roundw
          case rel => exact ⟨i + 1, zs, HIN.out, by rw [HQI.out]; rfl, HI, HG, HB⟩
          case measure => exact ms_step HIN.out HQI.out
    · have hki : ¬ ((i : Int) < N) := by omega
      obtain rfl : i = N := by omega
      go_wp2_with fail
      have hTXr : BkAt wr gX p h m P1 i q1 L := HTXc.out.later HB.out
      have HKr := Lib.hid (HKc.out.later HB.out); have HXr := Lib.hid (HXc.out.later HB.out)
      have HTXr := Lib.hid hTXr
      clear hTXr
      refine wp_region_held_drew (S := fun w' => Bk w' gX 31 CX ∧ Bk w' z 25 l ∧ Bk w' g5 31 C7) (by kernel_rfl) ⟨Bk.drew (HBX.out _ HTXr.out), Bk.drew HKr.out, Bk.drew HG.out⟩ (fun hHeld => ?_)
      have hbn : Below wr.heap.size wr wr.drew := below_draws wr wr.heap.size 1
      obtain ⟨v1, hv1⟩ : ∃ wa, wr.drew = wa := ⟨_, rfl⟩
      rw [hv1] at hbn hHeld ⊢
      have HB1' := Lib.hid (below_then HB.out hbn); have HK1' := Lib.hid (HKr.out.later hbn); have HX1' := Lib.hid (HXr.out.later hbn); have HT1' := Lib.hid (HTXr.out.later hbn); have HI1' := Lib.hid (HI.out.later hbn); have HG1' := Lib.hid (HG.out.later hbn)
      clear hv1 hbn HKr HXr HTXr HI HG HB
      refine wpAnyH_take (i := 0) (v := .agg (List.toArray (CX))) rfl (by kernel_rfl) (by kernel_rfl) (by kernel_rfl) (fun _ _ _ h => h) (yieldsIf_load_mid (by rfl) _ _ rfl _ _ rfl (CX) _ (fun w hSw => (Bk.range (pre := []) (post := []) (by simpa using hSw.1) rfl)) Tryd.underlying31 rfl (HFX.out.size)) (by assumption) ?_
      try simp only [Act.put, List.setIfInBounds_toArray, List.set_cons_zero, List.set_cons_succ, List.getElem_toArray, List.getElem_cons_zero, List.getElem_cons_succ]
      refine wpAnyH_take (i := 2) (v := .agg (List.toArray (l))) rfl (by kernel_rfl) (by kernel_rfl) (by kernel_rfl) (fun _ _ _ h => h) (yieldsIf_load_mid (by rfl) _ _ rfl _ _ rfl (l) _ (fun w hSw => (Bk.range (pre := []) (post := []) (by simpa using hSw.2.1) rfl)) Tryd.underlying25 rfl (HF0.out.rsize)) (by assumption) ?_
      try simp only [Act.put, List.setIfInBounds_toArray, List.set_cons_zero, List.set_cons_succ, List.getElem_toArray, List.getElem_cons_zero, List.getElem_cons_succ]
      obtain ⟨zx, hzx, hzL⟩ := HT1'.out.txs
      have HTO2 := Lib.hid (HTOX.out v1 zx hzx)
      have HZX := Lib.hid hzx; have HZL := Lib.hid hzL
      clear hzx hzL
      refine wpAnyH_ready (rs := [1]) (by kernel_rfl) (by simp) ?_
      refine AllReadyH.cons rfl (fun K hK => ?_) AllReadyH.nil
      go_simp
      (refine HTO2.out.mono ?_; rintro e v2 ⟨⟨v, rfl, hown⟩, hbn⟩; obtain ⟨B2, d2, rfl⟩ := own_form hown; have HB2' := Lib.hid (below_then HB1'.out hbn); have HK2' := Lib.hid (HK1'.out.later hbn); have HX2' := Lib.hid (HX1'.out.later hbn); have HT2' := Lib.hid (HT1'.out.later hbn); have HI2' := Lib.hid (HI1'.out.later hbn); have HG2' := Lib.hid (HG1'.out.later hbn); have HZ2' : Hid (Txs v2 B2 i zx) := ⟨Sl.of_own hown, fun y hy => (HZX.out.th y hy).later hbn⟩; clear hown hbn)
      refine hK.out _ _ (⟨HBX.out _ HT2'.out, HK2'.out, HG2'.out⟩) (fun hHeld => ?_)
      clear hK K
      try simp only [Act.put, List.setIfInBounds_toArray, List.set_cons_zero, List.set_cons_succ, List.getElem_toArray, List.getElem_cons_zero, List.getElem_cons_succ]
      clear HB1' HK1' HX1' HT1' HI1' HG1' HTO2 HZX
      have hrt := HRT.out v2 B2 i d2 zx HZ2'.out HX2'.out
      rw [HZL.out, sameB_refl] at hrt
      have HRT2 := Lib.hid hrt
      clear hrt
      refine wpAnyH_ready (rs := [3]) (by kernel_rfl) (by simp) ?_
      refine AllReadyH.cons rfl (fun K hK => ?_) AllReadyH.nil
      go_simp
      (rw [HXE.out]; refine HRT2.out.mono ?_; rintro e v3 ⟨rfl, hbn⟩; have HB3' := Lib.hid (below_then HB2'.out hbn); have HK3' := Lib.hid (HK2'.out.later hbn); have HT3' := Lib.hid (HT2'.out.later hbn); have HI3' := Lib.hid (HI2'.out.later hbn); have HG3' := Lib.hid (HG2'.out.later hbn); clear hbn)
      refine hK.out _ _ (⟨HBX.out _ HT3'.out, HK3'.out, HG3'.out⟩) (fun hHeld => ?_)
      clear hK K
      try simp only [Act.put, List.setIfInBounds_toArray, List.set_cons_zero, List.set_cons_succ, List.getElem_toArray, List.getElem_cons_zero, List.getElem_cons_succ]
      clear HB2' HK2' HX2' HT2' HI2' HG2' HZ2' HRT2
      have hfin : sameB p h m (zs.map (·.2)) p h m L = decide ((i : Int) = 0) := by
        have hlz := HI3'.out.len
        by_cases h0 : i = 0
        · have e1 : zs = [] := List.eq_nil_of_length_eq_zero (by omega)
          have e2 : L = [] := List.eq_nil_of_length_eq_zero (by have := HLN.out; omega)
          rw [e1, e2]
          subst h0
          exact sameB_refl p h m []
        · obtain ⟨y, hy⟩ : ∃ y, zs[0]? = some y := ⟨zs[0]'(by omega), List.getElem?_eq_getElem _⟩
          obtain ⟨t, ht⟩ : ∃ t, L[0]? = some t := ⟨L[0]'(by have := HLN.out; omega), List.getElem?_eq_getElem _⟩
          have hne := HI3'.out.ne (by omega) y t hy ht
          have hst : sameT y.2 t = false := by
            unfold sameT
            have : (y.2.e == t.e) = false := by simp [hne]
            rw [this]; simp
          have hsl := sameL_no 0 (L := zs.map (·.2)) (L' := L) (t := y.2) (u := t) (by rw [List.getElem?_map, hy]; rfl) ht hst
          unfold sameB
          rw [hsl, Bool.and_false]
          exact (decide_eq_false (by omega)).symm
      have hsc := HSC2.out v3 (zs.map (·.2)) (HMK.out v3 (zs.map (·.2)) HG3'.out ⟨zs, ⟨Sl.of_own HI3'.out.own, fun y hy => (HI3'.out.all y hy).g⟩, rfl⟩) HT3'.out
      rw [hfin] at hsc
      have HSC4 := Lib.hid hsc
      clear hfin hsc
      refine wpAnyH_take (i := 4) (v := ?_) rfl (by kernel_rfl) (by kernel_rfl) (by kernel_rfl) (fun _ _ _ h => h) (Or.inl ⟨by rfl, ?_⟩) (by assumption) ?_
      rotate_left
      · intro w hSw
        (try dsimp only at hSw)
        go_simp
        try with_reducible rfl
      try simp only [Act.put, List.setIfInBounds_toArray, List.set_cons_zero, List.set_cons_succ, List.getElem_toArray, List.getElem_cons_zero, List.getElem_cons_succ]
      refine wpAnyH_take (i := 5) (v := .agg (List.toArray (C7))) rfl (by kernel_rfl) (by kernel_rfl) (by kernel_rfl) (fun _ _ _ h => h) (yieldsIf_load_mid (by rfl) _ _ rfl _ _ rfl (C7) _ (fun w hSw => (Bk.range (pre := []) (post := []) (by simpa using hSw.2.2) rfl)) Tryd.underlying31 rfl (HF7.out.size)) (by assumption) ?_
      try simp only [Act.put, List.setIfInBounds_toArray, List.set_cons_zero, List.set_cons_succ, List.getElem_toArray, List.getElem_cons_zero, List.getElem_cons_succ]
      refine wpAnyH_take (i := 6) (v := .agg (List.toArray (CX))) rfl (by kernel_rfl) (by kernel_rfl) (by kernel_rfl) (fun _ _ _ h => h) (yieldsIf_load_mid (by rfl) _ _ rfl _ _ rfl (CX) _ (fun w hSw => (Bk.range (pre := []) (post := []) (by simpa using hSw.1) rfl)) Tryd.underlying31 rfl (HFX.out.size)) (by assumption) ?_
      try simp only [Act.put, List.setIfInBounds_toArray, List.set_cons_zero, List.set_cons_succ, List.getElem_toArray, List.getElem_cons_zero, List.getElem_cons_succ]
      refine wpAnyH_take (i := 8) (v := ?_) rfl (by kernel_rfl) (by kernel_rfl) (by kernel_rfl) (fun _ _ _ h => h) (Or.inl ⟨by rfl, ?_⟩) (by assumption) ?_
      rotate_left
      · intro w hSw
        (try dsimp only at hSw)
        go_simp
        try with_reducible rfl
      try simp only [Act.put, List.setIfInBounds_toArray, List.set_cons_zero, List.set_cons_succ, List.getElem_toArray, List.getElem_cons_zero, List.getElem_cons_succ]
      refine wpAnyH_take (i := 9) (v := ?_) rfl (by kernel_rfl) (by kernel_rfl) (by kernel_rfl) (fun _ _ _ h => h) (Or.inl ⟨by rfl, ?_⟩) (by assumption) ?_
      rotate_left
      · intro w hSw
        have hcell := (HM.out _ _ hSw.2.1).c17
        clear hSw
        go_simp
        try with_reducible rfl
      try simp only [Act.put, List.setIfInBounds_toArray, List.set_cons_zero, List.set_cons_succ, List.getElem_toArray, List.getElem_cons_zero, List.getElem_cons_succ]
      refine wpAnyH_take (i := 10) (v := ?_) rfl (by kernel_rfl) (by kernel_rfl) (by kernel_rfl) (fun _ _ _ h => h) (Or.inl ⟨by rfl, ?_⟩) (by assumption) ?_
      rotate_left
      · intro w hSw
        (try dsimp only at hSw)
        go_simp
        try with_reducible rfl
      try simp only [Act.put, List.setIfInBounds_toArray, List.set_cons_zero, List.set_cons_succ, List.getElem_toArray, List.getElem_cons_zero, List.getElem_cons_succ]
      refine wpAnyH_take (i := 11) (v := ?_) rfl (by kernel_rfl) (by kernel_rfl) (by kernel_rfl) (fun _ _ _ h => h) (Or.inl ⟨by rfl, ?_⟩) (by assumption) ?_
      rotate_left
      · intro w hSw
        (try dsimp only at hSw)
        go_simp
        try with_reducible rfl
      try simp only [Act.put, List.setIfInBounds_toArray, List.set_cons_zero, List.set_cons_succ, List.getElem_toArray, List.getElem_cons_zero, List.getElem_cons_succ]
      refine wpAnyH_ready (rs := [7]) (by kernel_rfl) (by simp) ?_
      refine AllReadyH.cons rfl (fun K hK => ?_) AllReadyH.nil
      go_simp
      (refine HSC4.out.mono ?_; rintro e v4 ⟨rfl, hbn⟩; have HB4' := Lib.hid (below_then HB3'.out hbn); have HK4' := Lib.hid (HK3'.out.later hbn); have HT4' := Lib.hid (HT3'.out.later hbn); have HG4' := Lib.hid (HG3'.out.later hbn); clear hbn)
      refine hK.out _ _ (⟨HBX.out _ HT4'.out, HK4'.out, HG4'.out⟩) (fun hHeld => ?_)
      clear hK K
      try simp only [Act.put, List.setIfInBounds_toArray, List.set_cons_zero, List.set_cons_succ, List.getElem_toArray, List.getElem_cons_zero, List.getElem_cons_succ]
      refine wpAnyH_take (i := 12) (v := ?_) rfl (by kernel_rfl) (by kernel_rfl) (by kernel_rfl) (fun _ _ _ h => h) (Or.inl ⟨by rfl, ?_⟩) (by assumption) ?_
      rotate_left
      · intro w hSw
        (try dsimp only at hSw)
        go_simp
        try with_reducible rfl
      try simp only [Act.put, List.setIfInBounds_toArray, List.set_cons_zero, List.set_cons_succ, List.getElem_toArray, List.getElem_cons_zero, List.getElem_cons_succ]
      refine wpAnyH_take (i := 13) (v := ?_) rfl (by kernel_rfl) (by kernel_rfl) (by kernel_rfl) (fun _ _ _ h => h) (Or.inl ⟨by rfl, ?_⟩) (by assumption) ?_
      rotate_left
      · intro w hSw
        (try dsimp only at hSw)
        go_simp
        try with_reducible rfl
      try simp only [Act.put, List.setIfInBounds_toArray, List.set_cons_zero, List.set_cons_succ, List.getElem_toArray, List.getElem_cons_zero, List.getElem_cons_succ]
      refine wpAnyH_take (i := 14) (v := ?_) rfl (by kernel_rfl) (by kernel_rfl) (by kernel_rfl) (fun _ _ _ h => h) (Or.inl ⟨by rfl, ?_⟩) (by assumption) ?_
      rotate_left
      · intro w hSw
        (try dsimp only at hSw)
        go_simp
        try with_reducible rfl
      try simp only [Act.put, List.setIfInBounds_toArray, List.set_cons_zero, List.set_cons_succ, List.getElem_toArray, List.getElem_cons_zero, List.getElem_cons_succ]
      refine wpAnyH_done rfl ?_ _
      go_wp2_with fail
      go_ret
      refine ⟨?_, below_then HBBc.out HB4'.out⟩
      by_cases h0 : i = 0 <;> simp [h0]
end Go.Proofs.YtbpmomedhdmloaaDoor
