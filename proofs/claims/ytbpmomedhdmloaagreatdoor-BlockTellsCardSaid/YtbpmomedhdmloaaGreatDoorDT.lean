/- BlockTells: the walk. (Printed by tools/mkXBJ.py out of tools/XDT.body.) -/
import Derived.Test.YtbpmomedhdmloaaGreatDoorD7
import Derived.Test.YtbpmomedhdmloaaGreatDoorBP
namespace Go.Proofs.YtbpmomedhdmloaaGreatDoor
set_option linter.unusedSimpArgs false
set_option linter.unusedVariables false
open Go.RowKit Go.Maps

section
variable {w0 w : World} {gX gY : Nat} {lX lY : List Value} {A1 : Option Addr} {N c1 : Nat} {xs : List (List Value × TxT)} {A2 : Option Addr} {N' c2 : Nat} {ys : List (List Value × TxT)}
theorem TwoW.nameX {p m : List Int} {h : Int} (T : TwoW w0 w gX gY lX lY A1 N c1 xs A2 N' c2 ys) (e : bkC p h m (.slice A1 N c1) = lX) (hx : ∀ x ∈ xs, Txg w0 x.1 x.2) (hp : DgOk p) (hm : DgOk m) (hN : N ≤ 1000) (hl : ∀ x ∈ xs, x.2.b.length ≤ 1073741000 ∧ x.2.s.length ≤ 1073741000) :
    Calls Tryz.prog 9 #[.agg lX.toArray] w fun e w' => e = .returned (.tuple #[.agg (dl (nameT p h m N (xs.map (·.2)))).toArray, .int .i64 (blkE h (xs.map (·.2)))]) ∧ Below w.heap.size w w' := by
  rw [← e]; exact bnameT_any w p h m hp hm A1 N c1 xs (T.txs hx) hN hl
theorem TwoW.rootX {p m : List Int} {h : Int} (T : TwoW w0 w gX gY lX lY A1 N c1 xs A2 N' c2 ys) (e : bkC p h m (.slice A1 N c1) = lX) (hx : ∀ x ∈ xs, Txg w0 x.1 x.2) (hp : DgOk p) (hm : DgOk m) (hN : N ≤ 1000) (hl : ∀ x ∈ xs, x.2.b.length ≤ 1073741000 ∧ x.2.s.length ≤ 1073741000) :
    Calls Tryz.prog 11 #[.agg lX.toArray] w fun e w' => e = .returned (.tuple #[.agg (dl (rootT h (xs.map (·.2)))).toArray, .int .i64 (blkE h (xs.map (·.2)))]) ∧ Below w.heap.size w w' := by
  rw [← e]; exact brootT_any w p h m hp hm A1 N c1 xs (T.txs hx) hN hl
theorem TwoW.feesX {p m : List Int} {h : Int} (T : TwoW w0 w gX gY lX lY A1 N c1 xs A2 N' c2 ys) (e : bkC p h m (.slice A1 N c1) = lX) (hx : ∀ x ∈ xs, Txg w0 x.1 x.2) (hp : DgOk p) (hm : DgOk m) :
    Calls Tryz.prog 13 #[.agg lX.toArray] w fun e w' => e = .returned (.tuple #[.int .i64 (feeV h (xs.map (·.2))), .int .i64 (blkE h (xs.map (·.2)))]) ∧ Below w.heap.size w w' := by
  rw [← e]; exact bFees_any w p h m hp hm A1 N c1 xs (T.txs hx)
end
/-- The document's answers for two blocks that stand in boxes. -/
structure DocC (l l' : List Value) (N : Nat) (A : Option Addr) (xs : List (List Value × TxT)) (N' : Nat) (A' : Option Addr) (ys : List (List Value × TxT)) (D R : List Int) (E F K : Int) : Prop where
  right : ∀ w, Txs w A N xs → Calls Tryz.prog 16 #[.agg l.toArray] w fun e w' => e = .returned (.int .i64 E) ∧ Below w.heap.size w w'
  name : ∀ w, Txs w A N xs → Calls Tryz.prog 10 #[.agg l.toArray] w fun e w' => e = .returned (.tuple #[.agg (dl D).toArray, .int .i64 E]) ∧ Below w.heap.size w w'
  root : ∀ w, Txs w A N xs → Calls Tryz.prog 12 #[.agg l.toArray] w fun e w' => e = .returned (.tuple #[.agg (dl R).toArray, .int .i64 E]) ∧ Below w.heap.size w w'
  fees : ∀ w, Txs w A N xs → Calls Tryz.prog 14 #[.agg l.toArray] w fun e w' => e = .returned (.tuple #[.int .i64 F, .int .i64 E]) ∧ Below w.heap.size w w'
  check : ∀ w, Txs w A N xs → Txs w A' N' ys → Calls Tryz.prog 18 #[.agg l.toArray, .agg l'.toArray] w fun e w' => e = .returned (.int .i64 K) ∧ Below w.heap.size w w'
theorem doc_calls {p : List Int} {h : Int} {m : List Int} (hp : DgOk p) (hm : DgOk m) {A : Option Addr} {N C : Nat} {xs : List (List Value × TxT)} (hN : N ≤ 1000) (hl : ∀ x ∈ xs, x.2.b.length ≤ 1073741000 ∧ x.2.s.length ≤ 1073741000)
    {p' : List Int} {h' : Int} {m' : List Int} (hp' : DgOk p') (hm' : DgOk m') {A' : Option Addr} {N' C' : Nat} {ys : List (List Value × TxT)} (hN' : N' ≤ 1000) (hl' : ∀ x ∈ ys, x.2.b.length ≤ 1073741000 ∧ x.2.s.length ≤ 1073741000) :
    DocC (bkC p h m (.slice A N C)) (bkC p' h' m' (.slice A' N' C')) N A xs N' A' ys (nameT p h m N (xs.map (·.2))) (rootT h (xs.map (·.2))) (blkE h (xs.map (·.2))) (feeV h (xs.map (·.2))) (checkB (blkE h (xs.map (·.2))) p h (nameT p' h' m' N' (ys.map (·.2))) (blkE h' (ys.map (·.2))) h') where
  right := fun w hx => rbright_any w p h m hp hm A N C xs hx
  name := fun w hx => rbname_any w p h m hp hm A N C xs hx hN hl
  root := fun w hx => rbroot_any w p h m hp hm A N C xs hx hN hl
  fees := fun w hx => rbFees_any w p h m hp hm A N C xs hx
  check := fun w hx hy => rbcheck_any w p h m hp hm A N C xs hx p' h' m' hp' hm' A' N' C' ys hy _ (nameT_ok _ _ _ _ _) (fun w' hy' => rbname_any w' p' h' m' hp' hm' A' N' C' ys hy' hN' hl')
set_option maxRecDepth 20000 in
set_option maxHeartbeats 16000000 in
theorem btells_law (w : World) (p : List Int) (h : Int) (m : List Int) (hp : DgOk p) (hm : DgOk m) (A : Option Addr) (N C : Nat) (xs : List (List Value × TxT)) (hx : Txs w A N xs)
    (hl : ∀ x ∈ xs, x.2.b.length ≤ 140737488355328 ∧ x.2.s.length ≤ 140737488355328)
    (p' : List Int) (h' : Int) (m' : List Int) (hp' : DgOk p') (hm' : DgOk m') (A' : Option Addr) (N' C' : Nat) (ys : List (List Value × TxT)) (hy : Txs w A' N' ys)
    (hl' : ∀ x ∈ ys, x.2.b.length ≤ 140737488355328 ∧ x.2.s.length ≤ 140737488355328) :
    Calls Tryz.prog 3 #[.agg (bkC p h m (.slice A N C)).toArray, .agg (bkC p' h' m' (.slice A' N' C')).toArray] w fun e w' => e = .returned (.bool true) ∧ Below w.heap.size w w' := by
  have HFW := Lib.hid (fun w' (hx' : Txs w' A N xs) => few_any w' p h m hp hm A N C xs hx' hl)
  have HFW' := Lib.hid (fun w' (hx' : Txs w' A' N' ys) => few_any w' p' h' m' hp' hm' A' N' C' ys hx' hl')
  have HOA := Lib.hid (fun (hN : N ≤ 1000) w' (hx' : Txs w' A N xs) => of_any w' p h m hp hm A N C xs hx' hN)
  have HOB := Lib.hid (fun (hN : N' ≤ 1000) w' (hx' : Txs w' A' N' ys) => of_any w' p' h' m' hp' hm' A' N' C' ys hx' hN)
  have HDC := Lib.hid (fun hN hl hN' hl' => doc_calls (h := h) (A := A) (N := N) (C := C) (xs := xs) (h' := h') (A' := A') (N' := N') (C' := C') (ys := ys) hp hm hN hl hp' hm' hN' hl')
  have HFR := Lib.hid (bk_fit (h := h) (A := A) (N := N) (C := C) hp hm); have HFR' := Lib.hid (bk_fit (h := h') (A := A') (N := N') (C := C') hp' hm')
  obtain ⟨L, hL⟩ : ∃ L, xs.map (·.2) = L := ⟨_, rfl⟩
  obtain ⟨L', hL'⟩ : ∃ L, ys.map (·.2) = L := ⟨_, rfl⟩
  have HLN : Hid (L.length = N) := by show _ = _; rw [← hL, List.length_map, hx.length]
  have HLN' : Hid (L'.length = N') := by show _ = _; rw [← hL', List.length_map, hy.length]
  rw [hL] at HFW HDC; rw [hL'] at HFW' HDC
  have HLL := Lib.hid hL; have HLL' := Lib.hid hL'
  have HDO : Hid (DgOk (nameT p h m N L)) := nameT_ok _ _ _ _ _
  have HRO : Hid (DgOk (rootT h L)) := rootT_ok _ _
  obtain ⟨l, hl0⟩ : ∃ x, bkC p h m (.slice A N C) = x := ⟨_, rfl⟩
  obtain ⟨X, hX⟩ : ∃ X, l.toArray = X := ⟨_, rfl⟩
  obtain ⟨l', hl0'⟩ : ∃ x, bkC p' h' m' (.slice A' N' C') = x := ⟨_, rfl⟩
  obtain ⟨Y, hY⟩ : ∃ X, l'.toArray = X := ⟨_, rfl⟩
  obtain ⟨z, hz⟩ : ∃ z, w.heap.size = z := ⟨_, rfl⟩
  obtain ⟨w1, hw1⟩ : ∃ w1, (w.alloc (.cells X 25)).alloc (.cells Y 25) = w1 := ⟨_, rfl⟩
  have hb1 : Below w.heap.size w w1 := hw1 ▸ (below_new w _).alloc (by simp) _
  have kx : Bk w1 z 25 l := hw1 ▸ (Bk.at_ w _ X hz (by rw [← hX])).alloc _
  have ky : Bk w1 (z + 1) 25 l' := hw1 ▸ Bk.at_ _ _ Y (by simp [hz]) (by rw [← hY])
  have hsz1 : w1.heap.size = z + 2 := by rw [← hw1]; simp [hz]
  have HW := Lib.hid hw1; have HBB1 := Lib.hid hb1; have HZ := Lib.hid hz; have HK1 := Lib.hid kx; have HJ1 := Lib.hid ky; have HPO := Lib.hid hp; have HMO := Lib.hid hm; have HPO' := Lib.hid hp'; have HMO' := Lib.hid hm'; have HXE := Lib.hid hX; have HYE := Lib.hid hY
  have HX1 := Lib.hid (hx.later hb1); have HY1 := Lib.hid (hy.later hb1)
  rw [hl0] at HFW HOA HFR HDC ⊢
  rw [hl0'] at HFW' HOB HFR' HDC ⊢
  rw [hX] at HFW HOA ⊢
  rw [hY] at HFW' HOB ⊢
  have HF0 := HFR; have HF0' := HFR'
  obtain ⟨DN, hDN⟩ : ∃ D, nameT p h m N L = D := ⟨_, rfl⟩
  obtain ⟨R, hR⟩ : ∃ D, rootT h L = D := ⟨_, rfl⟩
  obtain ⟨E, hE⟩ : ∃ D, blkE h L = D := ⟨_, rfl⟩
  obtain ⟨F, hF⟩ : ∃ D, feeV h L = D := ⟨_, rfl⟩
  obtain ⟨CK, hCK⟩ : ∃ D, checkB E p h (nameT p' h' m' N' L') (blkE h' L') h' = D := ⟨_, rfl⟩
  rw [hDN, hR, hE, hF, hCK] at HDC
  rw [hDN] at HDO
  rw [hR] at HRO
  have HLD := Lib.hid hDN; have HLR := Lib.hid hR; have HLE := Lib.hid hE; have HLF := Lib.hid hF; have HLC := Lib.hid hCK
  clear hL hL' hl0 hX hl0' hY hz hw1 hb1 kx ky hp hm hp' hm' hx hy hl hl' hDN hR hE hF hCK
  go_enter Tryz.func3, Tryz.ntmps3
  go_upto_region 1 with fail
  rw [HW.out, HZ.out]
  go_wp2_with fail
  refine (known_any w1).mono ?_
  rintro e w2 ⟨rfl, hbn⟩
  have HZ2 : Hid (z + 2 ≤ w2.heap.size) := by have := hbn.size; show z + 2 ≤ _; omega
  have HBB2 := Lib.hid (below_then HBB1.out hbn)
  have HK2 := Lib.hid (HK1.out.later hbn)
  have HJ2 := Lib.hid (HJ1.out.later hbn)
  have HX2 := Lib.hid (HX1.out.later hbn)
  have HY2 := Lib.hid (HY1.out.later hbn)
  clear hbn
  clear hsz1
  go_wp2_with ((with_reducible refine wpList_load_bkG2 ?_ 25 _ rfl z rfl l 25 HK2.out _ Tryz.underlying25 rfl HFR.out.rsize ?_); rfl)
  rw [HXE.out]
  refine (HFW.out w2 HX2.out).mono ?_
  rintro e wa ⟨rfl, hbn⟩
  have HZa : Hid (z + 2 ≤ wa.heap.size) := Nat.le_trans HZ2.out hbn.size
  have HBBa := Lib.hid (below_then HBB2.out hbn)
  have HKa := Lib.hid (HK2.out.later hbn)
  have HJa := Lib.hid (HJ2.out.later hbn)
  have HXa := Lib.hid (HX2.out.later hbn)
  have HYa := Lib.hid (HY2.out.later hbn)
  clear hbn
  obtain ⟨fw, hfw⟩ : ∃ b, fewT L = b := ⟨_, rfl⟩
  rw [hfw]
  have HFE := Lib.hid hfw
  clear hfw HK1 HK2 HJ1 HJ2 HX1 HX2 HY1 HY2
  cases fw
  · go_wp2_with fail
    refine (known_any wa).mono ?_
    rintro e w4 ⟨rfl, hbn⟩
    go_wp2_with fail
    go_ret
    exact ⟨rfl, below_then HBBa.out hbn⟩
  go_wp2_with ((with_reducible refine wpList_load_bkG2 ?_ 25 _ rfl (z + 1) rfl l' 25 HJa.out _ Tryz.underlying25 rfl HFR'.out.rsize ?_); rfl)
  rw [HYE.out]
  refine (HFW'.out wa HYa.out).mono ?_
  rintro e w3 ⟨rfl, hbn⟩
  have HZW : Hid (z + 2 ≤ w3.heap.size) := Nat.le_trans HZa.out hbn.size
  have HBB3 := Lib.hid (below_then HBBa.out hbn)
  have HK3 := Lib.hid (HKa.out.later hbn)
  have HJ3 := Lib.hid (HJa.out.later hbn)
  have HX3 := Lib.hid (HXa.out.later hbn)
  have HY3 := Lib.hid (HYa.out.later hbn)
  clear hbn
  obtain ⟨fw, hfw⟩ : ∃ b, fewT L' = b := ⟨_, rfl⟩
  rw [hfw]
  have HFE' := Lib.hid hfw
  clear hfw HKa HJa HXa HYa
  cases fw
  · go_wp2_with fail
    refine (known_any w3).mono ?_
    rintro e w4 ⟨rfl, hbn⟩
    go_wp2_with fail
    go_ret
    exact ⟨rfl, below_then HBB3.out hbn⟩
  have HN : Hid (N ≤ 66) := by have := few_len HFE.out; rw [HLN.out] at this; exact this
  have HN' : Hid (N' ≤ 66) := by have := few_len HFE'.out; rw [HLN'.out] at this; exact this
  have HEX : Hid (∀ x ∈ xs, x.2.b.length ≤ 1073741000 ∧ x.2.s.length ≤ 1073741000) := fun x hx => by
    have := few_each HFE.out x.2 (by rw [← HLL.out]; exact List.mem_map_of_mem hx)
    omega
  have HEA : Hid (∀ x ∈ ys, x.2.b.length ≤ 1073741000 ∧ x.2.s.length ≤ 1073741000) := fun x hx => by
    have := few_each HFE'.out x.2 (by rw [← HLL'.out]; exact List.mem_map_of_mem hx)
    omega
  have HOA := Lib.hid (HOA.out (by have := HN.out; omega)); have HOB := Lib.hid (HOB.out (by have := HN'.out; omega))
  have HDD := Lib.hid (HDC.out (by have := HN.out; omega) HEX.out (by have := HN'.out; omega) HEA.out)
  clear HDC
  go_wp2_with fail
  go_cut [5, 6] (fun p1 p2 wx => ∃ gX gY P1 P3 q1 q3, p1 = .pointer (some ⟨gX, 0, none⟩) ∧ p2 = .pointer (some ⟨gY, 0, none⟩) ∧ TwoW w3 wx gX gY (bkC p h m (.slice P1 N q1)) (bkC p' h' m' (.slice P3 N' q3)) P1 N q1 xs P3 N' q3 ys)
  case first =>
    refine wp_region_held_drew (S := fun w' => Bk w' z 25 l ∧ Bk w' (z + 1) 25 l') (by kernel_rfl) ⟨Bk.drew HK3.out, Bk.drew HJ3.out⟩ (fun hHeld => ?_)
    have hbd : Below w3.heap.size w3 w3.drew := below_draws w3 w3.heap.size 1
    obtain ⟨y0, hy0⟩ : ∃ wa, w3.drew = wa := ⟨_, rfl⟩
    rw [hy0] at hbd hHeld ⊢
    have HBy0 := Lib.hid hbd; have HKy0 := Lib.hid (HK3.out.later hbd); have HXy0 := Lib.hid (HX3.out.later hbd); have HYy0 := Lib.hid (HY3.out.later hbd); have HJy0 := Lib.hid (HJ3.out.later hbd)
    clear hy0 hbd
    refine wpAnyH_take (i := 0) (v := .agg (List.toArray (l))) rfl (by kernel_rfl) (by kernel_rfl) (by kernel_rfl) (fun _ _ _ h => h) (yieldsIf_load_mid (by rfl) _ _ rfl _ _ rfl (l) _ (fun w hSw => (Bk.range (pre := []) (post := []) (by simpa using hSw.1) rfl)) Tryz.underlying25 rfl (HFR.out.rsize)) (by assumption) ?_
    try simp only [Act.put, List.setIfInBounds_toArray, List.set_cons_zero, List.set_cons_succ, List.getElem_toArray, List.getElem_cons_zero, List.getElem_cons_succ]
    refine wpAnyH_take (i := 2) (v := .agg (List.toArray (l'))) rfl (by kernel_rfl) (by kernel_rfl) (by kernel_rfl) (fun _ _ _ h => h) (yieldsIf_load_mid (by rfl) _ _ rfl _ _ rfl (l') _ (fun w hSw => (Bk.range (pre := []) (post := []) (by simpa using hSw.2) rfl)) Tryz.underlying25 rfl (HFR'.out.rsize)) (by assumption) ?_
    try simp only [Act.put, List.setIfInBounds_toArray, List.set_cons_zero, List.set_cons_succ, List.getElem_toArray, List.getElem_cons_zero, List.getElem_cons_succ]
    as_aux_lemma =>
    refine wpAnyH_ready (rs := [1, 4, 5]) (by kernel_rfl) (by simp) ?_
    refine (AllReadyH.cons rfl (fun K hK => ?_) (AllReadyH.cons rfl (fun K hK => ?_) (AllReadyH.cons rfl (fun K hK => ?_) AllReadyH.nil)))
    ·
      go_simp
      rw [HXE.out]
      refine (HOA.out y0 HXy0.out).mono ?_
      rintro e y1a ⟨⟨v1, rfl, hown⟩, hbn⟩
      obtain ⟨P1, q1, rfl⟩ := own_form hown
      obtain ⟨y1, hy⟩ : ∃ y, y1a = y := ⟨_, rfl⟩
      have hbd : Below y1a.heap.size y1a y1 := hy ▸ Below.refl _ _
      have hsl := own_base (own_keep hown hbd) HBy0.out.size
      have hbn := below_then hbn hbd
      have HBy1 := Lib.hid (below_then HBy0.out hbn); have HKy1 := Lib.hid (HKy0.out.later hbn); have HJy1 := Lib.hid (HJy0.out.later hbn); have HXy1 := Lib.hid (HXy0.out.later hbn); have HYy1 := Lib.hid (HYy0.out.later hbn)
      have HO1y1 := Lib.hid hsl
      rw [hy]
      refine hK.out _ _ ⟨HKy1.out, HJy1.out⟩ (fun hHeld => ?_)
      clear hK K hown hbn hbd hy hsl
      try simp only [Act.put, List.setIfInBounds_toArray, List.set_cons_zero, List.set_cons_succ, List.getElem_toArray, List.getElem_cons_zero, List.getElem_cons_succ]
      refine wpAnyH_ready (rs := [3, 4, 5]) (by kernel_rfl) (by simp) ?_
      refine (AllReadyH.cons rfl (fun K hK => ?_) (AllReadyH.cons rfl (fun K hK => ?_) (AllReadyH.cons rfl (fun K hK => ?_) AllReadyH.nil)))
      ·
        go_simp
        rw [HYE.out]
        refine (HOB.out y1 HYy1.out).mono ?_
        rintro e y2a ⟨⟨v3, rfl, hown⟩, hbn⟩
        obtain ⟨P3, q3, rfl⟩ := own_form hown
        obtain ⟨y2, hy⟩ : ∃ y, y2a = y := ⟨_, rfl⟩
        have hbd : Below y2a.heap.size y2a y2 := hy ▸ Below.refl _ _
        have hsl := own_base (own_keep hown hbd) HBy1.out.size
        have hbn := below_then hbn hbd
        have HBy2 := Lib.hid (below_then HBy1.out hbn); have HKy2 := Lib.hid (HKy1.out.later hbn); have HJy2 := Lib.hid (HJy1.out.later hbn); have HXy2 := Lib.hid (HXy1.out.later hbn); have HYy2 := Lib.hid (HYy1.out.later hbn)
        have HO1y2 := Lib.hid (own_keep HO1y1.out hbn)
        have HO3y2 := Lib.hid hsl
        rw [hy]
        refine hK.out _ _ ⟨HKy2.out, HJy2.out⟩ (fun hHeld => ?_)
        clear hK K hown hbn hbd hy hsl
        try simp only [Act.put, List.setIfInBounds_toArray, List.set_cons_zero, List.set_cons_succ, List.getElem_toArray, List.getElem_cons_zero, List.getElem_cons_succ]
        refine wpAnyH_ready (rs := [4, 5]) (by kernel_rfl) (by simp) ?_
        refine (AllReadyH.cons rfl (fun K hK => ?_) (AllReadyH.cons rfl (fun K hK => ?_) AllReadyH.nil))
        ·
          go_simp
          obtain ⟨g4, hg⟩ : ∃ g, y2.heap.size = g := ⟨_, rfl⟩
          obtain ⟨y3, hy⟩ : ∃ y, (y2.alloc (.cells #[.int .u8 0, .int .u8 0, .int .u8 0, .int .u8 0, .int .u8 0, .int .u8 0, .int .u8 0, .int .u8 0, .int .i64 0, .int .u8 0, .int .u8 0, .int .u8 0, .int .u8 0, .int .u8 0, .int .u8 0, .int .u8 0, .int .u8 0, .slice none 0 0] 31)) = y := ⟨_, rfl⟩
          have hbn : Below y2.heap.size y2 y3 := hy ▸ (below_new y2 _)
          have HBy3 := Lib.hid (below_then HBy2.out hbn); have HKy3 := Lib.hid (HKy2.out.later hbn); have HJy3 := Lib.hid (HJy2.out.later hbn); have HXy3 := Lib.hid (HXy2.out.later hbn); have HYy3 := Lib.hid (HYy2.out.later hbn)
          have HO1y3 := Lib.hid (own_keep HO1y2.out hbn)
          have HO3y3 := Lib.hid (own_keep HO3y2.out hbn)
          have HZ4y3 : Hid (Bk y3 g4 31 zBk) := hy ▸ (Bk.at_ y2 _ #[.int .u8 0, .int .u8 0, .int .u8 0, .int .u8 0, .int .u8 0, .int .u8 0, .int .u8 0, .int .u8 0, .int .i64 0, .int .u8 0, .int .u8 0, .int .u8 0, .int .u8 0, .int .u8 0, .int .u8 0, .int .u8 0, .int .u8 0, .slice none 0 0] hg rfl)
          have HG4 : Hid (w3.heap.size ≤ g4) := by show _ ≤ _; rw [← hg]; exact HBy2.out.size
          rw [hy, hg]
          refine hK.out _ _ ⟨HKy3.out, HJy3.out⟩ (fun hHeld => ?_)
          clear hK K hbn hy hg
          try simp only [Act.put, List.setIfInBounds_toArray, List.set_cons_zero, List.set_cons_succ, List.getElem_toArray, List.getElem_cons_zero, List.getElem_cons_succ]
          refine wpAnyH_ready (rs := [5]) (by kernel_rfl) (by simp) ?_
          refine (AllReadyH.cons rfl (fun K hK => ?_) AllReadyH.nil)
          go_simp
          obtain ⟨g5, hg⟩ : ∃ g, y3.heap.size = g := ⟨_, rfl⟩
          obtain ⟨y4, hy⟩ : ∃ y, (y3.alloc (.cells #[.int .u8 0, .int .u8 0, .int .u8 0, .int .u8 0, .int .u8 0, .int .u8 0, .int .u8 0, .int .u8 0, .int .i64 0, .int .u8 0, .int .u8 0, .int .u8 0, .int .u8 0, .int .u8 0, .int .u8 0, .int .u8 0, .int .u8 0, .slice none 0 0] 31)) = y := ⟨_, rfl⟩
          have hbn : Below y3.heap.size y3 y4 := hy ▸ (below_new y3 _)
          have HBy4 := Lib.hid (below_then HBy3.out hbn); have HKy4 := Lib.hid (HKy3.out.later hbn); have HJy4 := Lib.hid (HJy3.out.later hbn); have HXy4 := Lib.hid (HXy3.out.later hbn); have HYy4 := Lib.hid (HYy3.out.later hbn)
          have HO1y4 := Lib.hid (own_keep HO1y3.out hbn)
          have HO3y4 := Lib.hid (own_keep HO3y3.out hbn)
          have HZ4y4 := Lib.hid (HZ4y3.out.later hbn)
          have HZ5y4 : Hid (Bk y4 g5 31 zBk) := hy ▸ (Bk.at_ y3 _ #[.int .u8 0, .int .u8 0, .int .u8 0, .int .u8 0, .int .u8 0, .int .u8 0, .int .u8 0, .int .u8 0, .int .i64 0, .int .u8 0, .int .u8 0, .int .u8 0, .int .u8 0, .int .u8 0, .int .u8 0, .int .u8 0, .int .u8 0, .slice none 0 0] hg rfl)
          have HG5 : Hid (w3.heap.size ≤ g5) := by show _ ≤ _; rw [← hg]; exact HBy3.out.size
          have HNE : Hid (g4 ≠ g5) := by have := HZ4y3.out.lt; show g4 ≠ g5; omega
          rw [hy, hg]
          refine hK.out _ _ ⟨HKy4.out, HJy4.out⟩ (fun hHeld => ?_)
          clear hK K hbn hy hg
          try simp only [Act.put, List.setIfInBounds_toArray, List.set_cons_zero, List.set_cons_succ, List.getElem_toArray, List.getElem_cons_zero, List.getElem_cons_succ]
          as_aux_lemma =>
          have HF1 : Hid (BkFit (bkC p h m (.slice P1 N q1))) := bk_fit HPO.out HMO.out
          have HF3 : Hid (BkFit (bkC p' h' m' (.slice P3 N' q3))) := bk_fit HPO'.out HMO'.out
          refine wpAnyH_ready (rs := [6]) (by kernel_rfl) (by simp) ?_
          refine AllReadyH.cons rfl (fun K hK => ?_) AllReadyH.nil
          rw [if_pos (by rfl)]
          refine wp_store_part _ _ _ rfl g4 0 _ (bkC p h m (.slice P1 N q1)) rfl rfl rfl _ ([]) (zBk) ([]) (by simpa using HZ4y4.out) rfl (by rw [HF1.out.len]; rfl) HF1.out.size HF1.out.one ?_
          intro wd hp
          refine hK.out _ _ ⟨HKy4.out.grown hp.only (by intro e; injection e with e; have := HG4.out; have := HZW.out; omega), HJy4.out.grown hp.only (by intro e; injection e with e; have := HG4.out; have := HZW.out; omega)⟩ (fun hHeld => ?_)
          clear hK K
          try simp only [Act.put, List.setIfInBounds_toArray, List.set_cons_zero, List.set_cons_succ, List.getElem_toArray, List.getElem_cons_zero, List.getElem_cons_succ]
          have hb4 : Below w3.heap.size w3 wd := below_only HBy4.out hp.only HBy4.out.size HG4.out
          have k4 : Bk wd g4 31 (bkC p h m (.slice P1 N q1)) := by have := hp.bk; simpa using this
          have k5 : Bk wd g5 31 zBk := HZ5y4.out.grown hp.only (by intro e; injection e with e; have := HNE.out; omega)
          have kz : Bk wd z 25 l := HKy4.out.grown hp.only (by intro e; injection e with e; have := HG4.out; have := HZW.out; omega)
          have kj : Bk wd (z + 1) 25 l' := HJy4.out.grown hp.only (by intro e; injection e with e; have := HG4.out; have := HZW.out; omega)
          have o1 := own_only HO1y4.out hp.only (own_bk_ne HO1y4.out HZ4y4.out (by decide))
          have o3 := own_only HO3y4.out hp.only (own_bk_ne HO3y4.out HZ4y4.out (by decide))
          clear hp
          refine wpAnyH_ready (rs := [7]) (by kernel_rfl) (by simp) ?_
          refine AllReadyH.cons rfl (fun K hK => ?_) AllReadyH.nil
          rw [if_pos (by rfl)]
          refine wp_store_part _ _ _ rfl g5 0 _ (bkC p' h' m' (.slice P3 N' q3)) rfl rfl rfl _ ([]) (zBk) ([]) (by simpa using k5) rfl (by rw [HF3.out.len]; rfl) HF3.out.size HF3.out.one ?_
          intro we hp
          refine hK.out _ _ ⟨kz.grown hp.only (by intro e; injection e with e; have := HG5.out; have := HZW.out; omega), kj.grown hp.only (by intro e; injection e with e; have := HG5.out; have := HZW.out; omega)⟩ (fun hHeld => ?_)
          clear hK K
          try simp only [Act.put, List.setIfInBounds_toArray, List.set_cons_zero, List.set_cons_succ, List.getElem_toArray, List.getElem_cons_zero, List.getElem_cons_succ]
          have k5' := k5
          have hb5 : Below w3.heap.size w3 we := below_only hb4 hp.only hb4.size HG5.out
          have k5 : Bk we g5 31 (bkC p' h' m' (.slice P3 N' q3)) := by have := hp.bk; simpa using this
          have k4 : Bk we g4 31 (bkC p h m (.slice P1 N q1)) := k4.grown hp.only (by intro e; injection e with e; have := HNE.out; omega)
          have o1 := own_only o1 hp.only (own_bk_ne o1 k5' (by decide))
          have o3 := own_only o3 hp.only (own_bk_ne o3 k5' (by decide))
          clear hp
          refine wpAnyH_done rfl ?_ _
          go_wp2_with fail
          go_meet
          exact ⟨g4, g5, P1, P3, q1, q3, rfl, rfl, ⟨k4, k5, o1, o3, hb5, HNE.out, HG4.out, HG5.out⟩⟩
        ·
          go_simp
          obtain ⟨g5, hg⟩ : ∃ g, y2.heap.size = g := ⟨_, rfl⟩
          obtain ⟨y5, hy⟩ : ∃ y, (y2.alloc (.cells #[.int .u8 0, .int .u8 0, .int .u8 0, .int .u8 0, .int .u8 0, .int .u8 0, .int .u8 0, .int .u8 0, .int .i64 0, .int .u8 0, .int .u8 0, .int .u8 0, .int .u8 0, .int .u8 0, .int .u8 0, .int .u8 0, .int .u8 0, .slice none 0 0] 31)) = y := ⟨_, rfl⟩
          have hbn : Below y2.heap.size y2 y5 := hy ▸ (below_new y2 _)
          have HBy5 := Lib.hid (below_then HBy2.out hbn); have HKy5 := Lib.hid (HKy2.out.later hbn); have HJy5 := Lib.hid (HJy2.out.later hbn); have HXy5 := Lib.hid (HXy2.out.later hbn); have HYy5 := Lib.hid (HYy2.out.later hbn)
          have HO1y5 := Lib.hid (own_keep HO1y2.out hbn)
          have HO3y5 := Lib.hid (own_keep HO3y2.out hbn)
          have HZ5y5 : Hid (Bk y5 g5 31 zBk) := hy ▸ (Bk.at_ y2 _ #[.int .u8 0, .int .u8 0, .int .u8 0, .int .u8 0, .int .u8 0, .int .u8 0, .int .u8 0, .int .u8 0, .int .i64 0, .int .u8 0, .int .u8 0, .int .u8 0, .int .u8 0, .int .u8 0, .int .u8 0, .int .u8 0, .int .u8 0, .slice none 0 0] hg rfl)
          have HG5 : Hid (w3.heap.size ≤ g5) := by show _ ≤ _; rw [← hg]; exact HBy2.out.size
          rw [hy, hg]
          refine hK.out _ _ ⟨HKy5.out, HJy5.out⟩ (fun hHeld => ?_)
          clear hK K hbn hy hg
          try simp only [Act.put, List.setIfInBounds_toArray, List.set_cons_zero, List.set_cons_succ, List.getElem_toArray, List.getElem_cons_zero, List.getElem_cons_succ]
          refine wpAnyH_ready (rs := [4]) (by kernel_rfl) (by simp) ?_
          refine (AllReadyH.cons rfl (fun K hK => ?_) AllReadyH.nil)
          go_simp
          obtain ⟨g4, hg⟩ : ∃ g, y5.heap.size = g := ⟨_, rfl⟩
          obtain ⟨y6, hy⟩ : ∃ y, (y5.alloc (.cells #[.int .u8 0, .int .u8 0, .int .u8 0, .int .u8 0, .int .u8 0, .int .u8 0, .int .u8 0, .int .u8 0, .int .i64 0, .int .u8 0, .int .u8 0, .int .u8 0, .int .u8 0, .int .u8 0, .int .u8 0, .int .u8 0, .int .u8 0, .slice none 0 0] 31)) = y := ⟨_, rfl⟩
          have hbn : Below y5.heap.size y5 y6 := hy ▸ (below_new y5 _)
          have HBy6 := Lib.hid (below_then HBy5.out hbn); have HKy6 := Lib.hid (HKy5.out.later hbn); have HJy6 := Lib.hid (HJy5.out.later hbn); have HXy6 := Lib.hid (HXy5.out.later hbn); have HYy6 := Lib.hid (HYy5.out.later hbn)
          have HO1y6 := Lib.hid (own_keep HO1y5.out hbn)
          have HO3y6 := Lib.hid (own_keep HO3y5.out hbn)
          have HZ5y6 := Lib.hid (HZ5y5.out.later hbn)
          have HZ4y6 : Hid (Bk y6 g4 31 zBk) := hy ▸ (Bk.at_ y5 _ #[.int .u8 0, .int .u8 0, .int .u8 0, .int .u8 0, .int .u8 0, .int .u8 0, .int .u8 0, .int .u8 0, .int .i64 0, .int .u8 0, .int .u8 0, .int .u8 0, .int .u8 0, .int .u8 0, .int .u8 0, .int .u8 0, .int .u8 0, .slice none 0 0] hg rfl)
          have HG4 : Hid (w3.heap.size ≤ g4) := by show _ ≤ _; rw [← hg]; exact HBy5.out.size
          have HNE : Hid (g4 ≠ g5) := by have := HZ5y5.out.lt; show g4 ≠ g5; omega
          rw [hy, hg]
          refine hK.out _ _ ⟨HKy6.out, HJy6.out⟩ (fun hHeld => ?_)
          clear hK K hbn hy hg
          try simp only [Act.put, List.setIfInBounds_toArray, List.set_cons_zero, List.set_cons_succ, List.getElem_toArray, List.getElem_cons_zero, List.getElem_cons_succ]
          as_aux_lemma =>
          have HF1 : Hid (BkFit (bkC p h m (.slice P1 N q1))) := bk_fit HPO.out HMO.out
          have HF3 : Hid (BkFit (bkC p' h' m' (.slice P3 N' q3))) := bk_fit HPO'.out HMO'.out
          refine wpAnyH_ready (rs := [6]) (by kernel_rfl) (by simp) ?_
          refine AllReadyH.cons rfl (fun K hK => ?_) AllReadyH.nil
          rw [if_pos (by rfl)]
          refine wp_store_part _ _ _ rfl g4 0 _ (bkC p h m (.slice P1 N q1)) rfl rfl rfl _ ([]) (zBk) ([]) (by simpa using HZ4y6.out) rfl (by rw [HF1.out.len]; rfl) HF1.out.size HF1.out.one ?_
          intro wd hp
          refine hK.out _ _ ⟨HKy6.out.grown hp.only (by intro e; injection e with e; have := HG4.out; have := HZW.out; omega), HJy6.out.grown hp.only (by intro e; injection e with e; have := HG4.out; have := HZW.out; omega)⟩ (fun hHeld => ?_)
          clear hK K
          try simp only [Act.put, List.setIfInBounds_toArray, List.set_cons_zero, List.set_cons_succ, List.getElem_toArray, List.getElem_cons_zero, List.getElem_cons_succ]
          have hb4 : Below w3.heap.size w3 wd := below_only HBy6.out hp.only HBy6.out.size HG4.out
          have k4 : Bk wd g4 31 (bkC p h m (.slice P1 N q1)) := by have := hp.bk; simpa using this
          have k5 : Bk wd g5 31 zBk := HZ5y6.out.grown hp.only (by intro e; injection e with e; have := HNE.out; omega)
          have kz : Bk wd z 25 l := HKy6.out.grown hp.only (by intro e; injection e with e; have := HG4.out; have := HZW.out; omega)
          have kj : Bk wd (z + 1) 25 l' := HJy6.out.grown hp.only (by intro e; injection e with e; have := HG4.out; have := HZW.out; omega)
          have o1 := own_only HO1y6.out hp.only (own_bk_ne HO1y6.out HZ4y6.out (by decide))
          have o3 := own_only HO3y6.out hp.only (own_bk_ne HO3y6.out HZ4y6.out (by decide))
          clear hp
          refine wpAnyH_ready (rs := [7]) (by kernel_rfl) (by simp) ?_
          refine AllReadyH.cons rfl (fun K hK => ?_) AllReadyH.nil
          rw [if_pos (by rfl)]
          refine wp_store_part _ _ _ rfl g5 0 _ (bkC p' h' m' (.slice P3 N' q3)) rfl rfl rfl _ ([]) (zBk) ([]) (by simpa using k5) rfl (by rw [HF3.out.len]; rfl) HF3.out.size HF3.out.one ?_
          intro we hp
          refine hK.out _ _ ⟨kz.grown hp.only (by intro e; injection e with e; have := HG5.out; have := HZW.out; omega), kj.grown hp.only (by intro e; injection e with e; have := HG5.out; have := HZW.out; omega)⟩ (fun hHeld => ?_)
          clear hK K
          try simp only [Act.put, List.setIfInBounds_toArray, List.set_cons_zero, List.set_cons_succ, List.getElem_toArray, List.getElem_cons_zero, List.getElem_cons_succ]
          have k5' := k5
          have hb5 : Below w3.heap.size w3 we := below_only hb4 hp.only hb4.size HG5.out
          have k5 : Bk we g5 31 (bkC p' h' m' (.slice P3 N' q3)) := by have := hp.bk; simpa using this
          have k4 : Bk we g4 31 (bkC p h m (.slice P1 N q1)) := k4.grown hp.only (by intro e; injection e with e; have := HNE.out; omega)
          have o1 := own_only o1 hp.only (own_bk_ne o1 k5' (by decide))
          have o3 := own_only o3 hp.only (own_bk_ne o3 k5' (by decide))
          clear hp
          refine wpAnyH_done rfl ?_ _
          go_wp2_with fail
          go_meet
          exact ⟨g4, g5, P1, P3, q1, q3, rfl, rfl, ⟨k4, k5, o1, o3, hb5, HNE.out, HG4.out, HG5.out⟩⟩
      ·
        go_simp
        obtain ⟨g4, hg⟩ : ∃ g, y1.heap.size = g := ⟨_, rfl⟩
        obtain ⟨y7, hy⟩ : ∃ y, (y1.alloc (.cells #[.int .u8 0, .int .u8 0, .int .u8 0, .int .u8 0, .int .u8 0, .int .u8 0, .int .u8 0, .int .u8 0, .int .i64 0, .int .u8 0, .int .u8 0, .int .u8 0, .int .u8 0, .int .u8 0, .int .u8 0, .int .u8 0, .int .u8 0, .slice none 0 0] 31)) = y := ⟨_, rfl⟩
        have hbn : Below y1.heap.size y1 y7 := hy ▸ (below_new y1 _)
        have HBy7 := Lib.hid (below_then HBy1.out hbn); have HKy7 := Lib.hid (HKy1.out.later hbn); have HJy7 := Lib.hid (HJy1.out.later hbn); have HXy7 := Lib.hid (HXy1.out.later hbn); have HYy7 := Lib.hid (HYy1.out.later hbn)
        have HO1y7 := Lib.hid (own_keep HO1y1.out hbn)
        have HZ4y7 : Hid (Bk y7 g4 31 zBk) := hy ▸ (Bk.at_ y1 _ #[.int .u8 0, .int .u8 0, .int .u8 0, .int .u8 0, .int .u8 0, .int .u8 0, .int .u8 0, .int .u8 0, .int .i64 0, .int .u8 0, .int .u8 0, .int .u8 0, .int .u8 0, .int .u8 0, .int .u8 0, .int .u8 0, .int .u8 0, .slice none 0 0] hg rfl)
        have HG4 : Hid (w3.heap.size ≤ g4) := by show _ ≤ _; rw [← hg]; exact HBy1.out.size
        rw [hy, hg]
        refine hK.out _ _ ⟨HKy7.out, HJy7.out⟩ (fun hHeld => ?_)
        clear hK K hbn hy hg
        try simp only [Act.put, List.setIfInBounds_toArray, List.set_cons_zero, List.set_cons_succ, List.getElem_toArray, List.getElem_cons_zero, List.getElem_cons_succ]
        refine wpAnyH_ready (rs := [3, 5]) (by kernel_rfl) (by simp) ?_
        refine (AllReadyH.cons rfl (fun K hK => ?_) (AllReadyH.cons rfl (fun K hK => ?_) AllReadyH.nil))
        ·
          go_simp
          rw [HYE.out]
          refine (HOB.out y7 HYy7.out).mono ?_
          rintro e y8a ⟨⟨v3, rfl, hown⟩, hbn⟩
          obtain ⟨P3, q3, rfl⟩ := own_form hown
          obtain ⟨y8, hy⟩ : ∃ y, y8a = y := ⟨_, rfl⟩
          have hbd : Below y8a.heap.size y8a y8 := hy ▸ Below.refl _ _
          have hsl := own_base (own_keep hown hbd) HBy7.out.size
          have hbn := below_then hbn hbd
          have HBy8 := Lib.hid (below_then HBy7.out hbn); have HKy8 := Lib.hid (HKy7.out.later hbn); have HJy8 := Lib.hid (HJy7.out.later hbn); have HXy8 := Lib.hid (HXy7.out.later hbn); have HYy8 := Lib.hid (HYy7.out.later hbn)
          have HO1y8 := Lib.hid (own_keep HO1y7.out hbn)
          have HZ4y8 := Lib.hid (HZ4y7.out.later hbn)
          have HO3y8 := Lib.hid hsl
          rw [hy]
          refine hK.out _ _ ⟨HKy8.out, HJy8.out⟩ (fun hHeld => ?_)
          clear hK K hown hbn hbd hy hsl
          try simp only [Act.put, List.setIfInBounds_toArray, List.set_cons_zero, List.set_cons_succ, List.getElem_toArray, List.getElem_cons_zero, List.getElem_cons_succ]
          refine wpAnyH_ready (rs := [5]) (by kernel_rfl) (by simp) ?_
          refine (AllReadyH.cons rfl (fun K hK => ?_) AllReadyH.nil)
          go_simp
          obtain ⟨g5, hg⟩ : ∃ g, y8.heap.size = g := ⟨_, rfl⟩
          obtain ⟨y9, hy⟩ : ∃ y, (y8.alloc (.cells #[.int .u8 0, .int .u8 0, .int .u8 0, .int .u8 0, .int .u8 0, .int .u8 0, .int .u8 0, .int .u8 0, .int .i64 0, .int .u8 0, .int .u8 0, .int .u8 0, .int .u8 0, .int .u8 0, .int .u8 0, .int .u8 0, .int .u8 0, .slice none 0 0] 31)) = y := ⟨_, rfl⟩
          have hbn : Below y8.heap.size y8 y9 := hy ▸ (below_new y8 _)
          have HBy9 := Lib.hid (below_then HBy8.out hbn); have HKy9 := Lib.hid (HKy8.out.later hbn); have HJy9 := Lib.hid (HJy8.out.later hbn); have HXy9 := Lib.hid (HXy8.out.later hbn); have HYy9 := Lib.hid (HYy8.out.later hbn)
          have HO1y9 := Lib.hid (own_keep HO1y8.out hbn)
          have HO3y9 := Lib.hid (own_keep HO3y8.out hbn)
          have HZ4y9 := Lib.hid (HZ4y8.out.later hbn)
          have HZ5y9 : Hid (Bk y9 g5 31 zBk) := hy ▸ (Bk.at_ y8 _ #[.int .u8 0, .int .u8 0, .int .u8 0, .int .u8 0, .int .u8 0, .int .u8 0, .int .u8 0, .int .u8 0, .int .i64 0, .int .u8 0, .int .u8 0, .int .u8 0, .int .u8 0, .int .u8 0, .int .u8 0, .int .u8 0, .int .u8 0, .slice none 0 0] hg rfl)
          have HG5 : Hid (w3.heap.size ≤ g5) := by show _ ≤ _; rw [← hg]; exact HBy8.out.size
          have HNE : Hid (g4 ≠ g5) := by have := HZ4y8.out.lt; show g4 ≠ g5; omega
          rw [hy, hg]
          refine hK.out _ _ ⟨HKy9.out, HJy9.out⟩ (fun hHeld => ?_)
          clear hK K hbn hy hg
          try simp only [Act.put, List.setIfInBounds_toArray, List.set_cons_zero, List.set_cons_succ, List.getElem_toArray, List.getElem_cons_zero, List.getElem_cons_succ]
          as_aux_lemma =>
          have HF1 : Hid (BkFit (bkC p h m (.slice P1 N q1))) := bk_fit HPO.out HMO.out
          have HF3 : Hid (BkFit (bkC p' h' m' (.slice P3 N' q3))) := bk_fit HPO'.out HMO'.out
          refine wpAnyH_ready (rs := [6]) (by kernel_rfl) (by simp) ?_
          refine AllReadyH.cons rfl (fun K hK => ?_) AllReadyH.nil
          rw [if_pos (by rfl)]
          refine wp_store_part _ _ _ rfl g4 0 _ (bkC p h m (.slice P1 N q1)) rfl rfl rfl _ ([]) (zBk) ([]) (by simpa using HZ4y9.out) rfl (by rw [HF1.out.len]; rfl) HF1.out.size HF1.out.one ?_
          intro wd hp
          refine hK.out _ _ ⟨HKy9.out.grown hp.only (by intro e; injection e with e; have := HG4.out; have := HZW.out; omega), HJy9.out.grown hp.only (by intro e; injection e with e; have := HG4.out; have := HZW.out; omega)⟩ (fun hHeld => ?_)
          clear hK K
          try simp only [Act.put, List.setIfInBounds_toArray, List.set_cons_zero, List.set_cons_succ, List.getElem_toArray, List.getElem_cons_zero, List.getElem_cons_succ]
          have hb4 : Below w3.heap.size w3 wd := below_only HBy9.out hp.only HBy9.out.size HG4.out
          have k4 : Bk wd g4 31 (bkC p h m (.slice P1 N q1)) := by have := hp.bk; simpa using this
          have k5 : Bk wd g5 31 zBk := HZ5y9.out.grown hp.only (by intro e; injection e with e; have := HNE.out; omega)
          have kz : Bk wd z 25 l := HKy9.out.grown hp.only (by intro e; injection e with e; have := HG4.out; have := HZW.out; omega)
          have kj : Bk wd (z + 1) 25 l' := HJy9.out.grown hp.only (by intro e; injection e with e; have := HG4.out; have := HZW.out; omega)
          have o1 := own_only HO1y9.out hp.only (own_bk_ne HO1y9.out HZ4y9.out (by decide))
          have o3 := own_only HO3y9.out hp.only (own_bk_ne HO3y9.out HZ4y9.out (by decide))
          clear hp
          refine wpAnyH_ready (rs := [7]) (by kernel_rfl) (by simp) ?_
          refine AllReadyH.cons rfl (fun K hK => ?_) AllReadyH.nil
          rw [if_pos (by rfl)]
          refine wp_store_part _ _ _ rfl g5 0 _ (bkC p' h' m' (.slice P3 N' q3)) rfl rfl rfl _ ([]) (zBk) ([]) (by simpa using k5) rfl (by rw [HF3.out.len]; rfl) HF3.out.size HF3.out.one ?_
          intro we hp
          refine hK.out _ _ ⟨kz.grown hp.only (by intro e; injection e with e; have := HG5.out; have := HZW.out; omega), kj.grown hp.only (by intro e; injection e with e; have := HG5.out; have := HZW.out; omega)⟩ (fun hHeld => ?_)
          clear hK K
          try simp only [Act.put, List.setIfInBounds_toArray, List.set_cons_zero, List.set_cons_succ, List.getElem_toArray, List.getElem_cons_zero, List.getElem_cons_succ]
          have k5' := k5
          have hb5 : Below w3.heap.size w3 we := below_only hb4 hp.only hb4.size HG5.out
          have k5 : Bk we g5 31 (bkC p' h' m' (.slice P3 N' q3)) := by have := hp.bk; simpa using this
          have k4 : Bk we g4 31 (bkC p h m (.slice P1 N q1)) := k4.grown hp.only (by intro e; injection e with e; have := HNE.out; omega)
          have o1 := own_only o1 hp.only (own_bk_ne o1 k5' (by decide))
          have o3 := own_only o3 hp.only (own_bk_ne o3 k5' (by decide))
          clear hp
          refine wpAnyH_done rfl ?_ _
          go_wp2_with fail
          go_meet
          exact ⟨g4, g5, P1, P3, q1, q3, rfl, rfl, ⟨k4, k5, o1, o3, hb5, HNE.out, HG4.out, HG5.out⟩⟩
        ·
          go_simp
          obtain ⟨g5, hg⟩ : ∃ g, y7.heap.size = g := ⟨_, rfl⟩
          obtain ⟨y10, hy⟩ : ∃ y, (y7.alloc (.cells #[.int .u8 0, .int .u8 0, .int .u8 0, .int .u8 0, .int .u8 0, .int .u8 0, .int .u8 0, .int .u8 0, .int .i64 0, .int .u8 0, .int .u8 0, .int .u8 0, .int .u8 0, .int .u8 0, .int .u8 0, .int .u8 0, .int .u8 0, .slice none 0 0] 31)) = y := ⟨_, rfl⟩
          have hbn : Below y7.heap.size y7 y10 := hy ▸ (below_new y7 _)
          have HBy10 := Lib.hid (below_then HBy7.out hbn); have HKy10 := Lib.hid (HKy7.out.later hbn); have HJy10 := Lib.hid (HJy7.out.later hbn); have HXy10 := Lib.hid (HXy7.out.later hbn); have HYy10 := Lib.hid (HYy7.out.later hbn)
          have HO1y10 := Lib.hid (own_keep HO1y7.out hbn)
          have HZ4y10 := Lib.hid (HZ4y7.out.later hbn)
          have HZ5y10 : Hid (Bk y10 g5 31 zBk) := hy ▸ (Bk.at_ y7 _ #[.int .u8 0, .int .u8 0, .int .u8 0, .int .u8 0, .int .u8 0, .int .u8 0, .int .u8 0, .int .u8 0, .int .i64 0, .int .u8 0, .int .u8 0, .int .u8 0, .int .u8 0, .int .u8 0, .int .u8 0, .int .u8 0, .int .u8 0, .slice none 0 0] hg rfl)
          have HG5 : Hid (w3.heap.size ≤ g5) := by show _ ≤ _; rw [← hg]; exact HBy7.out.size
          have HNE : Hid (g4 ≠ g5) := by have := HZ4y7.out.lt; show g4 ≠ g5; omega
          rw [hy, hg]
          refine hK.out _ _ ⟨HKy10.out, HJy10.out⟩ (fun hHeld => ?_)
          clear hK K hbn hy hg
          try simp only [Act.put, List.setIfInBounds_toArray, List.set_cons_zero, List.set_cons_succ, List.getElem_toArray, List.getElem_cons_zero, List.getElem_cons_succ]
          refine wpAnyH_ready (rs := [3]) (by kernel_rfl) (by simp) ?_
          refine (AllReadyH.cons rfl (fun K hK => ?_) AllReadyH.nil)
          go_simp
          rw [HYE.out]
          refine (HOB.out y10 HYy10.out).mono ?_
          rintro e y11a ⟨⟨v3, rfl, hown⟩, hbn⟩
          obtain ⟨P3, q3, rfl⟩ := own_form hown
          obtain ⟨y11, hy⟩ : ∃ y, y11a = y := ⟨_, rfl⟩
          have hbd : Below y11a.heap.size y11a y11 := hy ▸ Below.refl _ _
          have hsl := own_base (own_keep hown hbd) HBy10.out.size
          have hbn := below_then hbn hbd
          have HBy11 := Lib.hid (below_then HBy10.out hbn); have HKy11 := Lib.hid (HKy10.out.later hbn); have HJy11 := Lib.hid (HJy10.out.later hbn); have HXy11 := Lib.hid (HXy10.out.later hbn); have HYy11 := Lib.hid (HYy10.out.later hbn)
          have HO1y11 := Lib.hid (own_keep HO1y10.out hbn)
          have HZ4y11 := Lib.hid (HZ4y10.out.later hbn)
          have HZ5y11 := Lib.hid (HZ5y10.out.later hbn)
          have HO3y11 := Lib.hid hsl
          rw [hy]
          refine hK.out _ _ ⟨HKy11.out, HJy11.out⟩ (fun hHeld => ?_)
          clear hK K hown hbn hbd hy hsl
          try simp only [Act.put, List.setIfInBounds_toArray, List.set_cons_zero, List.set_cons_succ, List.getElem_toArray, List.getElem_cons_zero, List.getElem_cons_succ]
          as_aux_lemma =>
          have HF1 : Hid (BkFit (bkC p h m (.slice P1 N q1))) := bk_fit HPO.out HMO.out
          have HF3 : Hid (BkFit (bkC p' h' m' (.slice P3 N' q3))) := bk_fit HPO'.out HMO'.out
          refine wpAnyH_ready (rs := [6]) (by kernel_rfl) (by simp) ?_
          refine AllReadyH.cons rfl (fun K hK => ?_) AllReadyH.nil
          rw [if_pos (by rfl)]
          refine wp_store_part _ _ _ rfl g4 0 _ (bkC p h m (.slice P1 N q1)) rfl rfl rfl _ ([]) (zBk) ([]) (by simpa using HZ4y11.out) rfl (by rw [HF1.out.len]; rfl) HF1.out.size HF1.out.one ?_
          intro wd hp
          refine hK.out _ _ ⟨HKy11.out.grown hp.only (by intro e; injection e with e; have := HG4.out; have := HZW.out; omega), HJy11.out.grown hp.only (by intro e; injection e with e; have := HG4.out; have := HZW.out; omega)⟩ (fun hHeld => ?_)
          clear hK K
          try simp only [Act.put, List.setIfInBounds_toArray, List.set_cons_zero, List.set_cons_succ, List.getElem_toArray, List.getElem_cons_zero, List.getElem_cons_succ]
          have hb4 : Below w3.heap.size w3 wd := below_only HBy11.out hp.only HBy11.out.size HG4.out
          have k4 : Bk wd g4 31 (bkC p h m (.slice P1 N q1)) := by have := hp.bk; simpa using this
          have k5 : Bk wd g5 31 zBk := HZ5y11.out.grown hp.only (by intro e; injection e with e; have := HNE.out; omega)
          have kz : Bk wd z 25 l := HKy11.out.grown hp.only (by intro e; injection e with e; have := HG4.out; have := HZW.out; omega)
          have kj : Bk wd (z + 1) 25 l' := HJy11.out.grown hp.only (by intro e; injection e with e; have := HG4.out; have := HZW.out; omega)
          have o1 := own_only HO1y11.out hp.only (own_bk_ne HO1y11.out HZ4y11.out (by decide))
          have o3 := own_only HO3y11.out hp.only (own_bk_ne HO3y11.out HZ4y11.out (by decide))
          clear hp
          refine wpAnyH_ready (rs := [7]) (by kernel_rfl) (by simp) ?_
          refine AllReadyH.cons rfl (fun K hK => ?_) AllReadyH.nil
          rw [if_pos (by rfl)]
          refine wp_store_part _ _ _ rfl g5 0 _ (bkC p' h' m' (.slice P3 N' q3)) rfl rfl rfl _ ([]) (zBk) ([]) (by simpa using k5) rfl (by rw [HF3.out.len]; rfl) HF3.out.size HF3.out.one ?_
          intro we hp
          refine hK.out _ _ ⟨kz.grown hp.only (by intro e; injection e with e; have := HG5.out; have := HZW.out; omega), kj.grown hp.only (by intro e; injection e with e; have := HG5.out; have := HZW.out; omega)⟩ (fun hHeld => ?_)
          clear hK K
          try simp only [Act.put, List.setIfInBounds_toArray, List.set_cons_zero, List.set_cons_succ, List.getElem_toArray, List.getElem_cons_zero, List.getElem_cons_succ]
          have k5' := k5
          have hb5 : Below w3.heap.size w3 we := below_only hb4 hp.only hb4.size HG5.out
          have k5 : Bk we g5 31 (bkC p' h' m' (.slice P3 N' q3)) := by have := hp.bk; simpa using this
          have k4 : Bk we g4 31 (bkC p h m (.slice P1 N q1)) := k4.grown hp.only (by intro e; injection e with e; have := HNE.out; omega)
          have o1 := own_only o1 hp.only (own_bk_ne o1 k5' (by decide))
          have o3 := own_only o3 hp.only (own_bk_ne o3 k5' (by decide))
          clear hp
          refine wpAnyH_done rfl ?_ _
          go_wp2_with fail
          go_meet
          exact ⟨g4, g5, P1, P3, q1, q3, rfl, rfl, ⟨k4, k5, o1, o3, hb5, HNE.out, HG4.out, HG5.out⟩⟩
      ·
        go_simp
        obtain ⟨g5, hg⟩ : ∃ g, y1.heap.size = g := ⟨_, rfl⟩
        obtain ⟨y12, hy⟩ : ∃ y, (y1.alloc (.cells #[.int .u8 0, .int .u8 0, .int .u8 0, .int .u8 0, .int .u8 0, .int .u8 0, .int .u8 0, .int .u8 0, .int .i64 0, .int .u8 0, .int .u8 0, .int .u8 0, .int .u8 0, .int .u8 0, .int .u8 0, .int .u8 0, .int .u8 0, .slice none 0 0] 31)) = y := ⟨_, rfl⟩
        have hbn : Below y1.heap.size y1 y12 := hy ▸ (below_new y1 _)
        have HBy12 := Lib.hid (below_then HBy1.out hbn); have HKy12 := Lib.hid (HKy1.out.later hbn); have HJy12 := Lib.hid (HJy1.out.later hbn); have HXy12 := Lib.hid (HXy1.out.later hbn); have HYy12 := Lib.hid (HYy1.out.later hbn)
        have HO1y12 := Lib.hid (own_keep HO1y1.out hbn)
        have HZ5y12 : Hid (Bk y12 g5 31 zBk) := hy ▸ (Bk.at_ y1 _ #[.int .u8 0, .int .u8 0, .int .u8 0, .int .u8 0, .int .u8 0, .int .u8 0, .int .u8 0, .int .u8 0, .int .i64 0, .int .u8 0, .int .u8 0, .int .u8 0, .int .u8 0, .int .u8 0, .int .u8 0, .int .u8 0, .int .u8 0, .slice none 0 0] hg rfl)
        have HG5 : Hid (w3.heap.size ≤ g5) := by show _ ≤ _; rw [← hg]; exact HBy1.out.size
        rw [hy, hg]
        refine hK.out _ _ ⟨HKy12.out, HJy12.out⟩ (fun hHeld => ?_)
        clear hK K hbn hy hg
        try simp only [Act.put, List.setIfInBounds_toArray, List.set_cons_zero, List.set_cons_succ, List.getElem_toArray, List.getElem_cons_zero, List.getElem_cons_succ]
        refine wpAnyH_ready (rs := [3, 4]) (by kernel_rfl) (by simp) ?_
        refine (AllReadyH.cons rfl (fun K hK => ?_) (AllReadyH.cons rfl (fun K hK => ?_) AllReadyH.nil))
        ·
          go_simp
          rw [HYE.out]
          refine (HOB.out y12 HYy12.out).mono ?_
          rintro e y13a ⟨⟨v3, rfl, hown⟩, hbn⟩
          obtain ⟨P3, q3, rfl⟩ := own_form hown
          obtain ⟨y13, hy⟩ : ∃ y, y13a = y := ⟨_, rfl⟩
          have hbd : Below y13a.heap.size y13a y13 := hy ▸ Below.refl _ _
          have hsl := own_base (own_keep hown hbd) HBy12.out.size
          have hbn := below_then hbn hbd
          have HBy13 := Lib.hid (below_then HBy12.out hbn); have HKy13 := Lib.hid (HKy12.out.later hbn); have HJy13 := Lib.hid (HJy12.out.later hbn); have HXy13 := Lib.hid (HXy12.out.later hbn); have HYy13 := Lib.hid (HYy12.out.later hbn)
          have HO1y13 := Lib.hid (own_keep HO1y12.out hbn)
          have HZ5y13 := Lib.hid (HZ5y12.out.later hbn)
          have HO3y13 := Lib.hid hsl
          rw [hy]
          refine hK.out _ _ ⟨HKy13.out, HJy13.out⟩ (fun hHeld => ?_)
          clear hK K hown hbn hbd hy hsl
          try simp only [Act.put, List.setIfInBounds_toArray, List.set_cons_zero, List.set_cons_succ, List.getElem_toArray, List.getElem_cons_zero, List.getElem_cons_succ]
          refine wpAnyH_ready (rs := [4]) (by kernel_rfl) (by simp) ?_
          refine (AllReadyH.cons rfl (fun K hK => ?_) AllReadyH.nil)
          go_simp
          obtain ⟨g4, hg⟩ : ∃ g, y13.heap.size = g := ⟨_, rfl⟩
          obtain ⟨y14, hy⟩ : ∃ y, (y13.alloc (.cells #[.int .u8 0, .int .u8 0, .int .u8 0, .int .u8 0, .int .u8 0, .int .u8 0, .int .u8 0, .int .u8 0, .int .i64 0, .int .u8 0, .int .u8 0, .int .u8 0, .int .u8 0, .int .u8 0, .int .u8 0, .int .u8 0, .int .u8 0, .slice none 0 0] 31)) = y := ⟨_, rfl⟩
          have hbn : Below y13.heap.size y13 y14 := hy ▸ (below_new y13 _)
          have HBy14 := Lib.hid (below_then HBy13.out hbn); have HKy14 := Lib.hid (HKy13.out.later hbn); have HJy14 := Lib.hid (HJy13.out.later hbn); have HXy14 := Lib.hid (HXy13.out.later hbn); have HYy14 := Lib.hid (HYy13.out.later hbn)
          have HO1y14 := Lib.hid (own_keep HO1y13.out hbn)
          have HO3y14 := Lib.hid (own_keep HO3y13.out hbn)
          have HZ5y14 := Lib.hid (HZ5y13.out.later hbn)
          have HZ4y14 : Hid (Bk y14 g4 31 zBk) := hy ▸ (Bk.at_ y13 _ #[.int .u8 0, .int .u8 0, .int .u8 0, .int .u8 0, .int .u8 0, .int .u8 0, .int .u8 0, .int .u8 0, .int .i64 0, .int .u8 0, .int .u8 0, .int .u8 0, .int .u8 0, .int .u8 0, .int .u8 0, .int .u8 0, .int .u8 0, .slice none 0 0] hg rfl)
          have HG4 : Hid (w3.heap.size ≤ g4) := by show _ ≤ _; rw [← hg]; exact HBy13.out.size
          have HNE : Hid (g4 ≠ g5) := by have := HZ5y13.out.lt; show g4 ≠ g5; omega
          rw [hy, hg]
          refine hK.out _ _ ⟨HKy14.out, HJy14.out⟩ (fun hHeld => ?_)
          clear hK K hbn hy hg
          try simp only [Act.put, List.setIfInBounds_toArray, List.set_cons_zero, List.set_cons_succ, List.getElem_toArray, List.getElem_cons_zero, List.getElem_cons_succ]
          as_aux_lemma =>
          have HF1 : Hid (BkFit (bkC p h m (.slice P1 N q1))) := bk_fit HPO.out HMO.out
          have HF3 : Hid (BkFit (bkC p' h' m' (.slice P3 N' q3))) := bk_fit HPO'.out HMO'.out
          refine wpAnyH_ready (rs := [6]) (by kernel_rfl) (by simp) ?_
          refine AllReadyH.cons rfl (fun K hK => ?_) AllReadyH.nil
          rw [if_pos (by rfl)]
          refine wp_store_part _ _ _ rfl g4 0 _ (bkC p h m (.slice P1 N q1)) rfl rfl rfl _ ([]) (zBk) ([]) (by simpa using HZ4y14.out) rfl (by rw [HF1.out.len]; rfl) HF1.out.size HF1.out.one ?_
          intro wd hp
          refine hK.out _ _ ⟨HKy14.out.grown hp.only (by intro e; injection e with e; have := HG4.out; have := HZW.out; omega), HJy14.out.grown hp.only (by intro e; injection e with e; have := HG4.out; have := HZW.out; omega)⟩ (fun hHeld => ?_)
          clear hK K
          try simp only [Act.put, List.setIfInBounds_toArray, List.set_cons_zero, List.set_cons_succ, List.getElem_toArray, List.getElem_cons_zero, List.getElem_cons_succ]
          have hb4 : Below w3.heap.size w3 wd := below_only HBy14.out hp.only HBy14.out.size HG4.out
          have k4 : Bk wd g4 31 (bkC p h m (.slice P1 N q1)) := by have := hp.bk; simpa using this
          have k5 : Bk wd g5 31 zBk := HZ5y14.out.grown hp.only (by intro e; injection e with e; have := HNE.out; omega)
          have kz : Bk wd z 25 l := HKy14.out.grown hp.only (by intro e; injection e with e; have := HG4.out; have := HZW.out; omega)
          have kj : Bk wd (z + 1) 25 l' := HJy14.out.grown hp.only (by intro e; injection e with e; have := HG4.out; have := HZW.out; omega)
          have o1 := own_only HO1y14.out hp.only (own_bk_ne HO1y14.out HZ4y14.out (by decide))
          have o3 := own_only HO3y14.out hp.only (own_bk_ne HO3y14.out HZ4y14.out (by decide))
          clear hp
          refine wpAnyH_ready (rs := [7]) (by kernel_rfl) (by simp) ?_
          refine AllReadyH.cons rfl (fun K hK => ?_) AllReadyH.nil
          rw [if_pos (by rfl)]
          refine wp_store_part _ _ _ rfl g5 0 _ (bkC p' h' m' (.slice P3 N' q3)) rfl rfl rfl _ ([]) (zBk) ([]) (by simpa using k5) rfl (by rw [HF3.out.len]; rfl) HF3.out.size HF3.out.one ?_
          intro we hp
          refine hK.out _ _ ⟨kz.grown hp.only (by intro e; injection e with e; have := HG5.out; have := HZW.out; omega), kj.grown hp.only (by intro e; injection e with e; have := HG5.out; have := HZW.out; omega)⟩ (fun hHeld => ?_)
          clear hK K
          try simp only [Act.put, List.setIfInBounds_toArray, List.set_cons_zero, List.set_cons_succ, List.getElem_toArray, List.getElem_cons_zero, List.getElem_cons_succ]
          have k5' := k5
          have hb5 : Below w3.heap.size w3 we := below_only hb4 hp.only hb4.size HG5.out
          have k5 : Bk we g5 31 (bkC p' h' m' (.slice P3 N' q3)) := by have := hp.bk; simpa using this
          have k4 : Bk we g4 31 (bkC p h m (.slice P1 N q1)) := k4.grown hp.only (by intro e; injection e with e; have := HNE.out; omega)
          have o1 := own_only o1 hp.only (own_bk_ne o1 k5' (by decide))
          have o3 := own_only o3 hp.only (own_bk_ne o3 k5' (by decide))
          clear hp
          refine wpAnyH_done rfl ?_ _
          go_wp2_with fail
          go_meet
          exact ⟨g4, g5, P1, P3, q1, q3, rfl, rfl, ⟨k4, k5, o1, o3, hb5, HNE.out, HG4.out, HG5.out⟩⟩
        ·
          go_simp
          obtain ⟨g4, hg⟩ : ∃ g, y12.heap.size = g := ⟨_, rfl⟩
          obtain ⟨y15, hy⟩ : ∃ y, (y12.alloc (.cells #[.int .u8 0, .int .u8 0, .int .u8 0, .int .u8 0, .int .u8 0, .int .u8 0, .int .u8 0, .int .u8 0, .int .i64 0, .int .u8 0, .int .u8 0, .int .u8 0, .int .u8 0, .int .u8 0, .int .u8 0, .int .u8 0, .int .u8 0, .slice none 0 0] 31)) = y := ⟨_, rfl⟩
          have hbn : Below y12.heap.size y12 y15 := hy ▸ (below_new y12 _)
          have HBy15 := Lib.hid (below_then HBy12.out hbn); have HKy15 := Lib.hid (HKy12.out.later hbn); have HJy15 := Lib.hid (HJy12.out.later hbn); have HXy15 := Lib.hid (HXy12.out.later hbn); have HYy15 := Lib.hid (HYy12.out.later hbn)
          have HO1y15 := Lib.hid (own_keep HO1y12.out hbn)
          have HZ5y15 := Lib.hid (HZ5y12.out.later hbn)
          have HZ4y15 : Hid (Bk y15 g4 31 zBk) := hy ▸ (Bk.at_ y12 _ #[.int .u8 0, .int .u8 0, .int .u8 0, .int .u8 0, .int .u8 0, .int .u8 0, .int .u8 0, .int .u8 0, .int .i64 0, .int .u8 0, .int .u8 0, .int .u8 0, .int .u8 0, .int .u8 0, .int .u8 0, .int .u8 0, .int .u8 0, .slice none 0 0] hg rfl)
          have HG4 : Hid (w3.heap.size ≤ g4) := by show _ ≤ _; rw [← hg]; exact HBy12.out.size
          have HNE : Hid (g4 ≠ g5) := by have := HZ5y12.out.lt; show g4 ≠ g5; omega
          rw [hy, hg]
          refine hK.out _ _ ⟨HKy15.out, HJy15.out⟩ (fun hHeld => ?_)
          clear hK K hbn hy hg
          try simp only [Act.put, List.setIfInBounds_toArray, List.set_cons_zero, List.set_cons_succ, List.getElem_toArray, List.getElem_cons_zero, List.getElem_cons_succ]
          refine wpAnyH_ready (rs := [3]) (by kernel_rfl) (by simp) ?_
          refine (AllReadyH.cons rfl (fun K hK => ?_) AllReadyH.nil)
          go_simp
          rw [HYE.out]
          refine (HOB.out y15 HYy15.out).mono ?_
          rintro e y16a ⟨⟨v3, rfl, hown⟩, hbn⟩
          obtain ⟨P3, q3, rfl⟩ := own_form hown
          obtain ⟨y16, hy⟩ : ∃ y, y16a = y := ⟨_, rfl⟩
          have hbd : Below y16a.heap.size y16a y16 := hy ▸ Below.refl _ _
          have hsl := own_base (own_keep hown hbd) HBy15.out.size
          have hbn := below_then hbn hbd
          have HBy16 := Lib.hid (below_then HBy15.out hbn); have HKy16 := Lib.hid (HKy15.out.later hbn); have HJy16 := Lib.hid (HJy15.out.later hbn); have HXy16 := Lib.hid (HXy15.out.later hbn); have HYy16 := Lib.hid (HYy15.out.later hbn)
          have HO1y16 := Lib.hid (own_keep HO1y15.out hbn)
          have HZ4y16 := Lib.hid (HZ4y15.out.later hbn)
          have HZ5y16 := Lib.hid (HZ5y15.out.later hbn)
          have HO3y16 := Lib.hid hsl
          rw [hy]
          refine hK.out _ _ ⟨HKy16.out, HJy16.out⟩ (fun hHeld => ?_)
          clear hK K hown hbn hbd hy hsl
          try simp only [Act.put, List.setIfInBounds_toArray, List.set_cons_zero, List.set_cons_succ, List.getElem_toArray, List.getElem_cons_zero, List.getElem_cons_succ]
          as_aux_lemma =>
          have HF1 : Hid (BkFit (bkC p h m (.slice P1 N q1))) := bk_fit HPO.out HMO.out
          have HF3 : Hid (BkFit (bkC p' h' m' (.slice P3 N' q3))) := bk_fit HPO'.out HMO'.out
          refine wpAnyH_ready (rs := [6]) (by kernel_rfl) (by simp) ?_
          refine AllReadyH.cons rfl (fun K hK => ?_) AllReadyH.nil
          rw [if_pos (by rfl)]
          refine wp_store_part _ _ _ rfl g4 0 _ (bkC p h m (.slice P1 N q1)) rfl rfl rfl _ ([]) (zBk) ([]) (by simpa using HZ4y16.out) rfl (by rw [HF1.out.len]; rfl) HF1.out.size HF1.out.one ?_
          intro wd hp
          refine hK.out _ _ ⟨HKy16.out.grown hp.only (by intro e; injection e with e; have := HG4.out; have := HZW.out; omega), HJy16.out.grown hp.only (by intro e; injection e with e; have := HG4.out; have := HZW.out; omega)⟩ (fun hHeld => ?_)
          clear hK K
          try simp only [Act.put, List.setIfInBounds_toArray, List.set_cons_zero, List.set_cons_succ, List.getElem_toArray, List.getElem_cons_zero, List.getElem_cons_succ]
          have hb4 : Below w3.heap.size w3 wd := below_only HBy16.out hp.only HBy16.out.size HG4.out
          have k4 : Bk wd g4 31 (bkC p h m (.slice P1 N q1)) := by have := hp.bk; simpa using this
          have k5 : Bk wd g5 31 zBk := HZ5y16.out.grown hp.only (by intro e; injection e with e; have := HNE.out; omega)
          have kz : Bk wd z 25 l := HKy16.out.grown hp.only (by intro e; injection e with e; have := HG4.out; have := HZW.out; omega)
          have kj : Bk wd (z + 1) 25 l' := HJy16.out.grown hp.only (by intro e; injection e with e; have := HG4.out; have := HZW.out; omega)
          have o1 := own_only HO1y16.out hp.only (own_bk_ne HO1y16.out HZ4y16.out (by decide))
          have o3 := own_only HO3y16.out hp.only (own_bk_ne HO3y16.out HZ4y16.out (by decide))
          clear hp
          refine wpAnyH_ready (rs := [7]) (by kernel_rfl) (by simp) ?_
          refine AllReadyH.cons rfl (fun K hK => ?_) AllReadyH.nil
          rw [if_pos (by rfl)]
          refine wp_store_part _ _ _ rfl g5 0 _ (bkC p' h' m' (.slice P3 N' q3)) rfl rfl rfl _ ([]) (zBk) ([]) (by simpa using k5) rfl (by rw [HF3.out.len]; rfl) HF3.out.size HF3.out.one ?_
          intro we hp
          refine hK.out _ _ ⟨kz.grown hp.only (by intro e; injection e with e; have := HG5.out; have := HZW.out; omega), kj.grown hp.only (by intro e; injection e with e; have := HG5.out; have := HZW.out; omega)⟩ (fun hHeld => ?_)
          clear hK K
          try simp only [Act.put, List.setIfInBounds_toArray, List.set_cons_zero, List.set_cons_succ, List.getElem_toArray, List.getElem_cons_zero, List.getElem_cons_succ]
          have k5' := k5
          have hb5 : Below w3.heap.size w3 we := below_only hb4 hp.only hb4.size HG5.out
          have k5 : Bk we g5 31 (bkC p' h' m' (.slice P3 N' q3)) := by have := hp.bk; simpa using this
          have k4 : Bk we g4 31 (bkC p h m (.slice P1 N q1)) := k4.grown hp.only (by intro e; injection e with e; have := HNE.out; omega)
          have o1 := own_only o1 hp.only (own_bk_ne o1 k5' (by decide))
          have o3 := own_only o3 hp.only (own_bk_ne o3 k5' (by decide))
          clear hp
          refine wpAnyH_done rfl ?_ _
          go_wp2_with fail
          go_meet
          exact ⟨g4, g5, P1, P3, q1, q3, rfl, rfl, ⟨k4, k5, o1, o3, hb5, HNE.out, HG4.out, HG5.out⟩⟩
    ·
      go_simp
      obtain ⟨g4, hg⟩ : ∃ g, y0.heap.size = g := ⟨_, rfl⟩
      obtain ⟨y17, hy⟩ : ∃ y, (y0.alloc (.cells #[.int .u8 0, .int .u8 0, .int .u8 0, .int .u8 0, .int .u8 0, .int .u8 0, .int .u8 0, .int .u8 0, .int .i64 0, .int .u8 0, .int .u8 0, .int .u8 0, .int .u8 0, .int .u8 0, .int .u8 0, .int .u8 0, .int .u8 0, .slice none 0 0] 31)) = y := ⟨_, rfl⟩
      have hbn : Below y0.heap.size y0 y17 := hy ▸ (below_new y0 _)
      have HBy17 := Lib.hid (below_then HBy0.out hbn); have HKy17 := Lib.hid (HKy0.out.later hbn); have HJy17 := Lib.hid (HJy0.out.later hbn); have HXy17 := Lib.hid (HXy0.out.later hbn); have HYy17 := Lib.hid (HYy0.out.later hbn)
      have HZ4y17 : Hid (Bk y17 g4 31 zBk) := hy ▸ (Bk.at_ y0 _ #[.int .u8 0, .int .u8 0, .int .u8 0, .int .u8 0, .int .u8 0, .int .u8 0, .int .u8 0, .int .u8 0, .int .i64 0, .int .u8 0, .int .u8 0, .int .u8 0, .int .u8 0, .int .u8 0, .int .u8 0, .int .u8 0, .int .u8 0, .slice none 0 0] hg rfl)
      have HG4 : Hid (w3.heap.size ≤ g4) := by show _ ≤ _; rw [← hg]; exact HBy0.out.size
      rw [hy, hg]
      refine hK.out _ _ ⟨HKy17.out, HJy17.out⟩ (fun hHeld => ?_)
      clear hK K hbn hy hg
      try simp only [Act.put, List.setIfInBounds_toArray, List.set_cons_zero, List.set_cons_succ, List.getElem_toArray, List.getElem_cons_zero, List.getElem_cons_succ]
      refine wpAnyH_ready (rs := [1, 5]) (by kernel_rfl) (by simp) ?_
      refine (AllReadyH.cons rfl (fun K hK => ?_) (AllReadyH.cons rfl (fun K hK => ?_) AllReadyH.nil))
      ·
        go_simp
        rw [HXE.out]
        refine (HOA.out y17 HXy17.out).mono ?_
        rintro e y18a ⟨⟨v1, rfl, hown⟩, hbn⟩
        obtain ⟨P1, q1, rfl⟩ := own_form hown
        obtain ⟨y18, hy⟩ : ∃ y, y18a = y := ⟨_, rfl⟩
        have hbd : Below y18a.heap.size y18a y18 := hy ▸ Below.refl _ _
        have hsl := own_base (own_keep hown hbd) HBy17.out.size
        have hbn := below_then hbn hbd
        have HBy18 := Lib.hid (below_then HBy17.out hbn); have HKy18 := Lib.hid (HKy17.out.later hbn); have HJy18 := Lib.hid (HJy17.out.later hbn); have HXy18 := Lib.hid (HXy17.out.later hbn); have HYy18 := Lib.hid (HYy17.out.later hbn)
        have HZ4y18 := Lib.hid (HZ4y17.out.later hbn)
        have HO1y18 := Lib.hid hsl
        rw [hy]
        refine hK.out _ _ ⟨HKy18.out, HJy18.out⟩ (fun hHeld => ?_)
        clear hK K hown hbn hbd hy hsl
        try simp only [Act.put, List.setIfInBounds_toArray, List.set_cons_zero, List.set_cons_succ, List.getElem_toArray, List.getElem_cons_zero, List.getElem_cons_succ]
        refine wpAnyH_ready (rs := [3, 5]) (by kernel_rfl) (by simp) ?_
        refine (AllReadyH.cons rfl (fun K hK => ?_) (AllReadyH.cons rfl (fun K hK => ?_) AllReadyH.nil))
        ·
          go_simp
          rw [HYE.out]
          refine (HOB.out y18 HYy18.out).mono ?_
          rintro e y19a ⟨⟨v3, rfl, hown⟩, hbn⟩
          obtain ⟨P3, q3, rfl⟩ := own_form hown
          obtain ⟨y19, hy⟩ : ∃ y, y19a = y := ⟨_, rfl⟩
          have hbd : Below y19a.heap.size y19a y19 := hy ▸ Below.refl _ _
          have hsl := own_base (own_keep hown hbd) HBy18.out.size
          have hbn := below_then hbn hbd
          have HBy19 := Lib.hid (below_then HBy18.out hbn); have HKy19 := Lib.hid (HKy18.out.later hbn); have HJy19 := Lib.hid (HJy18.out.later hbn); have HXy19 := Lib.hid (HXy18.out.later hbn); have HYy19 := Lib.hid (HYy18.out.later hbn)
          have HO1y19 := Lib.hid (own_keep HO1y18.out hbn)
          have HZ4y19 := Lib.hid (HZ4y18.out.later hbn)
          have HO3y19 := Lib.hid hsl
          rw [hy]
          refine hK.out _ _ ⟨HKy19.out, HJy19.out⟩ (fun hHeld => ?_)
          clear hK K hown hbn hbd hy hsl
          try simp only [Act.put, List.setIfInBounds_toArray, List.set_cons_zero, List.set_cons_succ, List.getElem_toArray, List.getElem_cons_zero, List.getElem_cons_succ]
          refine wpAnyH_ready (rs := [5]) (by kernel_rfl) (by simp) ?_
          refine (AllReadyH.cons rfl (fun K hK => ?_) AllReadyH.nil)
          go_simp
          obtain ⟨g5, hg⟩ : ∃ g, y19.heap.size = g := ⟨_, rfl⟩
          obtain ⟨y20, hy⟩ : ∃ y, (y19.alloc (.cells #[.int .u8 0, .int .u8 0, .int .u8 0, .int .u8 0, .int .u8 0, .int .u8 0, .int .u8 0, .int .u8 0, .int .i64 0, .int .u8 0, .int .u8 0, .int .u8 0, .int .u8 0, .int .u8 0, .int .u8 0, .int .u8 0, .int .u8 0, .slice none 0 0] 31)) = y := ⟨_, rfl⟩
          have hbn : Below y19.heap.size y19 y20 := hy ▸ (below_new y19 _)
          have HBy20 := Lib.hid (below_then HBy19.out hbn); have HKy20 := Lib.hid (HKy19.out.later hbn); have HJy20 := Lib.hid (HJy19.out.later hbn); have HXy20 := Lib.hid (HXy19.out.later hbn); have HYy20 := Lib.hid (HYy19.out.later hbn)
          have HO1y20 := Lib.hid (own_keep HO1y19.out hbn)
          have HO3y20 := Lib.hid (own_keep HO3y19.out hbn)
          have HZ4y20 := Lib.hid (HZ4y19.out.later hbn)
          have HZ5y20 : Hid (Bk y20 g5 31 zBk) := hy ▸ (Bk.at_ y19 _ #[.int .u8 0, .int .u8 0, .int .u8 0, .int .u8 0, .int .u8 0, .int .u8 0, .int .u8 0, .int .u8 0, .int .i64 0, .int .u8 0, .int .u8 0, .int .u8 0, .int .u8 0, .int .u8 0, .int .u8 0, .int .u8 0, .int .u8 0, .slice none 0 0] hg rfl)
          have HG5 : Hid (w3.heap.size ≤ g5) := by show _ ≤ _; rw [← hg]; exact HBy19.out.size
          have HNE : Hid (g4 ≠ g5) := by have := HZ4y19.out.lt; show g4 ≠ g5; omega
          rw [hy, hg]
          refine hK.out _ _ ⟨HKy20.out, HJy20.out⟩ (fun hHeld => ?_)
          clear hK K hbn hy hg
          try simp only [Act.put, List.setIfInBounds_toArray, List.set_cons_zero, List.set_cons_succ, List.getElem_toArray, List.getElem_cons_zero, List.getElem_cons_succ]
          as_aux_lemma =>
          have HF1 : Hid (BkFit (bkC p h m (.slice P1 N q1))) := bk_fit HPO.out HMO.out
          have HF3 : Hid (BkFit (bkC p' h' m' (.slice P3 N' q3))) := bk_fit HPO'.out HMO'.out
          refine wpAnyH_ready (rs := [6]) (by kernel_rfl) (by simp) ?_
          refine AllReadyH.cons rfl (fun K hK => ?_) AllReadyH.nil
          rw [if_pos (by rfl)]
          refine wp_store_part _ _ _ rfl g4 0 _ (bkC p h m (.slice P1 N q1)) rfl rfl rfl _ ([]) (zBk) ([]) (by simpa using HZ4y20.out) rfl (by rw [HF1.out.len]; rfl) HF1.out.size HF1.out.one ?_
          intro wd hp
          refine hK.out _ _ ⟨HKy20.out.grown hp.only (by intro e; injection e with e; have := HG4.out; have := HZW.out; omega), HJy20.out.grown hp.only (by intro e; injection e with e; have := HG4.out; have := HZW.out; omega)⟩ (fun hHeld => ?_)
          clear hK K
          try simp only [Act.put, List.setIfInBounds_toArray, List.set_cons_zero, List.set_cons_succ, List.getElem_toArray, List.getElem_cons_zero, List.getElem_cons_succ]
          have hb4 : Below w3.heap.size w3 wd := below_only HBy20.out hp.only HBy20.out.size HG4.out
          have k4 : Bk wd g4 31 (bkC p h m (.slice P1 N q1)) := by have := hp.bk; simpa using this
          have k5 : Bk wd g5 31 zBk := HZ5y20.out.grown hp.only (by intro e; injection e with e; have := HNE.out; omega)
          have kz : Bk wd z 25 l := HKy20.out.grown hp.only (by intro e; injection e with e; have := HG4.out; have := HZW.out; omega)
          have kj : Bk wd (z + 1) 25 l' := HJy20.out.grown hp.only (by intro e; injection e with e; have := HG4.out; have := HZW.out; omega)
          have o1 := own_only HO1y20.out hp.only (own_bk_ne HO1y20.out HZ4y20.out (by decide))
          have o3 := own_only HO3y20.out hp.only (own_bk_ne HO3y20.out HZ4y20.out (by decide))
          clear hp
          refine wpAnyH_ready (rs := [7]) (by kernel_rfl) (by simp) ?_
          refine AllReadyH.cons rfl (fun K hK => ?_) AllReadyH.nil
          rw [if_pos (by rfl)]
          refine wp_store_part _ _ _ rfl g5 0 _ (bkC p' h' m' (.slice P3 N' q3)) rfl rfl rfl _ ([]) (zBk) ([]) (by simpa using k5) rfl (by rw [HF3.out.len]; rfl) HF3.out.size HF3.out.one ?_
          intro we hp
          refine hK.out _ _ ⟨kz.grown hp.only (by intro e; injection e with e; have := HG5.out; have := HZW.out; omega), kj.grown hp.only (by intro e; injection e with e; have := HG5.out; have := HZW.out; omega)⟩ (fun hHeld => ?_)
          clear hK K
          try simp only [Act.put, List.setIfInBounds_toArray, List.set_cons_zero, List.set_cons_succ, List.getElem_toArray, List.getElem_cons_zero, List.getElem_cons_succ]
          have k5' := k5
          have hb5 : Below w3.heap.size w3 we := below_only hb4 hp.only hb4.size HG5.out
          have k5 : Bk we g5 31 (bkC p' h' m' (.slice P3 N' q3)) := by have := hp.bk; simpa using this
          have k4 : Bk we g4 31 (bkC p h m (.slice P1 N q1)) := k4.grown hp.only (by intro e; injection e with e; have := HNE.out; omega)
          have o1 := own_only o1 hp.only (own_bk_ne o1 k5' (by decide))
          have o3 := own_only o3 hp.only (own_bk_ne o3 k5' (by decide))
          clear hp
          refine wpAnyH_done rfl ?_ _
          go_wp2_with fail
          go_meet
          exact ⟨g4, g5, P1, P3, q1, q3, rfl, rfl, ⟨k4, k5, o1, o3, hb5, HNE.out, HG4.out, HG5.out⟩⟩
        ·
          go_simp
          obtain ⟨g5, hg⟩ : ∃ g, y18.heap.size = g := ⟨_, rfl⟩
          obtain ⟨y21, hy⟩ : ∃ y, (y18.alloc (.cells #[.int .u8 0, .int .u8 0, .int .u8 0, .int .u8 0, .int .u8 0, .int .u8 0, .int .u8 0, .int .u8 0, .int .i64 0, .int .u8 0, .int .u8 0, .int .u8 0, .int .u8 0, .int .u8 0, .int .u8 0, .int .u8 0, .int .u8 0, .slice none 0 0] 31)) = y := ⟨_, rfl⟩
          have hbn : Below y18.heap.size y18 y21 := hy ▸ (below_new y18 _)
          have HBy21 := Lib.hid (below_then HBy18.out hbn); have HKy21 := Lib.hid (HKy18.out.later hbn); have HJy21 := Lib.hid (HJy18.out.later hbn); have HXy21 := Lib.hid (HXy18.out.later hbn); have HYy21 := Lib.hid (HYy18.out.later hbn)
          have HO1y21 := Lib.hid (own_keep HO1y18.out hbn)
          have HZ4y21 := Lib.hid (HZ4y18.out.later hbn)
          have HZ5y21 : Hid (Bk y21 g5 31 zBk) := hy ▸ (Bk.at_ y18 _ #[.int .u8 0, .int .u8 0, .int .u8 0, .int .u8 0, .int .u8 0, .int .u8 0, .int .u8 0, .int .u8 0, .int .i64 0, .int .u8 0, .int .u8 0, .int .u8 0, .int .u8 0, .int .u8 0, .int .u8 0, .int .u8 0, .int .u8 0, .slice none 0 0] hg rfl)
          have HG5 : Hid (w3.heap.size ≤ g5) := by show _ ≤ _; rw [← hg]; exact HBy18.out.size
          have HNE : Hid (g4 ≠ g5) := by have := HZ4y18.out.lt; show g4 ≠ g5; omega
          rw [hy, hg]
          refine hK.out _ _ ⟨HKy21.out, HJy21.out⟩ (fun hHeld => ?_)
          clear hK K hbn hy hg
          try simp only [Act.put, List.setIfInBounds_toArray, List.set_cons_zero, List.set_cons_succ, List.getElem_toArray, List.getElem_cons_zero, List.getElem_cons_succ]
          refine wpAnyH_ready (rs := [3]) (by kernel_rfl) (by simp) ?_
          refine (AllReadyH.cons rfl (fun K hK => ?_) AllReadyH.nil)
          go_simp
          rw [HYE.out]
          refine (HOB.out y21 HYy21.out).mono ?_
          rintro e y22a ⟨⟨v3, rfl, hown⟩, hbn⟩
          obtain ⟨P3, q3, rfl⟩ := own_form hown
          obtain ⟨y22, hy⟩ : ∃ y, y22a = y := ⟨_, rfl⟩
          have hbd : Below y22a.heap.size y22a y22 := hy ▸ Below.refl _ _
          have hsl := own_base (own_keep hown hbd) HBy21.out.size
          have hbn := below_then hbn hbd
          have HBy22 := Lib.hid (below_then HBy21.out hbn); have HKy22 := Lib.hid (HKy21.out.later hbn); have HJy22 := Lib.hid (HJy21.out.later hbn); have HXy22 := Lib.hid (HXy21.out.later hbn); have HYy22 := Lib.hid (HYy21.out.later hbn)
          have HO1y22 := Lib.hid (own_keep HO1y21.out hbn)
          have HZ4y22 := Lib.hid (HZ4y21.out.later hbn)
          have HZ5y22 := Lib.hid (HZ5y21.out.later hbn)
          have HO3y22 := Lib.hid hsl
          rw [hy]
          refine hK.out _ _ ⟨HKy22.out, HJy22.out⟩ (fun hHeld => ?_)
          clear hK K hown hbn hbd hy hsl
          try simp only [Act.put, List.setIfInBounds_toArray, List.set_cons_zero, List.set_cons_succ, List.getElem_toArray, List.getElem_cons_zero, List.getElem_cons_succ]
          as_aux_lemma =>
          have HF1 : Hid (BkFit (bkC p h m (.slice P1 N q1))) := bk_fit HPO.out HMO.out
          have HF3 : Hid (BkFit (bkC p' h' m' (.slice P3 N' q3))) := bk_fit HPO'.out HMO'.out
          refine wpAnyH_ready (rs := [6]) (by kernel_rfl) (by simp) ?_
          refine AllReadyH.cons rfl (fun K hK => ?_) AllReadyH.nil
          rw [if_pos (by rfl)]
          refine wp_store_part _ _ _ rfl g4 0 _ (bkC p h m (.slice P1 N q1)) rfl rfl rfl _ ([]) (zBk) ([]) (by simpa using HZ4y22.out) rfl (by rw [HF1.out.len]; rfl) HF1.out.size HF1.out.one ?_
          intro wd hp
          refine hK.out _ _ ⟨HKy22.out.grown hp.only (by intro e; injection e with e; have := HG4.out; have := HZW.out; omega), HJy22.out.grown hp.only (by intro e; injection e with e; have := HG4.out; have := HZW.out; omega)⟩ (fun hHeld => ?_)
          clear hK K
          try simp only [Act.put, List.setIfInBounds_toArray, List.set_cons_zero, List.set_cons_succ, List.getElem_toArray, List.getElem_cons_zero, List.getElem_cons_succ]
          have hb4 : Below w3.heap.size w3 wd := below_only HBy22.out hp.only HBy22.out.size HG4.out
          have k4 : Bk wd g4 31 (bkC p h m (.slice P1 N q1)) := by have := hp.bk; simpa using this
          have k5 : Bk wd g5 31 zBk := HZ5y22.out.grown hp.only (by intro e; injection e with e; have := HNE.out; omega)
          have kz : Bk wd z 25 l := HKy22.out.grown hp.only (by intro e; injection e with e; have := HG4.out; have := HZW.out; omega)
          have kj : Bk wd (z + 1) 25 l' := HJy22.out.grown hp.only (by intro e; injection e with e; have := HG4.out; have := HZW.out; omega)
          have o1 := own_only HO1y22.out hp.only (own_bk_ne HO1y22.out HZ4y22.out (by decide))
          have o3 := own_only HO3y22.out hp.only (own_bk_ne HO3y22.out HZ4y22.out (by decide))
          clear hp
          refine wpAnyH_ready (rs := [7]) (by kernel_rfl) (by simp) ?_
          refine AllReadyH.cons rfl (fun K hK => ?_) AllReadyH.nil
          rw [if_pos (by rfl)]
          refine wp_store_part _ _ _ rfl g5 0 _ (bkC p' h' m' (.slice P3 N' q3)) rfl rfl rfl _ ([]) (zBk) ([]) (by simpa using k5) rfl (by rw [HF3.out.len]; rfl) HF3.out.size HF3.out.one ?_
          intro we hp
          refine hK.out _ _ ⟨kz.grown hp.only (by intro e; injection e with e; have := HG5.out; have := HZW.out; omega), kj.grown hp.only (by intro e; injection e with e; have := HG5.out; have := HZW.out; omega)⟩ (fun hHeld => ?_)
          clear hK K
          try simp only [Act.put, List.setIfInBounds_toArray, List.set_cons_zero, List.set_cons_succ, List.getElem_toArray, List.getElem_cons_zero, List.getElem_cons_succ]
          have k5' := k5
          have hb5 : Below w3.heap.size w3 we := below_only hb4 hp.only hb4.size HG5.out
          have k5 : Bk we g5 31 (bkC p' h' m' (.slice P3 N' q3)) := by have := hp.bk; simpa using this
          have k4 : Bk we g4 31 (bkC p h m (.slice P1 N q1)) := k4.grown hp.only (by intro e; injection e with e; have := HNE.out; omega)
          have o1 := own_only o1 hp.only (own_bk_ne o1 k5' (by decide))
          have o3 := own_only o3 hp.only (own_bk_ne o3 k5' (by decide))
          clear hp
          refine wpAnyH_done rfl ?_ _
          go_wp2_with fail
          go_meet
          exact ⟨g4, g5, P1, P3, q1, q3, rfl, rfl, ⟨k4, k5, o1, o3, hb5, HNE.out, HG4.out, HG5.out⟩⟩
      ·
        go_simp
        obtain ⟨g5, hg⟩ : ∃ g, y17.heap.size = g := ⟨_, rfl⟩
        obtain ⟨y23, hy⟩ : ∃ y, (y17.alloc (.cells #[.int .u8 0, .int .u8 0, .int .u8 0, .int .u8 0, .int .u8 0, .int .u8 0, .int .u8 0, .int .u8 0, .int .i64 0, .int .u8 0, .int .u8 0, .int .u8 0, .int .u8 0, .int .u8 0, .int .u8 0, .int .u8 0, .int .u8 0, .slice none 0 0] 31)) = y := ⟨_, rfl⟩
        have hbn : Below y17.heap.size y17 y23 := hy ▸ (below_new y17 _)
        have HBy23 := Lib.hid (below_then HBy17.out hbn); have HKy23 := Lib.hid (HKy17.out.later hbn); have HJy23 := Lib.hid (HJy17.out.later hbn); have HXy23 := Lib.hid (HXy17.out.later hbn); have HYy23 := Lib.hid (HYy17.out.later hbn)
        have HZ4y23 := Lib.hid (HZ4y17.out.later hbn)
        have HZ5y23 : Hid (Bk y23 g5 31 zBk) := hy ▸ (Bk.at_ y17 _ #[.int .u8 0, .int .u8 0, .int .u8 0, .int .u8 0, .int .u8 0, .int .u8 0, .int .u8 0, .int .u8 0, .int .i64 0, .int .u8 0, .int .u8 0, .int .u8 0, .int .u8 0, .int .u8 0, .int .u8 0, .int .u8 0, .int .u8 0, .slice none 0 0] hg rfl)
        have HG5 : Hid (w3.heap.size ≤ g5) := by show _ ≤ _; rw [← hg]; exact HBy17.out.size
        have HNE : Hid (g4 ≠ g5) := by have := HZ4y17.out.lt; show g4 ≠ g5; omega
        rw [hy, hg]
        refine hK.out _ _ ⟨HKy23.out, HJy23.out⟩ (fun hHeld => ?_)
        clear hK K hbn hy hg
        try simp only [Act.put, List.setIfInBounds_toArray, List.set_cons_zero, List.set_cons_succ, List.getElem_toArray, List.getElem_cons_zero, List.getElem_cons_succ]
        refine wpAnyH_ready (rs := [1]) (by kernel_rfl) (by simp) ?_
        refine (AllReadyH.cons rfl (fun K hK => ?_) AllReadyH.nil)
        go_simp
        rw [HXE.out]
        refine (HOA.out y23 HXy23.out).mono ?_
        rintro e y24a ⟨⟨v1, rfl, hown⟩, hbn⟩
        obtain ⟨P1, q1, rfl⟩ := own_form hown
        obtain ⟨y24, hy⟩ : ∃ y, y24a = y := ⟨_, rfl⟩
        have hbd : Below y24a.heap.size y24a y24 := hy ▸ Below.refl _ _
        have hsl := own_base (own_keep hown hbd) HBy23.out.size
        have hbn := below_then hbn hbd
        have HBy24 := Lib.hid (below_then HBy23.out hbn); have HKy24 := Lib.hid (HKy23.out.later hbn); have HJy24 := Lib.hid (HJy23.out.later hbn); have HXy24 := Lib.hid (HXy23.out.later hbn); have HYy24 := Lib.hid (HYy23.out.later hbn)
        have HZ4y24 := Lib.hid (HZ4y23.out.later hbn)
        have HZ5y24 := Lib.hid (HZ5y23.out.later hbn)
        have HO1y24 := Lib.hid hsl
        rw [hy]
        refine hK.out _ _ ⟨HKy24.out, HJy24.out⟩ (fun hHeld => ?_)
        clear hK K hown hbn hbd hy hsl
        try simp only [Act.put, List.setIfInBounds_toArray, List.set_cons_zero, List.set_cons_succ, List.getElem_toArray, List.getElem_cons_zero, List.getElem_cons_succ]
        refine wpAnyH_ready (rs := [3]) (by kernel_rfl) (by simp) ?_
        refine (AllReadyH.cons rfl (fun K hK => ?_) AllReadyH.nil)
        go_simp
        rw [HYE.out]
        refine (HOB.out y24 HYy24.out).mono ?_
        rintro e y25a ⟨⟨v3, rfl, hown⟩, hbn⟩
        obtain ⟨P3, q3, rfl⟩ := own_form hown
        obtain ⟨y25, hy⟩ : ∃ y, y25a = y := ⟨_, rfl⟩
        have hbd : Below y25a.heap.size y25a y25 := hy ▸ Below.refl _ _
        have hsl := own_base (own_keep hown hbd) HBy24.out.size
        have hbn := below_then hbn hbd
        have HBy25 := Lib.hid (below_then HBy24.out hbn); have HKy25 := Lib.hid (HKy24.out.later hbn); have HJy25 := Lib.hid (HJy24.out.later hbn); have HXy25 := Lib.hid (HXy24.out.later hbn); have HYy25 := Lib.hid (HYy24.out.later hbn)
        have HO1y25 := Lib.hid (own_keep HO1y24.out hbn)
        have HZ4y25 := Lib.hid (HZ4y24.out.later hbn)
        have HZ5y25 := Lib.hid (HZ5y24.out.later hbn)
        have HO3y25 := Lib.hid hsl
        rw [hy]
        refine hK.out _ _ ⟨HKy25.out, HJy25.out⟩ (fun hHeld => ?_)
        clear hK K hown hbn hbd hy hsl
        try simp only [Act.put, List.setIfInBounds_toArray, List.set_cons_zero, List.set_cons_succ, List.getElem_toArray, List.getElem_cons_zero, List.getElem_cons_succ]
        as_aux_lemma =>
        have HF1 : Hid (BkFit (bkC p h m (.slice P1 N q1))) := bk_fit HPO.out HMO.out
        have HF3 : Hid (BkFit (bkC p' h' m' (.slice P3 N' q3))) := bk_fit HPO'.out HMO'.out
        refine wpAnyH_ready (rs := [6]) (by kernel_rfl) (by simp) ?_
        refine AllReadyH.cons rfl (fun K hK => ?_) AllReadyH.nil
        rw [if_pos (by rfl)]
        refine wp_store_part _ _ _ rfl g4 0 _ (bkC p h m (.slice P1 N q1)) rfl rfl rfl _ ([]) (zBk) ([]) (by simpa using HZ4y25.out) rfl (by rw [HF1.out.len]; rfl) HF1.out.size HF1.out.one ?_
        intro wd hp
        refine hK.out _ _ ⟨HKy25.out.grown hp.only (by intro e; injection e with e; have := HG4.out; have := HZW.out; omega), HJy25.out.grown hp.only (by intro e; injection e with e; have := HG4.out; have := HZW.out; omega)⟩ (fun hHeld => ?_)
        clear hK K
        try simp only [Act.put, List.setIfInBounds_toArray, List.set_cons_zero, List.set_cons_succ, List.getElem_toArray, List.getElem_cons_zero, List.getElem_cons_succ]
        have hb4 : Below w3.heap.size w3 wd := below_only HBy25.out hp.only HBy25.out.size HG4.out
        have k4 : Bk wd g4 31 (bkC p h m (.slice P1 N q1)) := by have := hp.bk; simpa using this
        have k5 : Bk wd g5 31 zBk := HZ5y25.out.grown hp.only (by intro e; injection e with e; have := HNE.out; omega)
        have kz : Bk wd z 25 l := HKy25.out.grown hp.only (by intro e; injection e with e; have := HG4.out; have := HZW.out; omega)
        have kj : Bk wd (z + 1) 25 l' := HJy25.out.grown hp.only (by intro e; injection e with e; have := HG4.out; have := HZW.out; omega)
        have o1 := own_only HO1y25.out hp.only (own_bk_ne HO1y25.out HZ4y25.out (by decide))
        have o3 := own_only HO3y25.out hp.only (own_bk_ne HO3y25.out HZ4y25.out (by decide))
        clear hp
        refine wpAnyH_ready (rs := [7]) (by kernel_rfl) (by simp) ?_
        refine AllReadyH.cons rfl (fun K hK => ?_) AllReadyH.nil
        rw [if_pos (by rfl)]
        refine wp_store_part _ _ _ rfl g5 0 _ (bkC p' h' m' (.slice P3 N' q3)) rfl rfl rfl _ ([]) (zBk) ([]) (by simpa using k5) rfl (by rw [HF3.out.len]; rfl) HF3.out.size HF3.out.one ?_
        intro we hp
        refine hK.out _ _ ⟨kz.grown hp.only (by intro e; injection e with e; have := HG5.out; have := HZW.out; omega), kj.grown hp.only (by intro e; injection e with e; have := HG5.out; have := HZW.out; omega)⟩ (fun hHeld => ?_)
        clear hK K
        try simp only [Act.put, List.setIfInBounds_toArray, List.set_cons_zero, List.set_cons_succ, List.getElem_toArray, List.getElem_cons_zero, List.getElem_cons_succ]
        have k5' := k5
        have hb5 : Below w3.heap.size w3 we := below_only hb4 hp.only hb4.size HG5.out
        have k5 : Bk we g5 31 (bkC p' h' m' (.slice P3 N' q3)) := by have := hp.bk; simpa using this
        have k4 : Bk we g4 31 (bkC p h m (.slice P1 N q1)) := k4.grown hp.only (by intro e; injection e with e; have := HNE.out; omega)
        have o1 := own_only o1 hp.only (own_bk_ne o1 k5' (by decide))
        have o3 := own_only o3 hp.only (own_bk_ne o3 k5' (by decide))
        clear hp
        refine wpAnyH_done rfl ?_ _
        go_wp2_with fail
        go_meet
        exact ⟨g4, g5, P1, P3, q1, q3, rfl, rfl, ⟨k4, k5, o1, o3, hb5, HNE.out, HG4.out, HG5.out⟩⟩
    ·
      go_simp
      obtain ⟨g5, hg⟩ : ∃ g, y0.heap.size = g := ⟨_, rfl⟩
      obtain ⟨y26, hy⟩ : ∃ y, (y0.alloc (.cells #[.int .u8 0, .int .u8 0, .int .u8 0, .int .u8 0, .int .u8 0, .int .u8 0, .int .u8 0, .int .u8 0, .int .i64 0, .int .u8 0, .int .u8 0, .int .u8 0, .int .u8 0, .int .u8 0, .int .u8 0, .int .u8 0, .int .u8 0, .slice none 0 0] 31)) = y := ⟨_, rfl⟩
      have hbn : Below y0.heap.size y0 y26 := hy ▸ (below_new y0 _)
      have HBy26 := Lib.hid (below_then HBy0.out hbn); have HKy26 := Lib.hid (HKy0.out.later hbn); have HJy26 := Lib.hid (HJy0.out.later hbn); have HXy26 := Lib.hid (HXy0.out.later hbn); have HYy26 := Lib.hid (HYy0.out.later hbn)
      have HZ5y26 : Hid (Bk y26 g5 31 zBk) := hy ▸ (Bk.at_ y0 _ #[.int .u8 0, .int .u8 0, .int .u8 0, .int .u8 0, .int .u8 0, .int .u8 0, .int .u8 0, .int .u8 0, .int .i64 0, .int .u8 0, .int .u8 0, .int .u8 0, .int .u8 0, .int .u8 0, .int .u8 0, .int .u8 0, .int .u8 0, .slice none 0 0] hg rfl)
      have HG5 : Hid (w3.heap.size ≤ g5) := by show _ ≤ _; rw [← hg]; exact HBy0.out.size
      rw [hy, hg]
      refine hK.out _ _ ⟨HKy26.out, HJy26.out⟩ (fun hHeld => ?_)
      clear hK K hbn hy hg
      try simp only [Act.put, List.setIfInBounds_toArray, List.set_cons_zero, List.set_cons_succ, List.getElem_toArray, List.getElem_cons_zero, List.getElem_cons_succ]
      refine wpAnyH_ready (rs := [1, 4]) (by kernel_rfl) (by simp) ?_
      refine (AllReadyH.cons rfl (fun K hK => ?_) (AllReadyH.cons rfl (fun K hK => ?_) AllReadyH.nil))
      ·
        go_simp
        rw [HXE.out]
        refine (HOA.out y26 HXy26.out).mono ?_
        rintro e y27a ⟨⟨v1, rfl, hown⟩, hbn⟩
        obtain ⟨P1, q1, rfl⟩ := own_form hown
        obtain ⟨y27, hy⟩ : ∃ y, y27a = y := ⟨_, rfl⟩
        have hbd : Below y27a.heap.size y27a y27 := hy ▸ Below.refl _ _
        have hsl := own_base (own_keep hown hbd) HBy26.out.size
        have hbn := below_then hbn hbd
        have HBy27 := Lib.hid (below_then HBy26.out hbn); have HKy27 := Lib.hid (HKy26.out.later hbn); have HJy27 := Lib.hid (HJy26.out.later hbn); have HXy27 := Lib.hid (HXy26.out.later hbn); have HYy27 := Lib.hid (HYy26.out.later hbn)
        have HZ5y27 := Lib.hid (HZ5y26.out.later hbn)
        have HO1y27 := Lib.hid hsl
        rw [hy]
        refine hK.out _ _ ⟨HKy27.out, HJy27.out⟩ (fun hHeld => ?_)
        clear hK K hown hbn hbd hy hsl
        try simp only [Act.put, List.setIfInBounds_toArray, List.set_cons_zero, List.set_cons_succ, List.getElem_toArray, List.getElem_cons_zero, List.getElem_cons_succ]
        refine wpAnyH_ready (rs := [3, 4]) (by kernel_rfl) (by simp) ?_
        refine (AllReadyH.cons rfl (fun K hK => ?_) (AllReadyH.cons rfl (fun K hK => ?_) AllReadyH.nil))
        ·
          go_simp
          rw [HYE.out]
          refine (HOB.out y27 HYy27.out).mono ?_
          rintro e y28a ⟨⟨v3, rfl, hown⟩, hbn⟩
          obtain ⟨P3, q3, rfl⟩ := own_form hown
          obtain ⟨y28, hy⟩ : ∃ y, y28a = y := ⟨_, rfl⟩
          have hbd : Below y28a.heap.size y28a y28 := hy ▸ Below.refl _ _
          have hsl := own_base (own_keep hown hbd) HBy27.out.size
          have hbn := below_then hbn hbd
          have HBy28 := Lib.hid (below_then HBy27.out hbn); have HKy28 := Lib.hid (HKy27.out.later hbn); have HJy28 := Lib.hid (HJy27.out.later hbn); have HXy28 := Lib.hid (HXy27.out.later hbn); have HYy28 := Lib.hid (HYy27.out.later hbn)
          have HO1y28 := Lib.hid (own_keep HO1y27.out hbn)
          have HZ5y28 := Lib.hid (HZ5y27.out.later hbn)
          have HO3y28 := Lib.hid hsl
          rw [hy]
          refine hK.out _ _ ⟨HKy28.out, HJy28.out⟩ (fun hHeld => ?_)
          clear hK K hown hbn hbd hy hsl
          try simp only [Act.put, List.setIfInBounds_toArray, List.set_cons_zero, List.set_cons_succ, List.getElem_toArray, List.getElem_cons_zero, List.getElem_cons_succ]
          refine wpAnyH_ready (rs := [4]) (by kernel_rfl) (by simp) ?_
          refine (AllReadyH.cons rfl (fun K hK => ?_) AllReadyH.nil)
          go_simp
          obtain ⟨g4, hg⟩ : ∃ g, y28.heap.size = g := ⟨_, rfl⟩
          obtain ⟨y29, hy⟩ : ∃ y, (y28.alloc (.cells #[.int .u8 0, .int .u8 0, .int .u8 0, .int .u8 0, .int .u8 0, .int .u8 0, .int .u8 0, .int .u8 0, .int .i64 0, .int .u8 0, .int .u8 0, .int .u8 0, .int .u8 0, .int .u8 0, .int .u8 0, .int .u8 0, .int .u8 0, .slice none 0 0] 31)) = y := ⟨_, rfl⟩
          have hbn : Below y28.heap.size y28 y29 := hy ▸ (below_new y28 _)
          have HBy29 := Lib.hid (below_then HBy28.out hbn); have HKy29 := Lib.hid (HKy28.out.later hbn); have HJy29 := Lib.hid (HJy28.out.later hbn); have HXy29 := Lib.hid (HXy28.out.later hbn); have HYy29 := Lib.hid (HYy28.out.later hbn)
          have HO1y29 := Lib.hid (own_keep HO1y28.out hbn)
          have HO3y29 := Lib.hid (own_keep HO3y28.out hbn)
          have HZ5y29 := Lib.hid (HZ5y28.out.later hbn)
          have HZ4y29 : Hid (Bk y29 g4 31 zBk) := hy ▸ (Bk.at_ y28 _ #[.int .u8 0, .int .u8 0, .int .u8 0, .int .u8 0, .int .u8 0, .int .u8 0, .int .u8 0, .int .u8 0, .int .i64 0, .int .u8 0, .int .u8 0, .int .u8 0, .int .u8 0, .int .u8 0, .int .u8 0, .int .u8 0, .int .u8 0, .slice none 0 0] hg rfl)
          have HG4 : Hid (w3.heap.size ≤ g4) := by show _ ≤ _; rw [← hg]; exact HBy28.out.size
          have HNE : Hid (g4 ≠ g5) := by have := HZ5y28.out.lt; show g4 ≠ g5; omega
          rw [hy, hg]
          refine hK.out _ _ ⟨HKy29.out, HJy29.out⟩ (fun hHeld => ?_)
          clear hK K hbn hy hg
          try simp only [Act.put, List.setIfInBounds_toArray, List.set_cons_zero, List.set_cons_succ, List.getElem_toArray, List.getElem_cons_zero, List.getElem_cons_succ]
          as_aux_lemma =>
          have HF1 : Hid (BkFit (bkC p h m (.slice P1 N q1))) := bk_fit HPO.out HMO.out
          have HF3 : Hid (BkFit (bkC p' h' m' (.slice P3 N' q3))) := bk_fit HPO'.out HMO'.out
          refine wpAnyH_ready (rs := [6]) (by kernel_rfl) (by simp) ?_
          refine AllReadyH.cons rfl (fun K hK => ?_) AllReadyH.nil
          rw [if_pos (by rfl)]
          refine wp_store_part _ _ _ rfl g4 0 _ (bkC p h m (.slice P1 N q1)) rfl rfl rfl _ ([]) (zBk) ([]) (by simpa using HZ4y29.out) rfl (by rw [HF1.out.len]; rfl) HF1.out.size HF1.out.one ?_
          intro wd hp
          refine hK.out _ _ ⟨HKy29.out.grown hp.only (by intro e; injection e with e; have := HG4.out; have := HZW.out; omega), HJy29.out.grown hp.only (by intro e; injection e with e; have := HG4.out; have := HZW.out; omega)⟩ (fun hHeld => ?_)
          clear hK K
          try simp only [Act.put, List.setIfInBounds_toArray, List.set_cons_zero, List.set_cons_succ, List.getElem_toArray, List.getElem_cons_zero, List.getElem_cons_succ]
          have hb4 : Below w3.heap.size w3 wd := below_only HBy29.out hp.only HBy29.out.size HG4.out
          have k4 : Bk wd g4 31 (bkC p h m (.slice P1 N q1)) := by have := hp.bk; simpa using this
          have k5 : Bk wd g5 31 zBk := HZ5y29.out.grown hp.only (by intro e; injection e with e; have := HNE.out; omega)
          have kz : Bk wd z 25 l := HKy29.out.grown hp.only (by intro e; injection e with e; have := HG4.out; have := HZW.out; omega)
          have kj : Bk wd (z + 1) 25 l' := HJy29.out.grown hp.only (by intro e; injection e with e; have := HG4.out; have := HZW.out; omega)
          have o1 := own_only HO1y29.out hp.only (own_bk_ne HO1y29.out HZ4y29.out (by decide))
          have o3 := own_only HO3y29.out hp.only (own_bk_ne HO3y29.out HZ4y29.out (by decide))
          clear hp
          refine wpAnyH_ready (rs := [7]) (by kernel_rfl) (by simp) ?_
          refine AllReadyH.cons rfl (fun K hK => ?_) AllReadyH.nil
          rw [if_pos (by rfl)]
          refine wp_store_part _ _ _ rfl g5 0 _ (bkC p' h' m' (.slice P3 N' q3)) rfl rfl rfl _ ([]) (zBk) ([]) (by simpa using k5) rfl (by rw [HF3.out.len]; rfl) HF3.out.size HF3.out.one ?_
          intro we hp
          refine hK.out _ _ ⟨kz.grown hp.only (by intro e; injection e with e; have := HG5.out; have := HZW.out; omega), kj.grown hp.only (by intro e; injection e with e; have := HG5.out; have := HZW.out; omega)⟩ (fun hHeld => ?_)
          clear hK K
          try simp only [Act.put, List.setIfInBounds_toArray, List.set_cons_zero, List.set_cons_succ, List.getElem_toArray, List.getElem_cons_zero, List.getElem_cons_succ]
          have k5' := k5
          have hb5 : Below w3.heap.size w3 we := below_only hb4 hp.only hb4.size HG5.out
          have k5 : Bk we g5 31 (bkC p' h' m' (.slice P3 N' q3)) := by have := hp.bk; simpa using this
          have k4 : Bk we g4 31 (bkC p h m (.slice P1 N q1)) := k4.grown hp.only (by intro e; injection e with e; have := HNE.out; omega)
          have o1 := own_only o1 hp.only (own_bk_ne o1 k5' (by decide))
          have o3 := own_only o3 hp.only (own_bk_ne o3 k5' (by decide))
          clear hp
          refine wpAnyH_done rfl ?_ _
          go_wp2_with fail
          go_meet
          exact ⟨g4, g5, P1, P3, q1, q3, rfl, rfl, ⟨k4, k5, o1, o3, hb5, HNE.out, HG4.out, HG5.out⟩⟩
        ·
          go_simp
          obtain ⟨g4, hg⟩ : ∃ g, y27.heap.size = g := ⟨_, rfl⟩
          obtain ⟨y30, hy⟩ : ∃ y, (y27.alloc (.cells #[.int .u8 0, .int .u8 0, .int .u8 0, .int .u8 0, .int .u8 0, .int .u8 0, .int .u8 0, .int .u8 0, .int .i64 0, .int .u8 0, .int .u8 0, .int .u8 0, .int .u8 0, .int .u8 0, .int .u8 0, .int .u8 0, .int .u8 0, .slice none 0 0] 31)) = y := ⟨_, rfl⟩
          have hbn : Below y27.heap.size y27 y30 := hy ▸ (below_new y27 _)
          have HBy30 := Lib.hid (below_then HBy27.out hbn); have HKy30 := Lib.hid (HKy27.out.later hbn); have HJy30 := Lib.hid (HJy27.out.later hbn); have HXy30 := Lib.hid (HXy27.out.later hbn); have HYy30 := Lib.hid (HYy27.out.later hbn)
          have HO1y30 := Lib.hid (own_keep HO1y27.out hbn)
          have HZ5y30 := Lib.hid (HZ5y27.out.later hbn)
          have HZ4y30 : Hid (Bk y30 g4 31 zBk) := hy ▸ (Bk.at_ y27 _ #[.int .u8 0, .int .u8 0, .int .u8 0, .int .u8 0, .int .u8 0, .int .u8 0, .int .u8 0, .int .u8 0, .int .i64 0, .int .u8 0, .int .u8 0, .int .u8 0, .int .u8 0, .int .u8 0, .int .u8 0, .int .u8 0, .int .u8 0, .slice none 0 0] hg rfl)
          have HG4 : Hid (w3.heap.size ≤ g4) := by show _ ≤ _; rw [← hg]; exact HBy27.out.size
          have HNE : Hid (g4 ≠ g5) := by have := HZ5y27.out.lt; show g4 ≠ g5; omega
          rw [hy, hg]
          refine hK.out _ _ ⟨HKy30.out, HJy30.out⟩ (fun hHeld => ?_)
          clear hK K hbn hy hg
          try simp only [Act.put, List.setIfInBounds_toArray, List.set_cons_zero, List.set_cons_succ, List.getElem_toArray, List.getElem_cons_zero, List.getElem_cons_succ]
          refine wpAnyH_ready (rs := [3]) (by kernel_rfl) (by simp) ?_
          refine (AllReadyH.cons rfl (fun K hK => ?_) AllReadyH.nil)
          go_simp
          rw [HYE.out]
          refine (HOB.out y30 HYy30.out).mono ?_
          rintro e y31a ⟨⟨v3, rfl, hown⟩, hbn⟩
          obtain ⟨P3, q3, rfl⟩ := own_form hown
          obtain ⟨y31, hy⟩ : ∃ y, y31a = y := ⟨_, rfl⟩
          have hbd : Below y31a.heap.size y31a y31 := hy ▸ Below.refl _ _
          have hsl := own_base (own_keep hown hbd) HBy30.out.size
          have hbn := below_then hbn hbd
          have HBy31 := Lib.hid (below_then HBy30.out hbn); have HKy31 := Lib.hid (HKy30.out.later hbn); have HJy31 := Lib.hid (HJy30.out.later hbn); have HXy31 := Lib.hid (HXy30.out.later hbn); have HYy31 := Lib.hid (HYy30.out.later hbn)
          have HO1y31 := Lib.hid (own_keep HO1y30.out hbn)
          have HZ4y31 := Lib.hid (HZ4y30.out.later hbn)
          have HZ5y31 := Lib.hid (HZ5y30.out.later hbn)
          have HO3y31 := Lib.hid hsl
          rw [hy]
          refine hK.out _ _ ⟨HKy31.out, HJy31.out⟩ (fun hHeld => ?_)
          clear hK K hown hbn hbd hy hsl
          try simp only [Act.put, List.setIfInBounds_toArray, List.set_cons_zero, List.set_cons_succ, List.getElem_toArray, List.getElem_cons_zero, List.getElem_cons_succ]
          as_aux_lemma =>
          have HF1 : Hid (BkFit (bkC p h m (.slice P1 N q1))) := bk_fit HPO.out HMO.out
          have HF3 : Hid (BkFit (bkC p' h' m' (.slice P3 N' q3))) := bk_fit HPO'.out HMO'.out
          refine wpAnyH_ready (rs := [6]) (by kernel_rfl) (by simp) ?_
          refine AllReadyH.cons rfl (fun K hK => ?_) AllReadyH.nil
          rw [if_pos (by rfl)]
          refine wp_store_part _ _ _ rfl g4 0 _ (bkC p h m (.slice P1 N q1)) rfl rfl rfl _ ([]) (zBk) ([]) (by simpa using HZ4y31.out) rfl (by rw [HF1.out.len]; rfl) HF1.out.size HF1.out.one ?_
          intro wd hp
          refine hK.out _ _ ⟨HKy31.out.grown hp.only (by intro e; injection e with e; have := HG4.out; have := HZW.out; omega), HJy31.out.grown hp.only (by intro e; injection e with e; have := HG4.out; have := HZW.out; omega)⟩ (fun hHeld => ?_)
          clear hK K
          try simp only [Act.put, List.setIfInBounds_toArray, List.set_cons_zero, List.set_cons_succ, List.getElem_toArray, List.getElem_cons_zero, List.getElem_cons_succ]
          have hb4 : Below w3.heap.size w3 wd := below_only HBy31.out hp.only HBy31.out.size HG4.out
          have k4 : Bk wd g4 31 (bkC p h m (.slice P1 N q1)) := by have := hp.bk; simpa using this
          have k5 : Bk wd g5 31 zBk := HZ5y31.out.grown hp.only (by intro e; injection e with e; have := HNE.out; omega)
          have kz : Bk wd z 25 l := HKy31.out.grown hp.only (by intro e; injection e with e; have := HG4.out; have := HZW.out; omega)
          have kj : Bk wd (z + 1) 25 l' := HJy31.out.grown hp.only (by intro e; injection e with e; have := HG4.out; have := HZW.out; omega)
          have o1 := own_only HO1y31.out hp.only (own_bk_ne HO1y31.out HZ4y31.out (by decide))
          have o3 := own_only HO3y31.out hp.only (own_bk_ne HO3y31.out HZ4y31.out (by decide))
          clear hp
          refine wpAnyH_ready (rs := [7]) (by kernel_rfl) (by simp) ?_
          refine AllReadyH.cons rfl (fun K hK => ?_) AllReadyH.nil
          rw [if_pos (by rfl)]
          refine wp_store_part _ _ _ rfl g5 0 _ (bkC p' h' m' (.slice P3 N' q3)) rfl rfl rfl _ ([]) (zBk) ([]) (by simpa using k5) rfl (by rw [HF3.out.len]; rfl) HF3.out.size HF3.out.one ?_
          intro we hp
          refine hK.out _ _ ⟨kz.grown hp.only (by intro e; injection e with e; have := HG5.out; have := HZW.out; omega), kj.grown hp.only (by intro e; injection e with e; have := HG5.out; have := HZW.out; omega)⟩ (fun hHeld => ?_)
          clear hK K
          try simp only [Act.put, List.setIfInBounds_toArray, List.set_cons_zero, List.set_cons_succ, List.getElem_toArray, List.getElem_cons_zero, List.getElem_cons_succ]
          have k5' := k5
          have hb5 : Below w3.heap.size w3 we := below_only hb4 hp.only hb4.size HG5.out
          have k5 : Bk we g5 31 (bkC p' h' m' (.slice P3 N' q3)) := by have := hp.bk; simpa using this
          have k4 : Bk we g4 31 (bkC p h m (.slice P1 N q1)) := k4.grown hp.only (by intro e; injection e with e; have := HNE.out; omega)
          have o1 := own_only o1 hp.only (own_bk_ne o1 k5' (by decide))
          have o3 := own_only o3 hp.only (own_bk_ne o3 k5' (by decide))
          clear hp
          refine wpAnyH_done rfl ?_ _
          go_wp2_with fail
          go_meet
          exact ⟨g4, g5, P1, P3, q1, q3, rfl, rfl, ⟨k4, k5, o1, o3, hb5, HNE.out, HG4.out, HG5.out⟩⟩
      ·
        go_simp
        obtain ⟨g4, hg⟩ : ∃ g, y26.heap.size = g := ⟨_, rfl⟩
        obtain ⟨y32, hy⟩ : ∃ y, (y26.alloc (.cells #[.int .u8 0, .int .u8 0, .int .u8 0, .int .u8 0, .int .u8 0, .int .u8 0, .int .u8 0, .int .u8 0, .int .i64 0, .int .u8 0, .int .u8 0, .int .u8 0, .int .u8 0, .int .u8 0, .int .u8 0, .int .u8 0, .int .u8 0, .slice none 0 0] 31)) = y := ⟨_, rfl⟩
        have hbn : Below y26.heap.size y26 y32 := hy ▸ (below_new y26 _)
        have HBy32 := Lib.hid (below_then HBy26.out hbn); have HKy32 := Lib.hid (HKy26.out.later hbn); have HJy32 := Lib.hid (HJy26.out.later hbn); have HXy32 := Lib.hid (HXy26.out.later hbn); have HYy32 := Lib.hid (HYy26.out.later hbn)
        have HZ5y32 := Lib.hid (HZ5y26.out.later hbn)
        have HZ4y32 : Hid (Bk y32 g4 31 zBk) := hy ▸ (Bk.at_ y26 _ #[.int .u8 0, .int .u8 0, .int .u8 0, .int .u8 0, .int .u8 0, .int .u8 0, .int .u8 0, .int .u8 0, .int .i64 0, .int .u8 0, .int .u8 0, .int .u8 0, .int .u8 0, .int .u8 0, .int .u8 0, .int .u8 0, .int .u8 0, .slice none 0 0] hg rfl)
        have HG4 : Hid (w3.heap.size ≤ g4) := by show _ ≤ _; rw [← hg]; exact HBy26.out.size
        have HNE : Hid (g4 ≠ g5) := by have := HZ5y26.out.lt; show g4 ≠ g5; omega
        rw [hy, hg]
        refine hK.out _ _ ⟨HKy32.out, HJy32.out⟩ (fun hHeld => ?_)
        clear hK K hbn hy hg
        try simp only [Act.put, List.setIfInBounds_toArray, List.set_cons_zero, List.set_cons_succ, List.getElem_toArray, List.getElem_cons_zero, List.getElem_cons_succ]
        refine wpAnyH_ready (rs := [1]) (by kernel_rfl) (by simp) ?_
        refine (AllReadyH.cons rfl (fun K hK => ?_) AllReadyH.nil)
        go_simp
        rw [HXE.out]
        refine (HOA.out y32 HXy32.out).mono ?_
        rintro e y33a ⟨⟨v1, rfl, hown⟩, hbn⟩
        obtain ⟨P1, q1, rfl⟩ := own_form hown
        obtain ⟨y33, hy⟩ : ∃ y, y33a = y := ⟨_, rfl⟩
        have hbd : Below y33a.heap.size y33a y33 := hy ▸ Below.refl _ _
        have hsl := own_base (own_keep hown hbd) HBy32.out.size
        have hbn := below_then hbn hbd
        have HBy33 := Lib.hid (below_then HBy32.out hbn); have HKy33 := Lib.hid (HKy32.out.later hbn); have HJy33 := Lib.hid (HJy32.out.later hbn); have HXy33 := Lib.hid (HXy32.out.later hbn); have HYy33 := Lib.hid (HYy32.out.later hbn)
        have HZ4y33 := Lib.hid (HZ4y32.out.later hbn)
        have HZ5y33 := Lib.hid (HZ5y32.out.later hbn)
        have HO1y33 := Lib.hid hsl
        rw [hy]
        refine hK.out _ _ ⟨HKy33.out, HJy33.out⟩ (fun hHeld => ?_)
        clear hK K hown hbn hbd hy hsl
        try simp only [Act.put, List.setIfInBounds_toArray, List.set_cons_zero, List.set_cons_succ, List.getElem_toArray, List.getElem_cons_zero, List.getElem_cons_succ]
        refine wpAnyH_ready (rs := [3]) (by kernel_rfl) (by simp) ?_
        refine (AllReadyH.cons rfl (fun K hK => ?_) AllReadyH.nil)
        go_simp
        rw [HYE.out]
        refine (HOB.out y33 HYy33.out).mono ?_
        rintro e y34a ⟨⟨v3, rfl, hown⟩, hbn⟩
        obtain ⟨P3, q3, rfl⟩ := own_form hown
        obtain ⟨y34, hy⟩ : ∃ y, y34a = y := ⟨_, rfl⟩
        have hbd : Below y34a.heap.size y34a y34 := hy ▸ Below.refl _ _
        have hsl := own_base (own_keep hown hbd) HBy33.out.size
        have hbn := below_then hbn hbd
        have HBy34 := Lib.hid (below_then HBy33.out hbn); have HKy34 := Lib.hid (HKy33.out.later hbn); have HJy34 := Lib.hid (HJy33.out.later hbn); have HXy34 := Lib.hid (HXy33.out.later hbn); have HYy34 := Lib.hid (HYy33.out.later hbn)
        have HO1y34 := Lib.hid (own_keep HO1y33.out hbn)
        have HZ4y34 := Lib.hid (HZ4y33.out.later hbn)
        have HZ5y34 := Lib.hid (HZ5y33.out.later hbn)
        have HO3y34 := Lib.hid hsl
        rw [hy]
        refine hK.out _ _ ⟨HKy34.out, HJy34.out⟩ (fun hHeld => ?_)
        clear hK K hown hbn hbd hy hsl
        try simp only [Act.put, List.setIfInBounds_toArray, List.set_cons_zero, List.set_cons_succ, List.getElem_toArray, List.getElem_cons_zero, List.getElem_cons_succ]
        as_aux_lemma =>
        have HF1 : Hid (BkFit (bkC p h m (.slice P1 N q1))) := bk_fit HPO.out HMO.out
        have HF3 : Hid (BkFit (bkC p' h' m' (.slice P3 N' q3))) := bk_fit HPO'.out HMO'.out
        refine wpAnyH_ready (rs := [6]) (by kernel_rfl) (by simp) ?_
        refine AllReadyH.cons rfl (fun K hK => ?_) AllReadyH.nil
        rw [if_pos (by rfl)]
        refine wp_store_part _ _ _ rfl g4 0 _ (bkC p h m (.slice P1 N q1)) rfl rfl rfl _ ([]) (zBk) ([]) (by simpa using HZ4y34.out) rfl (by rw [HF1.out.len]; rfl) HF1.out.size HF1.out.one ?_
        intro wd hp
        refine hK.out _ _ ⟨HKy34.out.grown hp.only (by intro e; injection e with e; have := HG4.out; have := HZW.out; omega), HJy34.out.grown hp.only (by intro e; injection e with e; have := HG4.out; have := HZW.out; omega)⟩ (fun hHeld => ?_)
        clear hK K
        try simp only [Act.put, List.setIfInBounds_toArray, List.set_cons_zero, List.set_cons_succ, List.getElem_toArray, List.getElem_cons_zero, List.getElem_cons_succ]
        have hb4 : Below w3.heap.size w3 wd := below_only HBy34.out hp.only HBy34.out.size HG4.out
        have k4 : Bk wd g4 31 (bkC p h m (.slice P1 N q1)) := by have := hp.bk; simpa using this
        have k5 : Bk wd g5 31 zBk := HZ5y34.out.grown hp.only (by intro e; injection e with e; have := HNE.out; omega)
        have kz : Bk wd z 25 l := HKy34.out.grown hp.only (by intro e; injection e with e; have := HG4.out; have := HZW.out; omega)
        have kj : Bk wd (z + 1) 25 l' := HJy34.out.grown hp.only (by intro e; injection e with e; have := HG4.out; have := HZW.out; omega)
        have o1 := own_only HO1y34.out hp.only (own_bk_ne HO1y34.out HZ4y34.out (by decide))
        have o3 := own_only HO3y34.out hp.only (own_bk_ne HO3y34.out HZ4y34.out (by decide))
        clear hp
        refine wpAnyH_ready (rs := [7]) (by kernel_rfl) (by simp) ?_
        refine AllReadyH.cons rfl (fun K hK => ?_) AllReadyH.nil
        rw [if_pos (by rfl)]
        refine wp_store_part _ _ _ rfl g5 0 _ (bkC p' h' m' (.slice P3 N' q3)) rfl rfl rfl _ ([]) (zBk) ([]) (by simpa using k5) rfl (by rw [HF3.out.len]; rfl) HF3.out.size HF3.out.one ?_
        intro we hp
        refine hK.out _ _ ⟨kz.grown hp.only (by intro e; injection e with e; have := HG5.out; have := HZW.out; omega), kj.grown hp.only (by intro e; injection e with e; have := HG5.out; have := HZW.out; omega)⟩ (fun hHeld => ?_)
        clear hK K
        try simp only [Act.put, List.setIfInBounds_toArray, List.set_cons_zero, List.set_cons_succ, List.getElem_toArray, List.getElem_cons_zero, List.getElem_cons_succ]
        have k5' := k5
        have hb5 : Below w3.heap.size w3 we := below_only hb4 hp.only hb4.size HG5.out
        have k5 : Bk we g5 31 (bkC p' h' m' (.slice P3 N' q3)) := by have := hp.bk; simpa using this
        have k4 : Bk we g4 31 (bkC p h m (.slice P1 N q1)) := k4.grown hp.only (by intro e; injection e with e; have := HNE.out; omega)
        have o1 := own_only o1 hp.only (own_bk_ne o1 k5' (by decide))
        have o3 := own_only o3 hp.only (own_bk_ne o3 k5' (by decide))
        clear hp
        refine wpAnyH_done rfl ?_ _
        go_wp2_with fail
        go_meet
        exact ⟨g4, g5, P1, P3, q1, q3, rfl, rfl, ⟨k4, k5, o1, o3, hb5, HNE.out, HG4.out, HG5.out⟩⟩
  obtain ⟨gX, gY, P1, P3, q1, q3, rfl, rfl, hT⟩ := hcut
  have hbn := hT.bl
  have HTc := Lib.hid hT
  have HBBc := Lib.hid (below_then HBB3.out hbn)
  have HKc := Lib.hid (HK3.out.later hbn)
  have HJc := Lib.hid (HJ3.out.later hbn)
  have HXc := Lib.hid (HX3.out.later hbn)
  have HYc := Lib.hid (HY3.out.later hbn)
  clear hbn
  have HXG : Hid (∀ x ∈ xs, Txg w3 x.1 x.2) := HX3.out.th
  have HYG : Hid (∀ x ∈ ys, Txg w3 x.1 x.2) := HY3.out.th
  have HN0 : Hid (N ≤ 1000) := by have := HN.out; show N ≤ 1000; omega
  have HN1 : Hid (N' ≤ 1000) := by have := HN'.out; show N' ≤ 1000; omega
  clear hT HK3 HJ3 HX3 HY3 HOA HOB HFW HFW' HFE HFE' HF0 HF0'
  refine ‹∀ (a : Act) (w : World), Code.wp _ _ _ a w → _› _ _ ?_
  obtain ⟨C0, hC0⟩ : ∃ l, bkC p h m (.slice P1 N q1) = l := ⟨_, rfl⟩
  obtain ⟨CY, hCY⟩ : ∃ l, bkC p' h' m' (.slice P3 N' q3) = l := ⟨_, rfl⟩
  have HF0 : Hid (BkFit C0) := hC0 ▸ bk_fit HPO.out HMO.out
  have HFY : Hid (BkFit CY) := hCY ▸ bk_fit HPO'.out HMO'.out
  have HC0 := Lib.hid hC0; have HCY := Lib.hid hCY
  rw [hC0, hCY] at HTc
  clear hC0 hCY
  have HNM := Lib.hid (fun w' (T : TwoW w3 w' gX gY C0 CY P1 N q1 xs P3 N' q3 ys) => T.nameX HC0.out HXG.out HPO.out HMO.out HN0.out HEX.out)
  have HRT := Lib.hid (fun w' (T : TwoW w3 w' gX gY C0 CY P1 N q1 xs P3 N' q3 ys) => T.rootX HC0.out HXG.out HPO.out HMO.out HN0.out HEX.out)
  have HFS := Lib.hid (fun w' (T : TwoW w3 w' gX gY C0 CY P1 N q1 xs P3 N' q3 ys) => T.feesX HC0.out HXG.out HPO.out HMO.out)
  have HRI := Lib.hid (fun w' (T : TwoW w3 w' gX gY C0 CY P1 N q1 xs P3 N' q3 ys) => T.right HC0.out HXG.out HPO.out HMO.out)
  have HCH := Lib.hid (fun w' (T : TwoW w3 w' gX gY C0 CY P1 N q1 xs P3 N' q3 ys) => T.check HC0.out HCY.out HXG.out HYG.out HPO.out HMO.out HPO'.out HMO'.out HN1.out HEA.out)
  rw [HLL.out] at HNM HRT HFS HRI HCH
  rw [HLL'.out] at HCH
  rw [HLE.out] at HNM HRT HFS HRI HCH
  rw [HLD.out] at HNM
  rw [HLR.out] at HRT
  rw [HLF.out] at HFS
  rw [HLC.out] at HCH
  go_wp2_with (with_reducible refine wpList_load_bk rfl 31 _ rfl gX rfl C0 31 HTc.out.x _ Tryz.underlying31 rfl HF0.out.size ?_)
  refine (HNM.out wc HTc.out).mono ?_
  rintro e w5 ⟨rfl, hbn⟩
  have HBB5 := Lib.hid (below_then HBBc.out hbn)
  have HT5 := Lib.hid (HTc.out.later hbn)
  have HK5 := Lib.hid (HKc.out.later hbn)
  have HJ5 := Lib.hid (HJc.out.later hbn)
  have HX5 := Lib.hid (HXc.out.later hbn)
  have HY5 := Lib.hid (HYc.out.later hbn)
  clear hbn
  clear HTc HKc HJc HXc HYc HNM
  go_wp2_with (with_reducible refine stop_store 28 _ _ rfl ?_)
  refine StopD.go ?_
  obtain ⟨g6, hg6⟩ : ∃ g, w5.heap.size = g := ⟨_, rfl⟩
  have hbn : Below w5.heap.size w5 (w5.alloc (.cells #[.int .u8 0, .int .u8 0, .int .u8 0, .int .u8 0, .int .u8 0, .int .u8 0, .int .u8 0, .int .u8 0] 28)) := below_new w5 _
  have kt : Bk (w5.alloc (.cells #[.int .u8 0, .int .u8 0, .int .u8 0, .int .u8 0, .int .u8 0, .int .u8 0, .int .u8 0, .int .u8 0] 28)) g6 28 ([] ++ (dl zeroD ++ [])) := by rw [← hg6]; exact Bk.new' w5 _ #[.int .u8 0, .int .u8 0, .int .u8 0, .int .u8 0, .int .u8 0, .int .u8 0, .int .u8 0, .int .u8 0] rfl
  rw [hg6]
  refine wpList_store_part rfl 28 _ _ rfl g6 0 (.agg (dl DN).toArray) (dl DN) rfl rfl rfl 28 [] (dl zeroD) [] kt rfl (by rw [dl_len, dl_len, HDO.out.len]; rfl) (hdg_size _ HDO.out) (dl_one' _) ?_
  intro w6 hp
  have hbn : Below w5.heap.size w5 w6 := hbn.grown hp.only hbn.size (fun q hq => by injection hq with hq; omega)
  have HU6 : Hid (Bk w6 g6 28 (dl DN)) := by show Bk _ _ _ _; have := hp.bk; simpa using this
  clear hp kt
  clear hg6
  have HBB6 := Lib.hid (below_then HBB5.out hbn)
  have HT6 := Lib.hid (HT5.out.later hbn)
  have HK6 := Lib.hid (HK5.out.later hbn)
  have HJ6 := Lib.hid (HJ5.out.later hbn)
  have HX6 := Lib.hid (HX5.out.later hbn)
  have HY6 := Lib.hid (HY5.out.later hbn)
  clear hbn
  clear HT5 HK5 HJ5 HX5 HY5
  go_wp2_with (with_reducible refine wpList_load_bk rfl 25 _ rfl z rfl l 25 HK6.out _ Tryz.underlying25 rfl HFR.out.rsize ?_)
  refine (HDD.out.name w6 HX6.out).mono ?_
  rintro e w7 ⟨rfl, hbn⟩
  have HBB7 := Lib.hid (below_then HBB6.out hbn)
  have HT7 := Lib.hid (HT6.out.later hbn)
  have HK7 := Lib.hid (HK6.out.later hbn)
  have HJ7 := Lib.hid (HJ6.out.later hbn)
  have HX7 := Lib.hid (HX6.out.later hbn)
  have HY7 := Lib.hid (HY6.out.later hbn)
  have HU7 := Lib.hid (HU6.out.later hbn)
  clear hbn
  clear HT6 HK6 HJ6 HX6 HY6 HU6
  go_wp2_with (with_reducible refine stop_store 22 _ _ rfl ?_)
  refine StopD.go ?_
  obtain ⟨g8, hg8⟩ : ∃ g, w7.heap.size = g := ⟨_, rfl⟩
  have hbn : Below w7.heap.size w7 (w7.alloc (.cells #[.int .u8 0, .int .u8 0, .int .u8 0, .int .u8 0, .int .u8 0, .int .u8 0, .int .u8 0, .int .u8 0] 22)) := below_new w7 _
  have kt : Bk (w7.alloc (.cells #[.int .u8 0, .int .u8 0, .int .u8 0, .int .u8 0, .int .u8 0, .int .u8 0, .int .u8 0, .int .u8 0] 22)) g8 22 ([] ++ (dl zeroD ++ [])) := by rw [← hg8]; exact Bk.new' w7 _ #[.int .u8 0, .int .u8 0, .int .u8 0, .int .u8 0, .int .u8 0, .int .u8 0, .int .u8 0, .int .u8 0] rfl
  rw [hg8]
  refine wpList_store_part rfl 22 _ _ rfl g8 0 (.agg (dl DN).toArray) (dl DN) rfl rfl rfl 22 [] (dl zeroD) [] kt rfl (dg_lensd HDO.out) (rdg_szd HDO.out) (dl_one' _) ?_
  intro w8 hp
  have hbn : Below w7.heap.size w7 w8 := hbn.grown hp.only hbn.size (fun q hq => by injection hq with hq; omega)
  have HV8 : Hid (Bk w8 g8 22 (dl DN)) := by show Bk _ _ _ _; have := hp.bk; simpa using this
  clear hp kt
  clear hg8
  have HBB8 := Lib.hid (below_then HBB7.out hbn)
  have HT8 := Lib.hid (HT7.out.later hbn)
  have HK8 := Lib.hid (HK7.out.later hbn)
  have HJ8 := Lib.hid (HJ7.out.later hbn)
  have HX8 := Lib.hid (HX7.out.later hbn)
  have HY8 := Lib.hid (HY7.out.later hbn)
  have HU8 := Lib.hid (HU7.out.later hbn)
  clear hbn
  clear HT7 HK7 HJ7 HX7 HY7 HU7
  go_wp2_with (with_reducible refine wpList_load_bk rfl 31 _ rfl gX rfl C0 31 HT8.out.x _ Tryz.underlying31 rfl HF0.out.size ?_)
  refine (HRT.out w8 HT8.out).mono ?_
  rintro e w9 ⟨rfl, hbn⟩
  have HBB9 := Lib.hid (below_then HBB8.out hbn)
  have HT9 := Lib.hid (HT8.out.later hbn)
  have HK9 := Lib.hid (HK8.out.later hbn)
  have HJ9 := Lib.hid (HJ8.out.later hbn)
  have HX9 := Lib.hid (HX8.out.later hbn)
  have HY9 := Lib.hid (HY8.out.later hbn)
  have HU9 := Lib.hid (HU8.out.later hbn)
  have HV9 := Lib.hid (HV8.out.later hbn)
  clear hbn
  clear HT8 HK8 HJ8 HX8 HY8 HU8 HV8 HRT
  go_wp2_with (with_reducible refine stop_store 28 _ _ rfl ?_)
  refine StopD.go ?_
  obtain ⟨g10, hg10⟩ : ∃ g, w9.heap.size = g := ⟨_, rfl⟩
  have hbn : Below w9.heap.size w9 (w9.alloc (.cells #[.int .u8 0, .int .u8 0, .int .u8 0, .int .u8 0, .int .u8 0, .int .u8 0, .int .u8 0, .int .u8 0] 28)) := below_new w9 _
  have kt : Bk (w9.alloc (.cells #[.int .u8 0, .int .u8 0, .int .u8 0, .int .u8 0, .int .u8 0, .int .u8 0, .int .u8 0, .int .u8 0] 28)) g10 28 ([] ++ (dl zeroD ++ [])) := by rw [← hg10]; exact Bk.new' w9 _ #[.int .u8 0, .int .u8 0, .int .u8 0, .int .u8 0, .int .u8 0, .int .u8 0, .int .u8 0, .int .u8 0] rfl
  rw [hg10]
  refine wpList_store_part rfl 28 _ _ rfl g10 0 (.agg (dl R).toArray) (dl R) rfl rfl rfl 28 [] (dl zeroD) [] kt rfl (by rw [dl_len, dl_len, HRO.out.len]; rfl) (hdg_size _ HRO.out) (dl_one' _) ?_
  intro w10 hp
  have hbn : Below w9.heap.size w9 w10 := hbn.grown hp.only hbn.size (fun q hq => by injection hq with hq; omega)
  have HP10 : Hid (Bk w10 g10 28 (dl R)) := by show Bk _ _ _ _; have := hp.bk; simpa using this
  clear hp kt
  clear hg10
  have HBB10 := Lib.hid (below_then HBB9.out hbn)
  have HT10 := Lib.hid (HT9.out.later hbn)
  have HK10 := Lib.hid (HK9.out.later hbn)
  have HJ10 := Lib.hid (HJ9.out.later hbn)
  have HX10 := Lib.hid (HX9.out.later hbn)
  have HY10 := Lib.hid (HY9.out.later hbn)
  have HU10 := Lib.hid (HU9.out.later hbn)
  have HV10 := Lib.hid (HV9.out.later hbn)
  clear hbn
  clear HT9 HK9 HJ9 HX9 HY9 HU9 HV9
  go_wp2_with (with_reducible refine wpList_load_bk rfl 25 _ rfl z rfl l 25 HK10.out _ Tryz.underlying25 rfl HFR.out.rsize ?_)
  refine (HDD.out.root w10 HX10.out).mono ?_
  rintro e w11 ⟨rfl, hbn⟩
  have HBB11 := Lib.hid (below_then HBB10.out hbn)
  have HT11 := Lib.hid (HT10.out.later hbn)
  have HK11 := Lib.hid (HK10.out.later hbn)
  have HJ11 := Lib.hid (HJ10.out.later hbn)
  have HX11 := Lib.hid (HX10.out.later hbn)
  have HY11 := Lib.hid (HY10.out.later hbn)
  have HU11 := Lib.hid (HU10.out.later hbn)
  have HV11 := Lib.hid (HV10.out.later hbn)
  have HP11 := Lib.hid (HP10.out.later hbn)
  clear hbn
  clear HT10 HK10 HJ10 HX10 HY10 HU10 HV10 HP10
  go_wp2_with (with_reducible refine stop_store 22 _ _ rfl ?_)
  refine StopD.go ?_
  obtain ⟨g12, hg12⟩ : ∃ g, w11.heap.size = g := ⟨_, rfl⟩
  have hbn : Below w11.heap.size w11 (w11.alloc (.cells #[.int .u8 0, .int .u8 0, .int .u8 0, .int .u8 0, .int .u8 0, .int .u8 0, .int .u8 0, .int .u8 0] 22)) := below_new w11 _
  have kt : Bk (w11.alloc (.cells #[.int .u8 0, .int .u8 0, .int .u8 0, .int .u8 0, .int .u8 0, .int .u8 0, .int .u8 0, .int .u8 0] 22)) g12 22 ([] ++ (dl zeroD ++ [])) := by rw [← hg12]; exact Bk.new' w11 _ #[.int .u8 0, .int .u8 0, .int .u8 0, .int .u8 0, .int .u8 0, .int .u8 0, .int .u8 0, .int .u8 0] rfl
  rw [hg12]
  refine wpList_store_part rfl 22 _ _ rfl g12 0 (.agg (dl R).toArray) (dl R) rfl rfl rfl 22 [] (dl zeroD) [] kt rfl (dg_lensd HRO.out) (rdg_szd HRO.out) (dl_one' _) ?_
  intro w12 hp
  have hbn : Below w11.heap.size w11 w12 := hbn.grown hp.only hbn.size (fun q hq => by injection hq with hq; omega)
  have HQ12 : Hid (Bk w12 g12 22 (dl R)) := by show Bk _ _ _ _; have := hp.bk; simpa using this
  clear hp kt
  clear hg12
  have HBB12 := Lib.hid (below_then HBB11.out hbn)
  have HT12 := Lib.hid (HT11.out.later hbn)
  have HK12 := Lib.hid (HK11.out.later hbn)
  have HJ12 := Lib.hid (HJ11.out.later hbn)
  have HX12 := Lib.hid (HX11.out.later hbn)
  have HY12 := Lib.hid (HY11.out.later hbn)
  have HU12 := Lib.hid (HU11.out.later hbn)
  have HV12 := Lib.hid (HV11.out.later hbn)
  have HP12 := Lib.hid (HP11.out.later hbn)
  clear hbn
  clear HT11 HK11 HJ11 HX11 HY11 HU11 HV11 HP11
  go_wp2_with (with_reducible refine wpList_load_bk rfl 31 _ rfl gX rfl C0 31 HT12.out.x _ Tryz.underlying31 rfl HF0.out.size ?_)
  refine (HFS.out w12 HT12.out).mono ?_
  rintro e w13 ⟨rfl, hbn⟩
  have HBB13 := Lib.hid (below_then HBB12.out hbn)
  have HT13 := Lib.hid (HT12.out.later hbn)
  have HK13 := Lib.hid (HK12.out.later hbn)
  have HJ13 := Lib.hid (HJ12.out.later hbn)
  have HX13 := Lib.hid (HX12.out.later hbn)
  have HY13 := Lib.hid (HY12.out.later hbn)
  have HU13 := Lib.hid (HU12.out.later hbn)
  have HV13 := Lib.hid (HV12.out.later hbn)
  have HP13 := Lib.hid (HP12.out.later hbn)
  have HQ13 := Lib.hid (HQ12.out.later hbn)
  clear hbn
  clear HT12 HK12 HJ12 HX12 HY12 HU12 HV12 HP12 HQ12 HFS
  go_wp2_with (with_reducible refine wpList_load_bk rfl 25 _ rfl z rfl l 25 HK13.out _ Tryz.underlying25 rfl HFR.out.rsize ?_)
  refine (HDD.out.fees w13 HX13.out).mono ?_
  rintro e w14 ⟨rfl, hbn⟩
  have HBB14 := Lib.hid (below_then HBB13.out hbn)
  have HT14 := Lib.hid (HT13.out.later hbn)
  have HK14 := Lib.hid (HK13.out.later hbn)
  have HJ14 := Lib.hid (HJ13.out.later hbn)
  have HX14 := Lib.hid (HX13.out.later hbn)
  have HY14 := Lib.hid (HY13.out.later hbn)
  have HU14 := Lib.hid (HU13.out.later hbn)
  have HV14 := Lib.hid (HV13.out.later hbn)
  have HP14 := Lib.hid (HP13.out.later hbn)
  have HQ14 := Lib.hid (HQ13.out.later hbn)
  clear hbn
  clear HT13 HK13 HJ13 HX13 HY13 HU13 HV13 HP13 HQ13
  go_wp2_with fail
  refine wp_region_held_drew (S := fun w' => Bk w' gX 31 C0 ∧ Bk w' gY 31 CY ∧ Bk w' z 25 l ∧ Bk w' (z + 1) 25 l' ∧ Bk w' g6 28 (dl DN) ∧ Bk w' g8 22 (dl DN) ∧ Bk w' g10 28 (dl R) ∧ Bk w' g12 22 (dl R)) (by kernel_rfl) ⟨Bk.drew HT14.out.x, Bk.drew HT14.out.y, Bk.drew HK14.out, Bk.drew HJ14.out, Bk.drew HU14.out, Bk.drew HV14.out, Bk.drew HP14.out, Bk.drew HQ14.out⟩ (fun hHeld => ?_)
  have hbn : Below w14.heap.size w14 w14.drew := below_draws w14 w14.heap.size 1
  obtain ⟨w15, hw15⟩ : ∃ wa, w14.drew = wa := ⟨_, rfl⟩
  rw [hw15] at hbn hHeld ⊢
  have HBB15 := Lib.hid (below_then HBB14.out hbn)
  have HT15 := Lib.hid (HT14.out.later hbn)
  have HK15 := Lib.hid (HK14.out.later hbn)
  have HJ15 := Lib.hid (HJ14.out.later hbn)
  have HX15 := Lib.hid (HX14.out.later hbn)
  have HY15 := Lib.hid (HY14.out.later hbn)
  have HU15 := Lib.hid (HU14.out.later hbn)
  have HV15 := Lib.hid (HV14.out.later hbn)
  have HP15 := Lib.hid (HP14.out.later hbn)
  have HQ15 := Lib.hid (HQ14.out.later hbn)
  clear hbn
  clear hw15 HT14 HK14 HJ14 HX14 HY14 HU14 HV14 HP14 HQ14
  have heq := dg_eqb DN DN HDO.out HDO.out
  have heq2 := dg_eqb R R HRO.out HRO.out
  rw [eqL_self] at heq heq2
  refine wpAnyH_take (i := 0) (v := .agg (List.toArray (C0))) rfl (by kernel_rfl) (by kernel_rfl) (by kernel_rfl) (fun _ _ _ h => h) (yieldsIf_load_mid (by rfl) _ _ rfl _ _ rfl (C0) _ (fun w hSw => (Bk.range (pre := []) (post := []) (by simpa using hSw.1) rfl)) Tryz.underlying31 rfl (HF0.out.size)) (by assumption) ?_
  try simp only [Act.put, List.setIfInBounds_toArray, List.set_cons_zero, List.set_cons_succ, List.getElem_toArray, List.getElem_cons_zero, List.getElem_cons_succ]
  refine wpAnyH_take (i := 2) (v := .agg (List.toArray (l))) rfl (by kernel_rfl) (by kernel_rfl) (by kernel_rfl) (fun _ _ _ h => h) (yieldsIf_load_mid (by rfl) _ _ rfl _ _ rfl (l) _ (fun w hSw => (Bk.range (pre := []) (post := []) (by simpa using hSw.2.2.1) rfl)) Tryz.underlying25 rfl (HFR.out.rsize)) (by assumption) ?_
  try simp only [Act.put, List.setIfInBounds_toArray, List.set_cons_zero, List.set_cons_succ, List.getElem_toArray, List.getElem_cons_zero, List.getElem_cons_succ]
  refine wpAnyH_ready (rs := [1]) (by kernel_rfl) (by simp) ?_
  refine AllReadyH.cons rfl (fun K hK => ?_) AllReadyH.nil
  go_simp
  (refine (HRI.out w15 HT15.out).mono ?_; rintro e w16 ⟨rfl, hbn⟩; have HBB16 := Lib.hid (below_then HBB15.out hbn); have HT16 := Lib.hid (HT15.out.later hbn); have HK16 := Lib.hid (HK15.out.later hbn); have HJ16 := Lib.hid (HJ15.out.later hbn); have HX16 := Lib.hid (HX15.out.later hbn); have HY16 := Lib.hid (HY15.out.later hbn); have HU16 := Lib.hid (HU15.out.later hbn); have HV16 := Lib.hid (HV15.out.later hbn); have HP16 := Lib.hid (HP15.out.later hbn); have HQ16 := Lib.hid (HQ15.out.later hbn); clear hbn; clear HT15 HK15 HJ15 HX15 HY15 HU15 HV15 HP15 HQ15)
  refine hK.out _ _ (⟨HT16.out.x, HT16.out.y, HK16.out, HJ16.out, HU16.out, HV16.out, HP16.out, HQ16.out⟩) (fun hHeld => ?_)
  clear hK K
  try simp only [Act.put, List.setIfInBounds_toArray, List.set_cons_zero, List.set_cons_succ, List.getElem_toArray, List.getElem_cons_zero, List.getElem_cons_succ]
  refine wpAnyH_ready (rs := [3]) (by kernel_rfl) (by simp) ?_
  refine AllReadyH.cons rfl (fun K hK => ?_) AllReadyH.nil
  go_simp
  (refine (HDD.out.right w16 HX16.out).mono ?_; rintro e w17 ⟨rfl, hbn⟩; have HBB17 := Lib.hid (below_then HBB16.out hbn); have HT17 := Lib.hid (HT16.out.later hbn); have HK17 := Lib.hid (HK16.out.later hbn); have HJ17 := Lib.hid (HJ16.out.later hbn); have HX17 := Lib.hid (HX16.out.later hbn); have HY17 := Lib.hid (HY16.out.later hbn); have HU17 := Lib.hid (HU16.out.later hbn); have HV17 := Lib.hid (HV16.out.later hbn); have HP17 := Lib.hid (HP16.out.later hbn); have HQ17 := Lib.hid (HQ16.out.later hbn); clear hbn; clear HT16 HK16 HJ16 HX16 HY16 HU16 HV16 HP16 HQ16)
  refine hK.out _ _ (⟨HT17.out.x, HT17.out.y, HK17.out, HJ17.out, HU17.out, HV17.out, HP17.out, HQ17.out⟩) (fun hHeld => ?_)
  clear hK K
  try simp only [Act.put, List.setIfInBounds_toArray, List.set_cons_zero, List.set_cons_succ, List.getElem_toArray, List.getElem_cons_zero, List.getElem_cons_succ]
  refine wpAnyH_take (i := 4) (v := ?_) rfl (by kernel_rfl) (by kernel_rfl) (by kernel_rfl) (fun _ _ _ h => h) (Or.inl ⟨by rfl, ?_⟩) (by assumption) ?_
  rotate_left
  · intro w hSw
    (try dsimp only at hSw)
    go_simp
    try with_reducible rfl
  try simp only [Act.put, List.setIfInBounds_toArray, List.set_cons_zero, List.set_cons_succ, List.getElem_toArray, List.getElem_cons_zero, List.getElem_cons_succ]
  refine wpAnyH_take (i := 5) (v := ?_) rfl (by kernel_rfl) (by kernel_rfl) (by kernel_rfl) (fun _ _ _ h => h) (Or.inl ⟨by rfl, ?_⟩) (by assumption) ?_
  rotate_left
  · intro w hSw
    (try dsimp only at hSw)
    go_simp
    try with_reducible rfl
  try simp only [Act.put, List.setIfInBounds_toArray, List.set_cons_zero, List.set_cons_succ, List.getElem_toArray, List.getElem_cons_zero, List.getElem_cons_succ]
  refine wpAnyH_take (i := 6) (v := .agg (List.toArray (C0))) rfl (by kernel_rfl) (by kernel_rfl) (by kernel_rfl) (fun _ _ _ h => h) (yieldsIf_load_mid (by rfl) _ _ rfl _ _ rfl (C0) _ (fun w hSw => (Bk.range (pre := []) (post := []) (by simpa using hSw.1) rfl)) Tryz.underlying31 rfl (HF0.out.size)) (by assumption) ?_
  try simp only [Act.put, List.setIfInBounds_toArray, List.set_cons_zero, List.set_cons_succ, List.getElem_toArray, List.getElem_cons_zero, List.getElem_cons_succ]
  refine wpAnyH_take (i := 7) (v := .agg (List.toArray (CY))) rfl (by kernel_rfl) (by kernel_rfl) (by kernel_rfl) (fun _ _ _ h => h) (yieldsIf_load_mid (by rfl) _ _ rfl _ _ rfl (CY) _ (fun w hSw => (Bk.range (pre := []) (post := []) (by simpa using hSw.2.1) rfl)) Tryz.underlying31 rfl (HFY.out.size)) (by assumption) ?_
  try simp only [Act.put, List.setIfInBounds_toArray, List.set_cons_zero, List.set_cons_succ, List.getElem_toArray, List.getElem_cons_zero, List.getElem_cons_succ]
  refine wpAnyH_take (i := 9) (v := .agg (List.toArray (l))) rfl (by kernel_rfl) (by kernel_rfl) (by kernel_rfl) (fun _ _ _ h => h) (yieldsIf_load_mid (by rfl) _ _ rfl _ _ rfl (l) _ (fun w hSw => (Bk.range (pre := []) (post := []) (by simpa using hSw.2.2.1) rfl)) Tryz.underlying25 rfl (HFR.out.rsize)) (by assumption) ?_
  try simp only [Act.put, List.setIfInBounds_toArray, List.set_cons_zero, List.set_cons_succ, List.getElem_toArray, List.getElem_cons_zero, List.getElem_cons_succ]
  refine wpAnyH_take (i := 10) (v := .agg (List.toArray (l'))) rfl (by kernel_rfl) (by kernel_rfl) (by kernel_rfl) (fun _ _ _ h => h) (yieldsIf_load_mid (by rfl) _ _ rfl _ _ rfl (l') _ (fun w hSw => (Bk.range (pre := []) (post := []) (by simpa using hSw.2.2.2.1) rfl)) Tryz.underlying25 rfl (HFR'.out.rsize)) (by assumption) ?_
  try simp only [Act.put, List.setIfInBounds_toArray, List.set_cons_zero, List.set_cons_succ, List.getElem_toArray, List.getElem_cons_zero, List.getElem_cons_succ]
  refine wpAnyH_ready (rs := [8]) (by kernel_rfl) (by simp) ?_
  refine AllReadyH.cons rfl (fun K hK => ?_) AllReadyH.nil
  go_simp
  (refine (HCH.out w17 HT17.out).mono ?_; rintro e w18 ⟨rfl, hbn⟩; have HBB18 := Lib.hid (below_then HBB17.out hbn); have HT18 := Lib.hid (HT17.out.later hbn); have HK18 := Lib.hid (HK17.out.later hbn); have HJ18 := Lib.hid (HJ17.out.later hbn); have HX18 := Lib.hid (HX17.out.later hbn); have HY18 := Lib.hid (HY17.out.later hbn); have HU18 := Lib.hid (HU17.out.later hbn); have HV18 := Lib.hid (HV17.out.later hbn); have HP18 := Lib.hid (HP17.out.later hbn); have HQ18 := Lib.hid (HQ17.out.later hbn); clear hbn; clear HT17 HK17 HJ17 HX17 HY17 HU17 HV17 HP17 HQ17)
  refine hK.out _ _ (⟨HT18.out.x, HT18.out.y, HK18.out, HJ18.out, HU18.out, HV18.out, HP18.out, HQ18.out⟩) (fun hHeld => ?_)
  clear hK K
  try simp only [Act.put, List.setIfInBounds_toArray, List.set_cons_zero, List.set_cons_succ, List.getElem_toArray, List.getElem_cons_zero, List.getElem_cons_succ]
  refine wpAnyH_ready (rs := [11]) (by kernel_rfl) (by simp) ?_
  refine AllReadyH.cons rfl (fun K hK => ?_) AllReadyH.nil
  go_simp
  (refine (HDD.out.check w18 HX18.out HY18.out).mono ?_; rintro e w19 ⟨rfl, hbn⟩; have HBB19 := Lib.hid (below_then HBB18.out hbn); have HT19 := Lib.hid (HT18.out.later hbn); have HK19 := Lib.hid (HK18.out.later hbn); have HJ19 := Lib.hid (HJ18.out.later hbn); have HX19 := Lib.hid (HX18.out.later hbn); have HY19 := Lib.hid (HY18.out.later hbn); have HU19 := Lib.hid (HU18.out.later hbn); have HV19 := Lib.hid (HV18.out.later hbn); have HP19 := Lib.hid (HP18.out.later hbn); have HQ19 := Lib.hid (HQ18.out.later hbn); clear hbn; clear HT18 HK18 HJ18 HX18 HY18 HU18 HV18 HP18 HQ18)
  refine hK.out _ _ (⟨HT19.out.x, HT19.out.y, HK19.out, HJ19.out, HU19.out, HV19.out, HP19.out, HQ19.out⟩) (fun hHeld => ?_)
  clear hK K
  try simp only [Act.put, List.setIfInBounds_toArray, List.set_cons_zero, List.set_cons_succ, List.getElem_toArray, List.getElem_cons_zero, List.getElem_cons_succ]
  refine wpAnyH_take (i := 12) (v := ?_) rfl (by kernel_rfl) (by kernel_rfl) (by kernel_rfl) (fun _ _ _ h => h) (Or.inl ⟨by rfl, ?_⟩) (by assumption) ?_
  rotate_left
  · intro w hSw
    (try dsimp only at hSw)
    go_simp
    try with_reducible rfl
  try simp only [Act.put, List.setIfInBounds_toArray, List.set_cons_zero, List.set_cons_succ, List.getElem_toArray, List.getElem_cons_zero, List.getElem_cons_succ]
  refine wpAnyH_take (i := 13) (v := ?_) rfl (by kernel_rfl) (by kernel_rfl) (by kernel_rfl) (fun _ _ _ h => h) (Or.inl ⟨by rfl, ?_⟩) (by assumption) ?_
  rotate_left
  · intro w hSw
    (try dsimp only at hSw)
    go_simp
    try with_reducible rfl
  try simp only [Act.put, List.setIfInBounds_toArray, List.set_cons_zero, List.set_cons_succ, List.getElem_toArray, List.getElem_cons_zero, List.getElem_cons_succ]
  refine wpAnyH_take (i := 14) (v := ?_) rfl (by kernel_rfl) (by kernel_rfl) (by kernel_rfl) (fun _ _ _ h => h) (Or.inl ⟨by rfl, ?_⟩) (by assumption) ?_
  rotate_left
  · intro w hSw
    (try dsimp only at hSw)
    go_simp
    try with_reducible rfl
  try simp only [Act.put, List.setIfInBounds_toArray, List.set_cons_zero, List.set_cons_succ, List.getElem_toArray, List.getElem_cons_zero, List.getElem_cons_succ]
  refine wpAnyH_take (i := 15) (v := .agg (List.toArray (dl DN))) rfl (by kernel_rfl) (by kernel_rfl) (by kernel_rfl) (fun _ _ _ h => h) (yieldsIf_load_mid (by rfl) _ _ rfl _ _ rfl (dl DN) _ (fun w hSw => (Bk.range (pre := []) (post := []) (by simpa using hSw.2.2.2.2.1) rfl)) Tryz.underlying28 rfl (hdg_size _ HDO.out)) (by assumption) ?_
  try simp only [Act.put, List.setIfInBounds_toArray, List.set_cons_zero, List.set_cons_succ, List.getElem_toArray, List.getElem_cons_zero, List.getElem_cons_succ]
  refine wpAnyH_take (i := 16) (v := .agg (List.toArray (dl DN))) rfl (by kernel_rfl) (by kernel_rfl) (by kernel_rfl) (fun _ _ _ h => h) (yieldsIf_load_mid (by rfl) _ _ rfl _ _ rfl (dl DN) _ (fun w hSw => (Bk.range (pre := []) (post := []) (by simpa using hSw.2.2.2.2.2.1) rfl)) Tryz.underlying22 rfl (rdg_szd HDO.out)) (by assumption) ?_
  try simp only [Act.put, List.setIfInBounds_toArray, List.set_cons_zero, List.set_cons_succ, List.getElem_toArray, List.getElem_cons_zero, List.getElem_cons_succ]
  refine wpAnyH_take (i := 17) (v := ?_) rfl (by kernel_rfl) (by kernel_rfl) (by kernel_rfl) (fun _ _ _ h => h) (Or.inl ⟨by rfl, ?_⟩) (by assumption) ?_
  rotate_left
  · intro w hSw
    (try dsimp only at hSw)
    go_simp
    try with_reducible rfl
  try simp only [Act.put, List.setIfInBounds_toArray, List.set_cons_zero, List.set_cons_succ, List.getElem_toArray, List.getElem_cons_zero, List.getElem_cons_succ]
  refine wpAnyH_take (i := 18) (v := ?_) rfl (by kernel_rfl) (by kernel_rfl) (by kernel_rfl) (fun _ _ _ h => h) (Or.inl ⟨by rfl, ?_⟩) (by assumption) ?_
  rotate_left
  · intro w hSw
    (try dsimp only at hSw)
    go_simp
    try with_reducible rfl
  try simp only [Act.put, List.setIfInBounds_toArray, List.set_cons_zero, List.set_cons_succ, List.getElem_toArray, List.getElem_cons_zero, List.getElem_cons_succ]
  refine wpAnyH_take (i := 19) (v := ?_) rfl (by kernel_rfl) (by kernel_rfl) (by kernel_rfl) (fun _ _ _ h => h) (Or.inl ⟨by rfl, ?_⟩) (by assumption) ?_
  rotate_left
  · intro w hSw
    (try dsimp only at hSw)
    go_simp
    try with_reducible rfl
  try simp only [Act.put, List.setIfInBounds_toArray, List.set_cons_zero, List.set_cons_succ, List.getElem_toArray, List.getElem_cons_zero, List.getElem_cons_succ]
  refine wpAnyH_take (i := 20) (v := ?_) rfl (by kernel_rfl) (by kernel_rfl) (by kernel_rfl) (fun _ _ _ h => h) (Or.inl ⟨by rfl, ?_⟩) (by assumption) ?_
  rotate_left
  · intro w hSw
    (try dsimp only at hSw)
    go_simp
    try with_reducible rfl
  try simp only [Act.put, List.setIfInBounds_toArray, List.set_cons_zero, List.set_cons_succ, List.getElem_toArray, List.getElem_cons_zero, List.getElem_cons_succ]
  refine wpAnyH_take (i := 21) (v := ?_) rfl (by kernel_rfl) (by kernel_rfl) (by kernel_rfl) (fun _ _ _ h => h) (Or.inl ⟨by rfl, ?_⟩) (by assumption) ?_
  rotate_left
  · intro w hSw
    (try dsimp only at hSw)
    go_simp
    try with_reducible rfl
  try simp only [Act.put, List.setIfInBounds_toArray, List.set_cons_zero, List.set_cons_succ, List.getElem_toArray, List.getElem_cons_zero, List.getElem_cons_succ]
  refine wpAnyH_take (i := 22) (v := ?_) rfl (by kernel_rfl) (by kernel_rfl) (by kernel_rfl) (fun _ _ _ h => h) (Or.inl ⟨by rfl, ?_⟩) (by assumption) ?_
  rotate_left
  · intro w hSw
    (try dsimp only at hSw)
    go_simp
    try with_reducible rfl
  try simp only [Act.put, List.setIfInBounds_toArray, List.set_cons_zero, List.set_cons_succ, List.getElem_toArray, List.getElem_cons_zero, List.getElem_cons_succ]
  refine wpAnyH_take (i := 23) (v := ?_) rfl (by kernel_rfl) (by kernel_rfl) (by kernel_rfl) (fun _ _ _ h => h) (Or.inl ⟨by rfl, ?_⟩) (by assumption) ?_
  rotate_left
  · intro w hSw
    (try dsimp only at hSw)
    go_simp
    try with_reducible rfl
  try simp only [Act.put, List.setIfInBounds_toArray, List.set_cons_zero, List.set_cons_succ, List.getElem_toArray, List.getElem_cons_zero, List.getElem_cons_succ]
  refine wpAnyH_take (i := 24) (v := ?_) rfl (by kernel_rfl) (by kernel_rfl) (by kernel_rfl) (fun _ _ _ h => h) (Or.inl ⟨by rfl, ?_⟩) (by assumption) ?_
  rotate_left
  · intro w hSw
    (try dsimp only at hSw)
    go_simp
    try with_reducible rfl
  try simp only [Act.put, List.setIfInBounds_toArray, List.set_cons_zero, List.set_cons_succ, List.getElem_toArray, List.getElem_cons_zero, List.getElem_cons_succ]
  refine wpAnyH_take (i := 25) (v := .agg (List.toArray (dl R))) rfl (by kernel_rfl) (by kernel_rfl) (by kernel_rfl) (fun _ _ _ h => h) (yieldsIf_load_mid (by rfl) _ _ rfl _ _ rfl (dl R) _ (fun w hSw => (Bk.range (pre := []) (post := []) (by simpa using hSw.2.2.2.2.2.2.1) rfl)) Tryz.underlying28 rfl (hdg_size _ HRO.out)) (by assumption) ?_
  try simp only [Act.put, List.setIfInBounds_toArray, List.set_cons_zero, List.set_cons_succ, List.getElem_toArray, List.getElem_cons_zero, List.getElem_cons_succ]
  refine wpAnyH_take (i := 26) (v := .agg (List.toArray (dl R))) rfl (by kernel_rfl) (by kernel_rfl) (by kernel_rfl) (fun _ _ _ h => h) (yieldsIf_load_mid (by rfl) _ _ rfl _ _ rfl (dl R) _ (fun w hSw => (Bk.range (pre := []) (post := []) (by simpa using hSw.2.2.2.2.2.2.2) rfl)) Tryz.underlying22 rfl (rdg_szd HRO.out)) (by assumption) ?_
  try simp only [Act.put, List.setIfInBounds_toArray, List.set_cons_zero, List.set_cons_succ, List.getElem_toArray, List.getElem_cons_zero, List.getElem_cons_succ]
  refine wpAnyH_take (i := 27) (v := ?_) rfl (by kernel_rfl) (by kernel_rfl) (by kernel_rfl) (fun _ _ _ h => h) (Or.inl ⟨by rfl, ?_⟩) (by assumption) ?_
  rotate_left
  · intro w hSw
    (try dsimp only at hSw)
    go_simp
    try with_reducible rfl
  try simp only [Act.put, List.setIfInBounds_toArray, List.set_cons_zero, List.set_cons_succ, List.getElem_toArray, List.getElem_cons_zero, List.getElem_cons_succ]
  refine wpAnyH_take (i := 28) (v := ?_) rfl (by kernel_rfl) (by kernel_rfl) (by kernel_rfl) (fun _ _ _ h => h) (Or.inl ⟨by rfl, ?_⟩) (by assumption) ?_
  rotate_left
  · intro w hSw
    (try dsimp only at hSw)
    go_simp
    try with_reducible rfl
  try simp only [Act.put, List.setIfInBounds_toArray, List.set_cons_zero, List.set_cons_succ, List.getElem_toArray, List.getElem_cons_zero, List.getElem_cons_succ]
  refine wpAnyH_take (i := 29) (v := ?_) rfl (by kernel_rfl) (by kernel_rfl) (by kernel_rfl) (fun _ _ _ h => h) (Or.inl ⟨by rfl, ?_⟩) (by assumption) ?_
  rotate_left
  · intro w hSw
    (try dsimp only at hSw)
    go_simp
    try with_reducible rfl
  try simp only [Act.put, List.setIfInBounds_toArray, List.set_cons_zero, List.set_cons_succ, List.getElem_toArray, List.getElem_cons_zero, List.getElem_cons_succ]
  refine wpAnyH_take (i := 30) (v := ?_) rfl (by kernel_rfl) (by kernel_rfl) (by kernel_rfl) (fun _ _ _ h => h) (Or.inl ⟨by rfl, ?_⟩) (by assumption) ?_
  rotate_left
  · intro w hSw
    (try dsimp only at hSw)
    go_simp
    try with_reducible rfl
  try simp only [Act.put, List.setIfInBounds_toArray, List.set_cons_zero, List.set_cons_succ, List.getElem_toArray, List.getElem_cons_zero, List.getElem_cons_succ]
  refine wpAnyH_take (i := 31) (v := ?_) rfl (by kernel_rfl) (by kernel_rfl) (by kernel_rfl) (fun _ _ _ h => h) (Or.inl ⟨by rfl, ?_⟩) (by assumption) ?_
  rotate_left
  · intro w hSw
    (try dsimp only at hSw)
    go_simp
    try with_reducible rfl
  try simp only [Act.put, List.setIfInBounds_toArray, List.set_cons_zero, List.set_cons_succ, List.getElem_toArray, List.getElem_cons_zero, List.getElem_cons_succ]
  refine wpAnyH_take (i := 32) (v := ?_) rfl (by kernel_rfl) (by kernel_rfl) (by kernel_rfl) (fun _ _ _ h => h) (Or.inl ⟨by rfl, ?_⟩) (by assumption) ?_
  rotate_left
  · intro w hSw
    (try dsimp only at hSw)
    go_simp
    try with_reducible rfl
  try simp only [Act.put, List.setIfInBounds_toArray, List.set_cons_zero, List.set_cons_succ, List.getElem_toArray, List.getElem_cons_zero, List.getElem_cons_succ]
  refine wpAnyH_take (i := 33) (v := ?_) rfl (by kernel_rfl) (by kernel_rfl) (by kernel_rfl) (fun _ _ _ h => h) (Or.inl ⟨by rfl, ?_⟩) (by assumption) ?_
  rotate_left
  · intro w hSw
    (try dsimp only at hSw)
    go_simp
    try with_reducible rfl
  try simp only [Act.put, List.setIfInBounds_toArray, List.set_cons_zero, List.set_cons_succ, List.getElem_toArray, List.getElem_cons_zero, List.getElem_cons_succ]
  refine wpAnyH_take (i := 34) (v := ?_) rfl (by kernel_rfl) (by kernel_rfl) (by kernel_rfl) (fun _ _ _ h => h) (Or.inl ⟨by rfl, ?_⟩) (by assumption) ?_
  rotate_left
  · intro w hSw
    (try dsimp only at hSw)
    go_simp
    try with_reducible rfl
  try simp only [Act.put, List.setIfInBounds_toArray, List.set_cons_zero, List.set_cons_succ, List.getElem_toArray, List.getElem_cons_zero, List.getElem_cons_succ]
  refine wpAnyH_take (i := 35) (v := ?_) rfl (by kernel_rfl) (by kernel_rfl) (by kernel_rfl) (fun _ _ _ h => h) (Or.inl ⟨by rfl, ?_⟩) (by assumption) ?_
  rotate_left
  · intro w hSw
    (try dsimp only at hSw)
    go_simp
    try with_reducible rfl
  try simp only [Act.put, List.setIfInBounds_toArray, List.set_cons_zero, List.set_cons_succ, List.getElem_toArray, List.getElem_cons_zero, List.getElem_cons_succ]
  refine wpAnyH_take (i := 36) (v := ?_) rfl (by kernel_rfl) (by kernel_rfl) (by kernel_rfl) (fun _ _ _ h => h) (Or.inl ⟨by rfl, ?_⟩) (by assumption) ?_
  rotate_left
  · intro w hSw
    (try dsimp only at hSw)
    go_simp
    try with_reducible rfl
  try simp only [Act.put, List.setIfInBounds_toArray, List.set_cons_zero, List.set_cons_succ, List.getElem_toArray, List.getElem_cons_zero, List.getElem_cons_succ]
  refine wpAnyH_take (i := 37) (v := ?_) rfl (by kernel_rfl) (by kernel_rfl) (by kernel_rfl) (fun _ _ _ h => h) (Or.inl ⟨by rfl, ?_⟩) (by assumption) ?_
  rotate_left
  · intro w hSw
    (try dsimp only at hSw)
    go_simp
    try with_reducible rfl
  try simp only [Act.put, List.setIfInBounds_toArray, List.set_cons_zero, List.set_cons_succ, List.getElem_toArray, List.getElem_cons_zero, List.getElem_cons_succ]
  refine wpAnyH_take (i := 38) (v := ?_) rfl (by kernel_rfl) (by kernel_rfl) (by kernel_rfl) (fun _ _ _ h => h) (Or.inl ⟨by rfl, ?_⟩) (by assumption) ?_
  rotate_left
  · intro w hSw
    (try dsimp only at hSw)
    go_simp
    try with_reducible rfl
  try simp only [Act.put, List.setIfInBounds_toArray, List.set_cons_zero, List.set_cons_succ, List.getElem_toArray, List.getElem_cons_zero, List.getElem_cons_succ]
  refine wpAnyH_take (i := 39) (v := ?_) rfl (by kernel_rfl) (by kernel_rfl) (by kernel_rfl) (fun _ _ _ h => h) (Or.inl ⟨by rfl, ?_⟩) (by assumption) ?_
  rotate_left
  · intro w hSw
    (try dsimp only at hSw)
    go_simp
    try with_reducible rfl
  try simp only [Act.put, List.setIfInBounds_toArray, List.set_cons_zero, List.set_cons_succ, List.getElem_toArray, List.getElem_cons_zero, List.getElem_cons_succ]
  refine wpAnyH_take (i := 40) (v := ?_) rfl (by kernel_rfl) (by kernel_rfl) (by kernel_rfl) (fun _ _ _ h => h) (Or.inl ⟨by rfl, ?_⟩) (by assumption) ?_
  rotate_left
  · intro w hSw
    (try dsimp only at hSw)
    go_simp
    try with_reducible rfl
  try simp only [Act.put, List.setIfInBounds_toArray, List.set_cons_zero, List.set_cons_succ, List.getElem_toArray, List.getElem_cons_zero, List.getElem_cons_succ]
  refine wpAnyH_take (i := 41) (v := ?_) rfl (by kernel_rfl) (by kernel_rfl) (by kernel_rfl) (fun _ _ _ h => h) (Or.inl ⟨by rfl, ?_⟩) (by assumption) ?_
  rotate_left
  · intro w hSw
    (try dsimp only at hSw)
    go_simp
    try with_reducible rfl
  try simp only [Act.put, List.setIfInBounds_toArray, List.set_cons_zero, List.set_cons_succ, List.getElem_toArray, List.getElem_cons_zero, List.getElem_cons_succ]
  refine wpAnyH_take (i := 42) (v := ?_) rfl (by kernel_rfl) (by kernel_rfl) (by kernel_rfl) (fun _ _ _ h => h) (Or.inl ⟨by rfl, ?_⟩) (by assumption) ?_
  rotate_left
  · intro w hSw
    (try dsimp only at hSw)
    go_simp
    try with_reducible rfl
  try simp only [Act.put, List.setIfInBounds_toArray, List.set_cons_zero, List.set_cons_succ, List.getElem_toArray, List.getElem_cons_zero, List.getElem_cons_succ]
  refine wpAnyH_take (i := 43) (v := ?_) rfl (by kernel_rfl) (by kernel_rfl) (by kernel_rfl) (fun _ _ _ h => h) (Or.inl ⟨by rfl, ?_⟩) (by assumption) ?_
  rotate_left
  · intro w hSw
    (try dsimp only at hSw)
    go_simp
    try with_reducible rfl
  try simp only [Act.put, List.setIfInBounds_toArray, List.set_cons_zero, List.set_cons_succ, List.getElem_toArray, List.getElem_cons_zero, List.getElem_cons_succ]
  refine wpAnyH_take (i := 44) (v := ?_) rfl (by kernel_rfl) (by kernel_rfl) (by kernel_rfl) (fun _ _ _ h => h) (Or.inl ⟨by rfl, ?_⟩) (by assumption) ?_
  rotate_left
  · intro w hSw
    (try dsimp only at hSw)
    go_simp
    try with_reducible rfl
  try simp only [Act.put, List.setIfInBounds_toArray, List.set_cons_zero, List.set_cons_succ, List.getElem_toArray, List.getElem_cons_zero, List.getElem_cons_succ]
  refine wpAnyH_done rfl ?_ _
  go_wp2_with fail
  go_ret
  exact ⟨rfl, HBB19.out⟩
end Go.Proofs.YtbpmomedhdmloaaGreatDoor
