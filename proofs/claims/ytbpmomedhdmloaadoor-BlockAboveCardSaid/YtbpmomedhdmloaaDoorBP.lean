/- BlockAbove: the walk. (Printed by tools/mkXBJ.py out of tools/XBP.body.) -/
import Derived.Test.YtbpmomedhdmloaaDoorBC
import Derived.Test.YtbpmomedhdmloaaDoorB8
import Derived.Test.YtbpmomedhdmloaaDoorBO
namespace Go.Proofs.YtbpmomedhdmloaaDoor
set_option linter.unusedSimpArgs false
set_option linter.unusedVariables false
open Go.RowKit Go.Maps

/-- Two blocks made out of two, and what is theirs. -/
structure TwoW (w0 w : World) (gX gY : Nat) (lX lY : List Value) (A1 : Option Addr) (N c1 : Nat) (xs : List (List Value × TxT)) (A2 : Option Addr) (N' c2 : Nat) (ys : List (List Value × TxT)) : Prop where
  x : Bk w gX 31 lX
  y : Bk w gY 31 lY
  ox : w.ownsRow w0.heap.size 47 13 (.slice A1 N c1) N ((xs.map (·.1)).flatten)
  oy : w.ownsRow w0.heap.size 47 13 (.slice A2 N' c2) N' ((ys.map (·.1)).flatten)
  bl : Below w0.heap.size w0 w
  ne : gX ≠ gY
  gx : w0.heap.size ≤ gX
  gy : w0.heap.size ≤ gY
section
variable {w0 w : World} {gX gY : Nat} {lX lY : List Value} {A1 : Option Addr} {N c1 : Nat} {xs : List (List Value × TxT)} {A2 : Option Addr} {N' c2 : Nat} {ys : List (List Value × TxT)}
theorem TwoW.later {w' : World} (T : TwoW w0 w gX gY lX lY A1 N c1 xs A2 N' c2 ys) (hb : Below w.heap.size w w') : TwoW w0 w' gX gY lX lY A1 N c1 xs A2 N' c2 ys :=
  ⟨T.x.later hb, T.y.later hb, own_keep T.ox hb, own_keep T.oy hb, below_then T.bl hb, T.ne, T.gx, T.gy⟩
theorem TwoW.put {w' : World} {l : List Value} (T : TwoW w0 w gX gY lX lY A1 N c1 xs A2 N' c2 ys) (hg : w.grownBy w' (some gX)) (k : Bk w' gX 31 l) : TwoW w0 w' gX gY l lY A1 N c1 xs A2 N' c2 ys :=
  ⟨k, T.y.grown hg (by intro e; injection e with e; have := T.ne; omega), own_only T.ox hg (own_bk_ne T.ox T.x (by decide)), own_only T.oy hg (own_bk_ne T.oy T.x (by decide)), below_only T.bl hg T.bl.size T.gx, T.ne, T.gx, T.gy⟩
theorem TwoW.txs (T : TwoW w0 w gX gY lX lY A1 N c1 xs A2 N' c2 ys) (h : ∀ x ∈ xs, Txg w0 x.1 x.2) : Txs w A1 N xs := ⟨Sl.of_own T.ox, fun x hx => (h x hx).later T.bl⟩
theorem TwoW.tys (T : TwoW w0 w gX gY lX lY A1 N c1 xs A2 N' c2 ys) (h : ∀ x ∈ ys, Txg w0 x.1 x.2) : Txs w A2 N' ys := ⟨Sl.of_own T.oy, fun x hx => (h x hx).later T.bl⟩
theorem TwoW.right {p m : List Int} {h : Int} (T : TwoW w0 w gX gY lX lY A1 N c1 xs A2 N' c2 ys) (e : bkC p h m (.slice A1 N c1) = lX) (hx : ∀ x ∈ xs, Txg w0 x.1 x.2) (hp : DgOk p) (hm : DgOk m) :
    Calls Tryd.prog 12 #[.agg lX.toArray] w fun e w' => e = .returned (.int .i64 (blkE h (xs.map (·.2)))) ∧ Below w.heap.size w w' := by
  rw [← e]; exact right_b w p h m hp hm A1 N c1 xs (T.txs hx)
theorem TwoW.check {p m p' m' : List Int} {h h' : Int} (T : TwoW w0 w gX gY lX lY A1 N c1 xs A2 N' c2 ys) (e : bkC p h m (.slice A1 N c1) = lX) (e' : bkC p' h' m' (.slice A2 N' c2) = lY) (hx : ∀ x ∈ xs, Txg w0 x.1 x.2) (hy : ∀ x ∈ ys, Txg w0 x.1 x.2) (hp : DgOk p) (hm : DgOk m) (hp' : DgOk p') (hm' : DgOk m')
    (hN : N' ≤ 1000) (hl : ∀ x ∈ ys, x.2.b.length ≤ 1073741000 ∧ x.2.s.length ≤ 1073741000) :
    Calls Tryd.prog 13 #[.agg lX.toArray, .agg lY.toArray] w fun e w' => e = .returned (.int .i64 (checkB (blkE h (xs.map (·.2))) p h (nameT p' h' m' N' (ys.map (·.2))) (blkE h' (ys.map (·.2))) h')) ∧ Below w.heap.size w w' := by
  rw [← e, ← e']
  exact check_any w p h m hp hm A1 N c1 xs (T.txs hx) p' h' m' hp' hm' A2 N' c2 ys (T.tys hy) _ (nameT_ok _ _ _ _ _) (fun w' hy' => bnameT_any w' p' h' m' hp' hm' A2 N' c2 ys hy' hN hl)
theorem TwoW.first {m p' m' : List Int} {h' : Int} {l : List Value} (T : TwoW w0 w gX gY lX lY A1 N c1 xs A2 N' c2 ys) (e : bkC zeroD 0 m (.slice none 0 0) = l) (e' : bkC p' h' m' (.slice A2 N' c2) = lY) (hy : ∀ x ∈ ys, Txg w0 x.1 x.2) (hm : DgOk m) (hp' : DgOk p') (hm' : DgOk m')
    (hN : N' ≤ 1000) (hl : ∀ x ∈ ys, x.2.b.length ≤ 1073741000 ∧ x.2.s.length ≤ 1073741000) (hh : 0 ≤ h') :
    Calls Tryd.prog 13 #[.agg l.toArray, .agg lY.toArray] w fun e w' => e = .returned (.int .i64 24) ∧ Below w.heap.size w w' := by
  rw [← e, ← e']
  have h1 := check_any w zeroD 0 m zero_ok hm none 0 0 [] (Txs.nil w) p' h' m' hp' hm' A2 N' c2 ys (T.tys hy) _ (nameT_ok _ _ _ _ _) (fun w' hy' => bnameT_any w' p' h' m' hp' hm' A2 N' c2 ys hy' hN hl)
  have h2 : checkB (blkE 0 (([] : List (List Value × TxT)).map (·.2))) zeroD 0 (nameT p' h' m' N' (ys.map (·.2))) (blkE h' (ys.map (·.2))) h' = 24 := by
    rw [show blkE 0 (([] : List (List Value × TxT)).map (·.2)) = 0 from blk0, checkB, if_neg (by simp), if_pos (Or.inr (Or.inr (by omega)))]
  rw [h2] at h1
  exact h1
theorem TwoW.name {p' m' : List Int} {h' : Int} (T : TwoW w0 w gX gY lX lY A1 N c1 xs A2 N' c2 ys) (e' : bkC p' h' m' (.slice A2 N' c2) = lY) (hy : ∀ x ∈ ys, Txg w0 x.1 x.2) (hp' : DgOk p') (hm' : DgOk m')
    (hN : N' ≤ 1000) (hl : ∀ x ∈ ys, x.2.b.length ≤ 1073741000 ∧ x.2.s.length ≤ 1073741000) :
    Calls Tryd.prog 11 #[.agg lY.toArray] w fun e w' => e = .returned (.tuple #[.agg (dl (nameT p' h' m' N' (ys.map (·.2)))).toArray, .int .i64 (blkE h' (ys.map (·.2)))]) ∧ Below w.heap.size w w' := by
  rw [← e']; exact bnameT_any w p' h' m' hp' hm' A2 N' c2 ys (T.tys hy) hN hl
end
theorem rdg_sz {d : List Int} (h : DgOk d) : (Tryd.prog.info? 22).map (·.size) = some (dl d).length := by rw [dl_len, h.len]; kernel_rfl
theorem firstr (w : World) {m : List Int} {l : List Value} (e : bkC zeroD 0 m (.slice none 0 0) = l) (hm : DgOk m) :
    Calls Tryd.prog 12 #[.agg l.toArray] w fun e w' => e = .returned (.int .i64 0) ∧ Below w.heap.size w w' := by
  rw [← e]
  have h1 := right_b w zeroD 0 m zero_ok hm none 0 0 [] (Txs.nil w)
  rw [show blkE 0 (([] : List (List Value × TxT)).map (·.2)) = 0 from blk0] at h1
  exact h1
theorem checkB_eq {E h' : Int} {D : List Int} : checkB E D (h' + 1) D 0 h' = E := by
  unfold checkB
  by_cases hE : E = 0
  · subst hE; rw [if_neg (by simp), eqL_self, if_neg (by simp)]
  · rw [if_pos hE]
theorem checkB_bad {p D : List Int} {h h' E' : Int} (hE : E' ≠ 0) : checkB 0 p h D E' h' = 24 := by rw [checkB, if_neg (by simp), if_pos (Or.inl hE)]
theorem checkB_no {p D : List Int} {h h' E' : Int} (hE : eqL p D = false) : checkB 0 p h D E' h' = 24 := by rw [checkB, if_neg (by simp), if_pos (Or.inr (Or.inl hE))]
theorem checkB_hi {p D : List Int} {h h' E' : Int} (hE : h ≠ h' + 1) : checkB 0 p h D E' h' = 24 := by rw [checkB, if_neg (by simp), if_pos (Or.inr (Or.inr hE))]
set_option maxRecDepth 20000 in
set_option maxHeartbeats 16000000 in
theorem babove_law (w : World) (p : List Int) (h : Int) (m : List Int) (hp : DgOk p) (hm : DgOk m) (A : Option Addr) (N C : Nat) (xs : List (List Value × TxT)) (hx : Txs w A N xs)
    (hl : ∀ x ∈ xs, x.2.b.length ≤ 140737488355328 ∧ x.2.s.length ≤ 140737488355328)
    (p' : List Int) (h' : Int) (m' : List Int) (hp' : DgOk p') (hm' : DgOk m') (A' : Option Addr) (N' C' : Nat) (ys : List (List Value × TxT)) (hy : Txs w A' N' ys)
    (hl' : ∀ x ∈ ys, x.2.b.length ≤ 140737488355328 ∧ x.2.s.length ≤ 140737488355328)
    (o : List Int) (ho : DgOk o) (ht : Int) (s : ByteArray) :
    Calls Tryd.prog 3 #[.agg (bkC p h m (.slice A N C)).toArray, .agg (bkC p' h' m' (.slice A' N' C')).toArray, .agg (dl o).toArray, .int .i64 ht, .string s] w fun e w' => e = .returned (.bool true) ∧ Below w.heap.size w w' := by
  have HFW := Lib.hid (fun w' (hx' : Txs w' A N xs) => few_any w' p h m hp hm A N C xs hx' hl)
  have HFW' := Lib.hid (fun w' (hx' : Txs w' A' N' ys) => few_any w' p' h' m' hp' hm' A' N' C' ys hx' hl')
  have HOA := Lib.hid (fun (hN : N ≤ 1000) w' (hx' : Txs w' A N xs) => of_any w' p h m hp hm A N C xs hx' hN)
  have HOB := Lib.hid (fun (hN : N' ≤ 1000) w' (hx' : Txs w' A' N' ys) => of_any w' p' h' m' hp' hm' A' N' C' ys hx' hN)
  have HF0 := Lib.hid (bk_fit (h := h) (A := A) (N := N) (C := C) hp hm); have HF0' := Lib.hid (bk_fit (h := h') (A := A') (N := N') (C := C') hp' hm')
  obtain ⟨L, hL⟩ : ∃ L, xs.map (·.2) = L := ⟨_, rfl⟩
  obtain ⟨L', hL'⟩ : ∃ L, ys.map (·.2) = L := ⟨_, rfl⟩
  have HLN : Hid (L.length = N) := by show _ = _; rw [← hL, List.length_map, hx.length]
  have HLN' : Hid (L'.length = N') := by show _ = _; rw [← hL', List.length_map, hy.length]
  rw [hL] at HFW; rw [hL'] at HFW'
  have HLL := Lib.hid hL; have HLL' := Lib.hid hL'
  obtain ⟨l, hl0⟩ : ∃ x, bkC p h m (.slice A N C) = x := ⟨_, rfl⟩
  obtain ⟨X, hX⟩ : ∃ X, l.toArray = X := ⟨_, rfl⟩
  obtain ⟨l', hl0'⟩ : ∃ x, bkC p' h' m' (.slice A' N' C') = x := ⟨_, rfl⟩
  obtain ⟨Y, hY⟩ : ∃ X, l'.toArray = X := ⟨_, rfl⟩
  obtain ⟨O, hO⟩ : ∃ X, (dl o).toArray = X := ⟨_, rfl⟩
  obtain ⟨z, hz⟩ : ∃ z, w.heap.size = z := ⟨_, rfl⟩
  obtain ⟨w1, hw1⟩ : ∃ w1, ((w.alloc (.cells X 25)).alloc (.cells Y 25)).alloc (.cells O 22) = w1 := ⟨_, rfl⟩
  have hb1 : Below w.heap.size w w1 := hw1 ▸ ((below_new w _).alloc (by simp) _).alloc (by simp; omega) _
  have kx : Bk w1 z 25 l := hw1 ▸ ((Bk.at_ w _ X hz (by rw [← hX])).alloc _).alloc _
  have ky : Bk w1 (z + 1) 25 l' := hw1 ▸ (Bk.at_ _ _ Y (by simp [hz]) (by rw [← hY])).alloc _
  have kq : Bk w1 (z + 2) 22 (dl o) := hw1 ▸ Bk.at_ _ _ O (by simp [hz]) (by rw [← hO])
  have hsz1 : w1.heap.size = z + 3 := by rw [← hw1]; simp [hz]
  have HW := Lib.hid hw1; have HBB1 := Lib.hid hb1; have HZ := Lib.hid hz; have HK1 := Lib.hid kx; have HJ1 := Lib.hid ky; have HQ1 := Lib.hid kq; have HPO := Lib.hid hp; have HMO := Lib.hid hm; have HPO' := Lib.hid hp'; have HMO' := Lib.hid hm'; have HXE := Lib.hid hX; have HYE := Lib.hid hY; have HOO := Lib.hid ho
  have HX1 := Lib.hid (hx.later hb1); have HY1 := Lib.hid (hy.later hb1)
  rw [hl0] at HFW HOA HF0 ⊢
  rw [hl0'] at HFW' HOB HF0' ⊢
  rw [hX] at HFW HOA ⊢
  rw [hY] at HFW' HOB ⊢
  rw [hO]
  clear hL hL' hl0 hX hl0' hY hO hz hw1 hb1 kx ky kq hp hm hp' hm' hx hy hl hl' ho
  go_enter Tryd.func3, Tryd.ntmps3
  go_upto_region 1 with fail
  rw [HW.out, HZ.out]
  go_wp2_with fail
  refine (known_any w1).mono ?_
  rintro e w2 ⟨rfl, hbn⟩
  have HZ2 : Hid (z + 3 ≤ w2.heap.size) := by have := hbn.size; show z + 3 ≤ _; omega
  have HBB2 := Lib.hid (below_then HBB1.out hbn)
  have HK2 := Lib.hid (HK1.out.later hbn)
  have HJ2 := Lib.hid (HJ1.out.later hbn)
  have HQ2 := Lib.hid (HQ1.out.later hbn)
  have HX2 := Lib.hid (HX1.out.later hbn)
  have HY2 := Lib.hid (HY1.out.later hbn)
  clear hbn
  clear hsz1
  go_wp2_with ((with_reducible refine wpList_load_bkG2 ?_ 25 _ rfl z rfl l 25 HK2.out _ Tryd.underlying25 rfl HF0.out.rsize ?_); rfl)
  rw [HXE.out]
  refine (HFW.out w2 HX2.out).mono ?_
  rintro e wa ⟨rfl, hbn⟩
  have HZa : Hid (z + 3 ≤ wa.heap.size) := Nat.le_trans HZ2.out hbn.size
  have HBBa := Lib.hid (below_then HBB2.out hbn)
  have HKa := Lib.hid (HK2.out.later hbn)
  have HJa := Lib.hid (HJ2.out.later hbn)
  have HQa := Lib.hid (HQ2.out.later hbn)
  have HXa := Lib.hid (HX2.out.later hbn)
  have HYa := Lib.hid (HY2.out.later hbn)
  clear hbn
  obtain ⟨fw, hfw⟩ : ∃ b, fewT L = b := ⟨_, rfl⟩
  rw [hfw]
  have HFE := Lib.hid hfw
  clear hfw HK1 HK2 HJ1 HJ2 HQ1 HQ2 HX1 HX2 HY1 HY2
  cases fw
  · go_wp2_with fail
    refine (known_any wa).mono ?_
    rintro e w4 ⟨rfl, hbn⟩
    go_wp2_with fail
    go_ret
    exact ⟨rfl, below_then HBBa.out hbn⟩
  go_wp2_with ((with_reducible refine wpList_load_bkG2 ?_ 25 _ rfl (z + 1) rfl l' 25 HJa.out _ Tryd.underlying25 rfl HF0'.out.rsize ?_); rfl)
  rw [HYE.out]
  refine (HFW'.out wa HYa.out).mono ?_
  rintro e w3 ⟨rfl, hbn⟩
  have HZW3 : Hid (z + 3 ≤ w3.heap.size) := Nat.le_trans HZa.out hbn.size
  have HZW : Hid (z + 2 ≤ w3.heap.size) := by have := HZW3.out; show z + 2 ≤ _; omega
  have HBB3 := Lib.hid (below_then HBBa.out hbn)
  have HK3 := Lib.hid (HKa.out.later hbn)
  have HJ3 := Lib.hid (HJa.out.later hbn)
  have HQ3 := Lib.hid (HQa.out.later hbn)
  have HX3 := Lib.hid (HXa.out.later hbn)
  have HY3 := Lib.hid (HYa.out.later hbn)
  clear hbn
  obtain ⟨fw, hfw⟩ : ∃ b, fewT L' = b := ⟨_, rfl⟩
  rw [hfw]
  have HFE' := Lib.hid hfw
  clear hfw HKa HJa HQa HXa HYa
  cases fw
  · go_wp2_with fail
    refine (known_any w3).mono ?_
    rintro e w4 ⟨rfl, hbn⟩
    go_wp2_with fail
    go_ret
    exact ⟨rfl, below_then HBB3.out hbn⟩
  by_cases hbig : (400 : Int) < s.size
  · go_wp2_with fail
    refine (known_any w3).mono ?_
    rintro e w4 ⟨rfl, hbn⟩
    go_wp2_with fail
    go_ret
    exact ⟨rfl, below_then HBB3.out hbn⟩
  have HSS : Hid (s.size ≤ 400) := by show _ ≤ 400; omega
  have HN : Hid (N ≤ 66) := by have := few_len HFE.out; rw [HLN.out] at this; exact this
  have HN' : Hid (N' ≤ 66) := by have := few_len HFE'.out; rw [HLN'.out] at this; exact this
  have HEA : Hid (∀ x ∈ ys, x.2.b.length ≤ 1073741000 ∧ x.2.s.length ≤ 1073741000) := fun x hx => by
    have := few_each HFE'.out x.2 (by rw [← HLL'.out]; exact List.mem_map_of_mem hx)
    omega
  have HOA := Lib.hid (HOA.out (by have := HN.out; omega)); have HOB := Lib.hid (HOB.out (by have := HN'.out; omega))
  go_wp2_with fail
  clear hbig
  go_cut [11, 12] (fun p1 p2 wx => ∃ gX gY P1 P3 q1 q3, p1 = .pointer (some ⟨gX, 0, none⟩) ∧ p2 = .pointer (some ⟨gY, 0, none⟩) ∧ TwoW w3 wx gX gY (bkC p h m (.slice P1 N q1)) (bkC p' h' m' (.slice P3 N' q3)) P1 N q1 xs P3 N' q3 ys)
  case first =>
    refine wp_region_held_drew (S := fun w' => Bk w' z 25 l ∧ Bk w' (z + 1) 25 l') (by kernel_rfl) ⟨Bk.drew HK3.out, Bk.drew HJ3.out⟩ (fun hHeld => ?_)
    have hbd : Below w3.heap.size w3 w3.drew := below_draws w3 w3.heap.size 1
    obtain ⟨y0, hy0⟩ : ∃ wa, w3.drew = wa := ⟨_, rfl⟩
    rw [hy0] at hbd hHeld ⊢
    have HBy0 := Lib.hid hbd; have HKy0 := Lib.hid (HK3.out.later hbd); have HXy0 := Lib.hid (HX3.out.later hbd); have HYy0 := Lib.hid (HY3.out.later hbd); have HJy0 := Lib.hid (HJ3.out.later hbd)
    clear hy0 hbd
    refine wpAnyH_take (i := 0) (v := .agg (List.toArray (l))) rfl (by kernel_rfl) (by kernel_rfl) (by kernel_rfl) (fun _ _ _ h => h) (yieldsIf_load_mid (by rfl) _ _ rfl _ _ rfl (l) _ (fun w hSw => (Bk.range (pre := []) (post := []) (by simpa using hSw.1) rfl)) Tryd.underlying25 rfl (HF0.out.rsize)) (by assumption) ?_
    try simp only [Act.put, List.setIfInBounds_toArray, List.set_cons_zero, List.set_cons_succ, List.getElem_toArray, List.getElem_cons_zero, List.getElem_cons_succ]
    refine wpAnyH_take (i := 2) (v := .agg (List.toArray (l'))) rfl (by kernel_rfl) (by kernel_rfl) (by kernel_rfl) (fun _ _ _ h => h) (yieldsIf_load_mid (by rfl) _ _ rfl _ _ rfl (l') _ (fun w hSw => (Bk.range (pre := []) (post := []) (by simpa using hSw.2) rfl)) Tryd.underlying25 rfl (HF0'.out.rsize)) (by assumption) ?_
    try simp only [Act.put, List.setIfInBounds_toArray, List.set_cons_zero, List.set_cons_succ, List.getElem_toArray, List.getElem_cons_zero, List.getElem_cons_succ]
    as_aux_lemma =>
    refine wpAnyH_ready (rs := [1, 4, 5]) (by kernel_rfl) (by simp) ?_
    refine (AllReadyH.cons rfl (fun K hK => ?_) (AllReadyH.cons rfl (fun K hK => ?_) (AllReadyH.cons rfl (fun K hK => ?_) AllReadyH.nil)))
    ·
      go_simp
      rw [HXE.out]
      refine (HOA.out y0 HXy0.out).mono ?_
      rintro e y1a ⟨⟨v1, rfl, hown⟩, hbn⟩
      obtain ⟨P1, q1, rfl⟩ := own_form hown
      obtain ⟨y1, hy⟩ : ∃ y, y1a = y := ⟨_, rfl⟩
      have hbd : Below y1a.heap.size y1a y1 := hy ▸ Below.refl _ _
      have hsl := own_base (own_keep hown hbd) HBy0.out.size
      have hbn := below_then hbn hbd
      have HBy1 := Lib.hid (below_then HBy0.out hbn); have HKy1 := Lib.hid (HKy0.out.later hbn); have HJy1 := Lib.hid (HJy0.out.later hbn); have HXy1 := Lib.hid (HXy0.out.later hbn); have HYy1 := Lib.hid (HYy0.out.later hbn)
      have HO1y1 := Lib.hid hsl
      rw [hy]
      refine hK.out _ _ ⟨HKy1.out, HJy1.out⟩ (fun hHeld => ?_)
      clear hK K hown hbn hbd hy hsl
      try simp only [Act.put, List.setIfInBounds_toArray, List.set_cons_zero, List.set_cons_succ, List.getElem_toArray, List.getElem_cons_zero, List.getElem_cons_succ]
      refine wpAnyH_ready (rs := [3, 4, 5]) (by kernel_rfl) (by simp) ?_
      refine (AllReadyH.cons rfl (fun K hK => ?_) (AllReadyH.cons rfl (fun K hK => ?_) (AllReadyH.cons rfl (fun K hK => ?_) AllReadyH.nil)))
      ·
        go_simp
        rw [HYE.out]
        refine (HOB.out y1 HYy1.out).mono ?_
        rintro e y2a ⟨⟨v3, rfl, hown⟩, hbn⟩
        obtain ⟨P3, q3, rfl⟩ := own_form hown
        obtain ⟨y2, hy⟩ : ∃ y, y2a = y := ⟨_, rfl⟩
        have hbd : Below y2a.heap.size y2a y2 := hy ▸ Below.refl _ _
        have hsl := own_base (own_keep hown hbd) HBy1.out.size
        have hbn := below_then hbn hbd
        have HBy2 := Lib.hid (below_then HBy1.out hbn); have HKy2 := Lib.hid (HKy1.out.later hbn); have HJy2 := Lib.hid (HJy1.out.later hbn); have HXy2 := Lib.hid (HXy1.out.later hbn); have HYy2 := Lib.hid (HYy1.out.later hbn)
        have HO1y2 := Lib.hid (own_keep HO1y1.out hbn)
        have HO3y2 := Lib.hid hsl
        rw [hy]
        refine hK.out _ _ ⟨HKy2.out, HJy2.out⟩ (fun hHeld => ?_)
        clear hK K hown hbn hbd hy hsl
        try simp only [Act.put, List.setIfInBounds_toArray, List.set_cons_zero, List.set_cons_succ, List.getElem_toArray, List.getElem_cons_zero, List.getElem_cons_succ]
        refine wpAnyH_ready (rs := [4, 5]) (by kernel_rfl) (by simp) ?_
        refine (AllReadyH.cons rfl (fun K hK => ?_) (AllReadyH.cons rfl (fun K hK => ?_) AllReadyH.nil))
        ·
          go_simp
          obtain ⟨g4, hg⟩ : ∃ g, y2.heap.size = g := ⟨_, rfl⟩
          obtain ⟨y3, hy⟩ : ∃ y, (y2.alloc (.cells #[.int .u8 0, .int .u8 0, .int .u8 0, .int .u8 0, .int .u8 0, .int .u8 0, .int .u8 0, .int .u8 0, .int .i64 0, .int .u8 0, .int .u8 0, .int .u8 0, .int .u8 0, .int .u8 0, .int .u8 0, .int .u8 0, .int .u8 0, .slice none 0 0] 31)) = y := ⟨_, rfl⟩
          have hbn : Below y2.heap.size y2 y3 := hy ▸ (below_new y2 _)
          have HBy3 := Lib.hid (below_then HBy2.out hbn); have HKy3 := Lib.hid (HKy2.out.later hbn); have HJy3 := Lib.hid (HJy2.out.later hbn); have HXy3 := Lib.hid (HXy2.out.later hbn); have HYy3 := Lib.hid (HYy2.out.later hbn)
          have HO1y3 := Lib.hid (own_keep HO1y2.out hbn)
          have HO3y3 := Lib.hid (own_keep HO3y2.out hbn)
          have HZ4y3 : Hid (Bk y3 g4 31 zBk) := hy ▸ (Bk.at_ y2 _ #[.int .u8 0, .int .u8 0, .int .u8 0, .int .u8 0, .int .u8 0, .int .u8 0, .int .u8 0, .int .u8 0, .int .i64 0, .int .u8 0, .int .u8 0, .int .u8 0, .int .u8 0, .int .u8 0, .int .u8 0, .int .u8 0, .int .u8 0, .slice none 0 0] hg rfl)
          have HG4 : Hid (w3.heap.size ≤ g4) := by show _ ≤ _; rw [← hg]; exact HBy2.out.size
          rw [hy, hg]
          refine hK.out _ _ ⟨HKy3.out, HJy3.out⟩ (fun hHeld => ?_)
          clear hK K hbn hy hg
          try simp only [Act.put, List.setIfInBounds_toArray, List.set_cons_zero, List.set_cons_succ, List.getElem_toArray, List.getElem_cons_zero, List.getElem_cons_succ]
          refine wpAnyH_ready (rs := [5]) (by kernel_rfl) (by simp) ?_
          refine (AllReadyH.cons rfl (fun K hK => ?_) AllReadyH.nil)
          go_simp
          obtain ⟨g5, hg⟩ : ∃ g, y3.heap.size = g := ⟨_, rfl⟩
          obtain ⟨y4, hy⟩ : ∃ y, (y3.alloc (.cells #[.int .u8 0, .int .u8 0, .int .u8 0, .int .u8 0, .int .u8 0, .int .u8 0, .int .u8 0, .int .u8 0, .int .i64 0, .int .u8 0, .int .u8 0, .int .u8 0, .int .u8 0, .int .u8 0, .int .u8 0, .int .u8 0, .int .u8 0, .slice none 0 0] 31)) = y := ⟨_, rfl⟩
          have hbn : Below y3.heap.size y3 y4 := hy ▸ (below_new y3 _)
          have HBy4 := Lib.hid (below_then HBy3.out hbn); have HKy4 := Lib.hid (HKy3.out.later hbn); have HJy4 := Lib.hid (HJy3.out.later hbn); have HXy4 := Lib.hid (HXy3.out.later hbn); have HYy4 := Lib.hid (HYy3.out.later hbn)
          have HO1y4 := Lib.hid (own_keep HO1y3.out hbn)
          have HO3y4 := Lib.hid (own_keep HO3y3.out hbn)
          have HZ4y4 := Lib.hid (HZ4y3.out.later hbn)
          have HZ5y4 : Hid (Bk y4 g5 31 zBk) := hy ▸ (Bk.at_ y3 _ #[.int .u8 0, .int .u8 0, .int .u8 0, .int .u8 0, .int .u8 0, .int .u8 0, .int .u8 0, .int .u8 0, .int .i64 0, .int .u8 0, .int .u8 0, .int .u8 0, .int .u8 0, .int .u8 0, .int .u8 0, .int .u8 0, .int .u8 0, .slice none 0 0] hg rfl)
          have HG5 : Hid (w3.heap.size ≤ g5) := by show _ ≤ _; rw [← hg]; exact HBy3.out.size
          have HNE : Hid (g4 ≠ g5) := by have := HZ4y3.out.lt; show g4 ≠ g5; omega
          rw [hy, hg]
          refine hK.out _ _ ⟨HKy4.out, HJy4.out⟩ (fun hHeld => ?_)
          clear hK K hbn hy hg
          try simp only [Act.put, List.setIfInBounds_toArray, List.set_cons_zero, List.set_cons_succ, List.getElem_toArray, List.getElem_cons_zero, List.getElem_cons_succ]
          as_aux_lemma =>
          have HF1 : Hid (BkFit (bkC p h m (.slice P1 N q1))) := bk_fit HPO.out HMO.out
          have HF3 : Hid (BkFit (bkC p' h' m' (.slice P3 N' q3))) := bk_fit HPO'.out HMO'.out
          refine wpAnyH_ready (rs := [6]) (by kernel_rfl) (by simp) ?_
          refine AllReadyH.cons rfl (fun K hK => ?_) AllReadyH.nil
          rw [if_pos (by rfl)]
          refine wp_store_part _ _ _ rfl g4 0 _ (bkC p h m (.slice P1 N q1)) rfl rfl rfl _ ([]) (zBk) ([]) (by simpa using HZ4y4.out) rfl (by rw [HF1.out.len]; rfl) HF1.out.size HF1.out.one ?_
          intro wd hp
          refine hK.out _ _ ⟨HKy4.out.grown hp.only (by intro e; injection e with e; have := HG4.out; have := HZW.out; omega), HJy4.out.grown hp.only (by intro e; injection e with e; have := HG4.out; have := HZW.out; omega)⟩ (fun hHeld => ?_)
          clear hK K
          try simp only [Act.put, List.setIfInBounds_toArray, List.set_cons_zero, List.set_cons_succ, List.getElem_toArray, List.getElem_cons_zero, List.getElem_cons_succ]
          have hb4 : Below w3.heap.size w3 wd := below_only HBy4.out hp.only HBy4.out.size HG4.out
          have k4 : Bk wd g4 31 (bkC p h m (.slice P1 N q1)) := by have := hp.bk; simpa using this
          have k5 : Bk wd g5 31 zBk := HZ5y4.out.grown hp.only (by intro e; injection e with e; have := HNE.out; omega)
          have kz : Bk wd z 25 l := HKy4.out.grown hp.only (by intro e; injection e with e; have := HG4.out; have := HZW.out; omega)
          have kj : Bk wd (z + 1) 25 l' := HJy4.out.grown hp.only (by intro e; injection e with e; have := HG4.out; have := HZW.out; omega)
          have o1 := own_only HO1y4.out hp.only (own_bk_ne HO1y4.out HZ4y4.out (by decide))
          have o3 := own_only HO3y4.out hp.only (own_bk_ne HO3y4.out HZ4y4.out (by decide))
          clear hp
          refine wpAnyH_ready (rs := [7]) (by kernel_rfl) (by simp) ?_
          refine AllReadyH.cons rfl (fun K hK => ?_) AllReadyH.nil
          rw [if_pos (by rfl)]
          refine wp_store_part _ _ _ rfl g5 0 _ (bkC p' h' m' (.slice P3 N' q3)) rfl rfl rfl _ ([]) (zBk) ([]) (by simpa using k5) rfl (by rw [HF3.out.len]; rfl) HF3.out.size HF3.out.one ?_
          intro we hp
          refine hK.out _ _ ⟨kz.grown hp.only (by intro e; injection e with e; have := HG5.out; have := HZW.out; omega), kj.grown hp.only (by intro e; injection e with e; have := HG5.out; have := HZW.out; omega)⟩ (fun hHeld => ?_)
          clear hK K
          try simp only [Act.put, List.setIfInBounds_toArray, List.set_cons_zero, List.set_cons_succ, List.getElem_toArray, List.getElem_cons_zero, List.getElem_cons_succ]
          have k5' := k5
          have hb5 : Below w3.heap.size w3 we := below_only hb4 hp.only hb4.size HG5.out
          have k5 : Bk we g5 31 (bkC p' h' m' (.slice P3 N' q3)) := by have := hp.bk; simpa using this
          have k4 : Bk we g4 31 (bkC p h m (.slice P1 N q1)) := k4.grown hp.only (by intro e; injection e with e; have := HNE.out; omega)
          have o1 := own_only o1 hp.only (own_bk_ne o1 k5' (by decide))
          have o3 := own_only o3 hp.only (own_bk_ne o3 k5' (by decide))
          clear hp
          refine wpAnyH_done rfl ?_ _
          go_wp2_with fail
          go_meet
          exact ⟨g4, g5, P1, P3, q1, q3, rfl, rfl, ⟨k4, k5, o1, o3, hb5, HNE.out, HG4.out, HG5.out⟩⟩
        ·
          go_simp
          obtain ⟨g5, hg⟩ : ∃ g, y2.heap.size = g := ⟨_, rfl⟩
          obtain ⟨y5, hy⟩ : ∃ y, (y2.alloc (.cells #[.int .u8 0, .int .u8 0, .int .u8 0, .int .u8 0, .int .u8 0, .int .u8 0, .int .u8 0, .int .u8 0, .int .i64 0, .int .u8 0, .int .u8 0, .int .u8 0, .int .u8 0, .int .u8 0, .int .u8 0, .int .u8 0, .int .u8 0, .slice none 0 0] 31)) = y := ⟨_, rfl⟩
          have hbn : Below y2.heap.size y2 y5 := hy ▸ (below_new y2 _)
          have HBy5 := Lib.hid (below_then HBy2.out hbn); have HKy5 := Lib.hid (HKy2.out.later hbn); have HJy5 := Lib.hid (HJy2.out.later hbn); have HXy5 := Lib.hid (HXy2.out.later hbn); have HYy5 := Lib.hid (HYy2.out.later hbn)
          have HO1y5 := Lib.hid (own_keep HO1y2.out hbn)
          have HO3y5 := Lib.hid (own_keep HO3y2.out hbn)
          have HZ5y5 : Hid (Bk y5 g5 31 zBk) := hy ▸ (Bk.at_ y2 _ #[.int .u8 0, .int .u8 0, .int .u8 0, .int .u8 0, .int .u8 0, .int .u8 0, .int .u8 0, .int .u8 0, .int .i64 0, .int .u8 0, .int .u8 0, .int .u8 0, .int .u8 0, .int .u8 0, .int .u8 0, .int .u8 0, .int .u8 0, .slice none 0 0] hg rfl)
          have HG5 : Hid (w3.heap.size ≤ g5) := by show _ ≤ _; rw [← hg]; exact HBy2.out.size
          rw [hy, hg]
          refine hK.out _ _ ⟨HKy5.out, HJy5.out⟩ (fun hHeld => ?_)
          clear hK K hbn hy hg
          try simp only [Act.put, List.setIfInBounds_toArray, List.set_cons_zero, List.set_cons_succ, List.getElem_toArray, List.getElem_cons_zero, List.getElem_cons_succ]
          refine wpAnyH_ready (rs := [4]) (by kernel_rfl) (by simp) ?_
          refine (AllReadyH.cons rfl (fun K hK => ?_) AllReadyH.nil)
          go_simp
          obtain ⟨g4, hg⟩ : ∃ g, y5.heap.size = g := ⟨_, rfl⟩
          obtain ⟨y6, hy⟩ : ∃ y, (y5.alloc (.cells #[.int .u8 0, .int .u8 0, .int .u8 0, .int .u8 0, .int .u8 0, .int .u8 0, .int .u8 0, .int .u8 0, .int .i64 0, .int .u8 0, .int .u8 0, .int .u8 0, .int .u8 0, .int .u8 0, .int .u8 0, .int .u8 0, .int .u8 0, .slice none 0 0] 31)) = y := ⟨_, rfl⟩
          have hbn : Below y5.heap.size y5 y6 := hy ▸ (below_new y5 _)
          have HBy6 := Lib.hid (below_then HBy5.out hbn); have HKy6 := Lib.hid (HKy5.out.later hbn); have HJy6 := Lib.hid (HJy5.out.later hbn); have HXy6 := Lib.hid (HXy5.out.later hbn); have HYy6 := Lib.hid (HYy5.out.later hbn)
          have HO1y6 := Lib.hid (own_keep HO1y5.out hbn)
          have HO3y6 := Lib.hid (own_keep HO3y5.out hbn)
          have HZ5y6 := Lib.hid (HZ5y5.out.later hbn)
          have HZ4y6 : Hid (Bk y6 g4 31 zBk) := hy ▸ (Bk.at_ y5 _ #[.int .u8 0, .int .u8 0, .int .u8 0, .int .u8 0, .int .u8 0, .int .u8 0, .int .u8 0, .int .u8 0, .int .i64 0, .int .u8 0, .int .u8 0, .int .u8 0, .int .u8 0, .int .u8 0, .int .u8 0, .int .u8 0, .int .u8 0, .slice none 0 0] hg rfl)
          have HG4 : Hid (w3.heap.size ≤ g4) := by show _ ≤ _; rw [← hg]; exact HBy5.out.size
          have HNE : Hid (g4 ≠ g5) := by have := HZ5y5.out.lt; show g4 ≠ g5; omega
          rw [hy, hg]
          refine hK.out _ _ ⟨HKy6.out, HJy6.out⟩ (fun hHeld => ?_)
          clear hK K hbn hy hg
          try simp only [Act.put, List.setIfInBounds_toArray, List.set_cons_zero, List.set_cons_succ, List.getElem_toArray, List.getElem_cons_zero, List.getElem_cons_succ]
          as_aux_lemma =>
          have HF1 : Hid (BkFit (bkC p h m (.slice P1 N q1))) := bk_fit HPO.out HMO.out
          have HF3 : Hid (BkFit (bkC p' h' m' (.slice P3 N' q3))) := bk_fit HPO'.out HMO'.out
          refine wpAnyH_ready (rs := [6]) (by kernel_rfl) (by simp) ?_
          refine AllReadyH.cons rfl (fun K hK => ?_) AllReadyH.nil
          rw [if_pos (by rfl)]
          refine wp_store_part _ _ _ rfl g4 0 _ (bkC p h m (.slice P1 N q1)) rfl rfl rfl _ ([]) (zBk) ([]) (by simpa using HZ4y6.out) rfl (by rw [HF1.out.len]; rfl) HF1.out.size HF1.out.one ?_
          intro wd hp
          refine hK.out _ _ ⟨HKy6.out.grown hp.only (by intro e; injection e with e; have := HG4.out; have := HZW.out; omega), HJy6.out.grown hp.only (by intro e; injection e with e; have := HG4.out; have := HZW.out; omega)⟩ (fun hHeld => ?_)
          clear hK K
          try simp only [Act.put, List.setIfInBounds_toArray, List.set_cons_zero, List.set_cons_succ, List.getElem_toArray, List.getElem_cons_zero, List.getElem_cons_succ]
          have hb4 : Below w3.heap.size w3 wd := below_only HBy6.out hp.only HBy6.out.size HG4.out
          have k4 : Bk wd g4 31 (bkC p h m (.slice P1 N q1)) := by have := hp.bk; simpa using this
          have k5 : Bk wd g5 31 zBk := HZ5y6.out.grown hp.only (by intro e; injection e with e; have := HNE.out; omega)
          have kz : Bk wd z 25 l := HKy6.out.grown hp.only (by intro e; injection e with e; have := HG4.out; have := HZW.out; omega)
          have kj : Bk wd (z + 1) 25 l' := HJy6.out.grown hp.only (by intro e; injection e with e; have := HG4.out; have := HZW.out; omega)
          have o1 := own_only HO1y6.out hp.only (own_bk_ne HO1y6.out HZ4y6.out (by decide))
          have o3 := own_only HO3y6.out hp.only (own_bk_ne HO3y6.out HZ4y6.out (by decide))
          clear hp
          refine wpAnyH_ready (rs := [7]) (by kernel_rfl) (by simp) ?_
          refine AllReadyH.cons rfl (fun K hK => ?_) AllReadyH.nil
          rw [if_pos (by rfl)]
          refine wp_store_part _ _ _ rfl g5 0 _ (bkC p' h' m' (.slice P3 N' q3)) rfl rfl rfl _ ([]) (zBk) ([]) (by simpa using k5) rfl (by rw [HF3.out.len]; rfl) HF3.out.size HF3.out.one ?_
          intro we hp
          refine hK.out _ _ ⟨kz.grown hp.only (by intro e; injection e with e; have := HG5.out; have := HZW.out; omega), kj.grown hp.only (by intro e; injection e with e; have := HG5.out; have := HZW.out; omega)⟩ (fun hHeld => ?_)
          clear hK K
          try simp only [Act.put, List.setIfInBounds_toArray, List.set_cons_zero, List.set_cons_succ, List.getElem_toArray, List.getElem_cons_zero, List.getElem_cons_succ]
          have k5' := k5
          have hb5 : Below w3.heap.size w3 we := below_only hb4 hp.only hb4.size HG5.out
          have k5 : Bk we g5 31 (bkC p' h' m' (.slice P3 N' q3)) := by have := hp.bk; simpa using this
          have k4 : Bk we g4 31 (bkC p h m (.slice P1 N q1)) := k4.grown hp.only (by intro e; injection e with e; have := HNE.out; omega)
          have o1 := own_only o1 hp.only (own_bk_ne o1 k5' (by decide))
          have o3 := own_only o3 hp.only (own_bk_ne o3 k5' (by decide))
          clear hp
          refine wpAnyH_done rfl ?_ _
          go_wp2_with fail
          go_meet
          exact ⟨g4, g5, P1, P3, q1, q3, rfl, rfl, ⟨k4, k5, o1, o3, hb5, HNE.out, HG4.out, HG5.out⟩⟩
      ·
        go_simp
        obtain ⟨g4, hg⟩ : ∃ g, y1.heap.size = g := ⟨_, rfl⟩
        obtain ⟨y7, hy⟩ : ∃ y, (y1.alloc (.cells #[.int .u8 0, .int .u8 0, .int .u8 0, .int .u8 0, .int .u8 0, .int .u8 0, .int .u8 0, .int .u8 0, .int .i64 0, .int .u8 0, .int .u8 0, .int .u8 0, .int .u8 0, .int .u8 0, .int .u8 0, .int .u8 0, .int .u8 0, .slice none 0 0] 31)) = y := ⟨_, rfl⟩
        have hbn : Below y1.heap.size y1 y7 := hy ▸ (below_new y1 _)
        have HBy7 := Lib.hid (below_then HBy1.out hbn); have HKy7 := Lib.hid (HKy1.out.later hbn); have HJy7 := Lib.hid (HJy1.out.later hbn); have HXy7 := Lib.hid (HXy1.out.later hbn); have HYy7 := Lib.hid (HYy1.out.later hbn)
        have HO1y7 := Lib.hid (own_keep HO1y1.out hbn)
        have HZ4y7 : Hid (Bk y7 g4 31 zBk) := hy ▸ (Bk.at_ y1 _ #[.int .u8 0, .int .u8 0, .int .u8 0, .int .u8 0, .int .u8 0, .int .u8 0, .int .u8 0, .int .u8 0, .int .i64 0, .int .u8 0, .int .u8 0, .int .u8 0, .int .u8 0, .int .u8 0, .int .u8 0, .int .u8 0, .int .u8 0, .slice none 0 0] hg rfl)
        have HG4 : Hid (w3.heap.size ≤ g4) := by show _ ≤ _; rw [← hg]; exact HBy1.out.size
        rw [hy, hg]
        refine hK.out _ _ ⟨HKy7.out, HJy7.out⟩ (fun hHeld => ?_)
        clear hK K hbn hy hg
        try simp only [Act.put, List.setIfInBounds_toArray, List.set_cons_zero, List.set_cons_succ, List.getElem_toArray, List.getElem_cons_zero, List.getElem_cons_succ]
        refine wpAnyH_ready (rs := [3, 5]) (by kernel_rfl) (by simp) ?_
        refine (AllReadyH.cons rfl (fun K hK => ?_) (AllReadyH.cons rfl (fun K hK => ?_) AllReadyH.nil))
        ·
          go_simp
          rw [HYE.out]
          refine (HOB.out y7 HYy7.out).mono ?_
          rintro e y8a ⟨⟨v3, rfl, hown⟩, hbn⟩
          obtain ⟨P3, q3, rfl⟩ := own_form hown
          obtain ⟨y8, hy⟩ : ∃ y, y8a = y := ⟨_, rfl⟩
          have hbd : Below y8a.heap.size y8a y8 := hy ▸ Below.refl _ _
          have hsl := own_base (own_keep hown hbd) HBy7.out.size
          have hbn := below_then hbn hbd
          have HBy8 := Lib.hid (below_then HBy7.out hbn); have HKy8 := Lib.hid (HKy7.out.later hbn); have HJy8 := Lib.hid (HJy7.out.later hbn); have HXy8 := Lib.hid (HXy7.out.later hbn); have HYy8 := Lib.hid (HYy7.out.later hbn)
          have HO1y8 := Lib.hid (own_keep HO1y7.out hbn)
          have HZ4y8 := Lib.hid (HZ4y7.out.later hbn)
          have HO3y8 := Lib.hid hsl
          rw [hy]
          refine hK.out _ _ ⟨HKy8.out, HJy8.out⟩ (fun hHeld => ?_)
          clear hK K hown hbn hbd hy hsl
          try simp only [Act.put, List.setIfInBounds_toArray, List.set_cons_zero, List.set_cons_succ, List.getElem_toArray, List.getElem_cons_zero, List.getElem_cons_succ]
          refine wpAnyH_ready (rs := [5]) (by kernel_rfl) (by simp) ?_
          refine (AllReadyH.cons rfl (fun K hK => ?_) AllReadyH.nil)
          go_simp
          obtain ⟨g5, hg⟩ : ∃ g, y8.heap.size = g := ⟨_, rfl⟩
          obtain ⟨y9, hy⟩ : ∃ y, (y8.alloc (.cells #[.int .u8 0, .int .u8 0, .int .u8 0, .int .u8 0, .int .u8 0, .int .u8 0, .int .u8 0, .int .u8 0, .int .i64 0, .int .u8 0, .int .u8 0, .int .u8 0, .int .u8 0, .int .u8 0, .int .u8 0, .int .u8 0, .int .u8 0, .slice none 0 0] 31)) = y := ⟨_, rfl⟩
          have hbn : Below y8.heap.size y8 y9 := hy ▸ (below_new y8 _)
          have HBy9 := Lib.hid (below_then HBy8.out hbn); have HKy9 := Lib.hid (HKy8.out.later hbn); have HJy9 := Lib.hid (HJy8.out.later hbn); have HXy9 := Lib.hid (HXy8.out.later hbn); have HYy9 := Lib.hid (HYy8.out.later hbn)
          have HO1y9 := Lib.hid (own_keep HO1y8.out hbn)
          have HO3y9 := Lib.hid (own_keep HO3y8.out hbn)
          have HZ4y9 := Lib.hid (HZ4y8.out.later hbn)
          have HZ5y9 : Hid (Bk y9 g5 31 zBk) := hy ▸ (Bk.at_ y8 _ #[.int .u8 0, .int .u8 0, .int .u8 0, .int .u8 0, .int .u8 0, .int .u8 0, .int .u8 0, .int .u8 0, .int .i64 0, .int .u8 0, .int .u8 0, .int .u8 0, .int .u8 0, .int .u8 0, .int .u8 0, .int .u8 0, .int .u8 0, .slice none 0 0] hg rfl)
          have HG5 : Hid (w3.heap.size ≤ g5) := by show _ ≤ _; rw [← hg]; exact HBy8.out.size
          have HNE : Hid (g4 ≠ g5) := by have := HZ4y8.out.lt; show g4 ≠ g5; omega
          rw [hy, hg]
          refine hK.out _ _ ⟨HKy9.out, HJy9.out⟩ (fun hHeld => ?_)
          clear hK K hbn hy hg
          try simp only [Act.put, List.setIfInBounds_toArray, List.set_cons_zero, List.set_cons_succ, List.getElem_toArray, List.getElem_cons_zero, List.getElem_cons_succ]
          as_aux_lemma =>
          have HF1 : Hid (BkFit (bkC p h m (.slice P1 N q1))) := bk_fit HPO.out HMO.out
          have HF3 : Hid (BkFit (bkC p' h' m' (.slice P3 N' q3))) := bk_fit HPO'.out HMO'.out
          refine wpAnyH_ready (rs := [6]) (by kernel_rfl) (by simp) ?_
          refine AllReadyH.cons rfl (fun K hK => ?_) AllReadyH.nil
          rw [if_pos (by rfl)]
          refine wp_store_part _ _ _ rfl g4 0 _ (bkC p h m (.slice P1 N q1)) rfl rfl rfl _ ([]) (zBk) ([]) (by simpa using HZ4y9.out) rfl (by rw [HF1.out.len]; rfl) HF1.out.size HF1.out.one ?_
          intro wd hp
          refine hK.out _ _ ⟨HKy9.out.grown hp.only (by intro e; injection e with e; have := HG4.out; have := HZW.out; omega), HJy9.out.grown hp.only (by intro e; injection e with e; have := HG4.out; have := HZW.out; omega)⟩ (fun hHeld => ?_)
          clear hK K
          try simp only [Act.put, List.setIfInBounds_toArray, List.set_cons_zero, List.set_cons_succ, List.getElem_toArray, List.getElem_cons_zero, List.getElem_cons_succ]
          have hb4 : Below w3.heap.size w3 wd := below_only HBy9.out hp.only HBy9.out.size HG4.out
          have k4 : Bk wd g4 31 (bkC p h m (.slice P1 N q1)) := by have := hp.bk; simpa using this
          have k5 : Bk wd g5 31 zBk := HZ5y9.out.grown hp.only (by intro e; injection e with e; have := HNE.out; omega)
          have kz : Bk wd z 25 l := HKy9.out.grown hp.only (by intro e; injection e with e; have := HG4.out; have := HZW.out; omega)
          have kj : Bk wd (z + 1) 25 l' := HJy9.out.grown hp.only (by intro e; injection e with e; have := HG4.out; have := HZW.out; omega)
          have o1 := own_only HO1y9.out hp.only (own_bk_ne HO1y9.out HZ4y9.out (by decide))
          have o3 := own_only HO3y9.out hp.only (own_bk_ne HO3y9.out HZ4y9.out (by decide))
          clear hp
          refine wpAnyH_ready (rs := [7]) (by kernel_rfl) (by simp) ?_
          refine AllReadyH.cons rfl (fun K hK => ?_) AllReadyH.nil
          rw [if_pos (by rfl)]
          refine wp_store_part _ _ _ rfl g5 0 _ (bkC p' h' m' (.slice P3 N' q3)) rfl rfl rfl _ ([]) (zBk) ([]) (by simpa using k5) rfl (by rw [HF3.out.len]; rfl) HF3.out.size HF3.out.one ?_
          intro we hp
          refine hK.out _ _ ⟨kz.grown hp.only (by intro e; injection e with e; have := HG5.out; have := HZW.out; omega), kj.grown hp.only (by intro e; injection e with e; have := HG5.out; have := HZW.out; omega)⟩ (fun hHeld => ?_)
          clear hK K
          try simp only [Act.put, List.setIfInBounds_toArray, List.set_cons_zero, List.set_cons_succ, List.getElem_toArray, List.getElem_cons_zero, List.getElem_cons_succ]
          have k5' := k5
          have hb5 : Below w3.heap.size w3 we := below_only hb4 hp.only hb4.size HG5.out
          have k5 : Bk we g5 31 (bkC p' h' m' (.slice P3 N' q3)) := by have := hp.bk; simpa using this
          have k4 : Bk we g4 31 (bkC p h m (.slice P1 N q1)) := k4.grown hp.only (by intro e; injection e with e; have := HNE.out; omega)
          have o1 := own_only o1 hp.only (own_bk_ne o1 k5' (by decide))
          have o3 := own_only o3 hp.only (own_bk_ne o3 k5' (by decide))
          clear hp
          refine wpAnyH_done rfl ?_ _
          go_wp2_with fail
          go_meet
          exact ⟨g4, g5, P1, P3, q1, q3, rfl, rfl, ⟨k4, k5, o1, o3, hb5, HNE.out, HG4.out, HG5.out⟩⟩
        ·
          go_simp
          obtain ⟨g5, hg⟩ : ∃ g, y7.heap.size = g := ⟨_, rfl⟩
          obtain ⟨y10, hy⟩ : ∃ y, (y7.alloc (.cells #[.int .u8 0, .int .u8 0, .int .u8 0, .int .u8 0, .int .u8 0, .int .u8 0, .int .u8 0, .int .u8 0, .int .i64 0, .int .u8 0, .int .u8 0, .int .u8 0, .int .u8 0, .int .u8 0, .int .u8 0, .int .u8 0, .int .u8 0, .slice none 0 0] 31)) = y := ⟨_, rfl⟩
          have hbn : Below y7.heap.size y7 y10 := hy ▸ (below_new y7 _)
          have HBy10 := Lib.hid (below_then HBy7.out hbn); have HKy10 := Lib.hid (HKy7.out.later hbn); have HJy10 := Lib.hid (HJy7.out.later hbn); have HXy10 := Lib.hid (HXy7.out.later hbn); have HYy10 := Lib.hid (HYy7.out.later hbn)
          have HO1y10 := Lib.hid (own_keep HO1y7.out hbn)
          have HZ4y10 := Lib.hid (HZ4y7.out.later hbn)
          have HZ5y10 : Hid (Bk y10 g5 31 zBk) := hy ▸ (Bk.at_ y7 _ #[.int .u8 0, .int .u8 0, .int .u8 0, .int .u8 0, .int .u8 0, .int .u8 0, .int .u8 0, .int .u8 0, .int .i64 0, .int .u8 0, .int .u8 0, .int .u8 0, .int .u8 0, .int .u8 0, .int .u8 0, .int .u8 0, .int .u8 0, .slice none 0 0] hg rfl)
          have HG5 : Hid (w3.heap.size ≤ g5) := by show _ ≤ _; rw [← hg]; exact HBy7.out.size
          have HNE : Hid (g4 ≠ g5) := by have := HZ4y7.out.lt; show g4 ≠ g5; omega
          rw [hy, hg]
          refine hK.out _ _ ⟨HKy10.out, HJy10.out⟩ (fun hHeld => ?_)
          clear hK K hbn hy hg
          try simp only [Act.put, List.setIfInBounds_toArray, List.set_cons_zero, List.set_cons_succ, List.getElem_toArray, List.getElem_cons_zero, List.getElem_cons_succ]
          refine wpAnyH_ready (rs := [3]) (by kernel_rfl) (by simp) ?_
          refine (AllReadyH.cons rfl (fun K hK => ?_) AllReadyH.nil)
          go_simp
          rw [HYE.out]
          refine (HOB.out y10 HYy10.out).mono ?_
          rintro e y11a ⟨⟨v3, rfl, hown⟩, hbn⟩
          obtain ⟨P3, q3, rfl⟩ := own_form hown
          obtain ⟨y11, hy⟩ : ∃ y, y11a = y := ⟨_, rfl⟩
          have hbd : Below y11a.heap.size y11a y11 := hy ▸ Below.refl _ _
          have hsl := own_base (own_keep hown hbd) HBy10.out.size
          have hbn := below_then hbn hbd
          have HBy11 := Lib.hid (below_then HBy10.out hbn); have HKy11 := Lib.hid (HKy10.out.later hbn); have HJy11 := Lib.hid (HJy10.out.later hbn); have HXy11 := Lib.hid (HXy10.out.later hbn); have HYy11 := Lib.hid (HYy10.out.later hbn)
          have HO1y11 := Lib.hid (own_keep HO1y10.out hbn)
          have HZ4y11 := Lib.hid (HZ4y10.out.later hbn)
          have HZ5y11 := Lib.hid (HZ5y10.out.later hbn)
          have HO3y11 := Lib.hid hsl
          rw [hy]
          refine hK.out _ _ ⟨HKy11.out, HJy11.out⟩ (fun hHeld => ?_)
          clear hK K hown hbn hbd hy hsl
          try simp only [Act.put, List.setIfInBounds_toArray, List.set_cons_zero, List.set_cons_succ, List.getElem_toArray, List.getElem_cons_zero, List.getElem_cons_succ]
          as_aux_lemma =>
          have HF1 : Hid (BkFit (bkC p h m (.slice P1 N q1))) := bk_fit HPO.out HMO.out
          have HF3 : Hid (BkFit (bkC p' h' m' (.slice P3 N' q3))) := bk_fit HPO'.out HMO'.out
          refine wpAnyH_ready (rs := [6]) (by kernel_rfl) (by simp) ?_
          refine AllReadyH.cons rfl (fun K hK => ?_) AllReadyH.nil
          rw [if_pos (by rfl)]
          refine wp_store_part _ _ _ rfl g4 0 _ (bkC p h m (.slice P1 N q1)) rfl rfl rfl _ ([]) (zBk) ([]) (by simpa using HZ4y11.out) rfl (by rw [HF1.out.len]; rfl) HF1.out.size HF1.out.one ?_
          intro wd hp
          refine hK.out _ _ ⟨HKy11.out.grown hp.only (by intro e; injection e with e; have := HG4.out; have := HZW.out; omega), HJy11.out.grown hp.only (by intro e; injection e with e; have := HG4.out; have := HZW.out; omega)⟩ (fun hHeld => ?_)
          clear hK K
          try simp only [Act.put, List.setIfInBounds_toArray, List.set_cons_zero, List.set_cons_succ, List.getElem_toArray, List.getElem_cons_zero, List.getElem_cons_succ]
          have hb4 : Below w3.heap.size w3 wd := below_only HBy11.out hp.only HBy11.out.size HG4.out
          have k4 : Bk wd g4 31 (bkC p h m (.slice P1 N q1)) := by have := hp.bk; simpa using this
          have k5 : Bk wd g5 31 zBk := HZ5y11.out.grown hp.only (by intro e; injection e with e; have := HNE.out; omega)
          have kz : Bk wd z 25 l := HKy11.out.grown hp.only (by intro e; injection e with e; have := HG4.out; have := HZW.out; omega)
          have kj : Bk wd (z + 1) 25 l' := HJy11.out.grown hp.only (by intro e; injection e with e; have := HG4.out; have := HZW.out; omega)
          have o1 := own_only HO1y11.out hp.only (own_bk_ne HO1y11.out HZ4y11.out (by decide))
          have o3 := own_only HO3y11.out hp.only (own_bk_ne HO3y11.out HZ4y11.out (by decide))
          clear hp
          refine wpAnyH_ready (rs := [7]) (by kernel_rfl) (by simp) ?_
          refine AllReadyH.cons rfl (fun K hK => ?_) AllReadyH.nil
          rw [if_pos (by rfl)]
          refine wp_store_part _ _ _ rfl g5 0 _ (bkC p' h' m' (.slice P3 N' q3)) rfl rfl rfl _ ([]) (zBk) ([]) (by simpa using k5) rfl (by rw [HF3.out.len]; rfl) HF3.out.size HF3.out.one ?_
          intro we hp
          refine hK.out _ _ ⟨kz.grown hp.only (by intro e; injection e with e; have := HG5.out; have := HZW.out; omega), kj.grown hp.only (by intro e; injection e with e; have := HG5.out; have := HZW.out; omega)⟩ (fun hHeld => ?_)
          clear hK K
          try simp only [Act.put, List.setIfInBounds_toArray, List.set_cons_zero, List.set_cons_succ, List.getElem_toArray, List.getElem_cons_zero, List.getElem_cons_succ]
          have k5' := k5
          have hb5 : Below w3.heap.size w3 we := below_only hb4 hp.only hb4.size HG5.out
          have k5 : Bk we g5 31 (bkC p' h' m' (.slice P3 N' q3)) := by have := hp.bk; simpa using this
          have k4 : Bk we g4 31 (bkC p h m (.slice P1 N q1)) := k4.grown hp.only (by intro e; injection e with e; have := HNE.out; omega)
          have o1 := own_only o1 hp.only (own_bk_ne o1 k5' (by decide))
          have o3 := own_only o3 hp.only (own_bk_ne o3 k5' (by decide))
          clear hp
          refine wpAnyH_done rfl ?_ _
          go_wp2_with fail
          go_meet
          exact ⟨g4, g5, P1, P3, q1, q3, rfl, rfl, ⟨k4, k5, o1, o3, hb5, HNE.out, HG4.out, HG5.out⟩⟩
      ·
        go_simp
        obtain ⟨g5, hg⟩ : ∃ g, y1.heap.size = g := ⟨_, rfl⟩
        obtain ⟨y12, hy⟩ : ∃ y, (y1.alloc (.cells #[.int .u8 0, .int .u8 0, .int .u8 0, .int .u8 0, .int .u8 0, .int .u8 0, .int .u8 0, .int .u8 0, .int .i64 0, .int .u8 0, .int .u8 0, .int .u8 0, .int .u8 0, .int .u8 0, .int .u8 0, .int .u8 0, .int .u8 0, .slice none 0 0] 31)) = y := ⟨_, rfl⟩
        have hbn : Below y1.heap.size y1 y12 := hy ▸ (below_new y1 _)
        have HBy12 := Lib.hid (below_then HBy1.out hbn); have HKy12 := Lib.hid (HKy1.out.later hbn); have HJy12 := Lib.hid (HJy1.out.later hbn); have HXy12 := Lib.hid (HXy1.out.later hbn); have HYy12 := Lib.hid (HYy1.out.later hbn)
        have HO1y12 := Lib.hid (own_keep HO1y1.out hbn)
        have HZ5y12 : Hid (Bk y12 g5 31 zBk) := hy ▸ (Bk.at_ y1 _ #[.int .u8 0, .int .u8 0, .int .u8 0, .int .u8 0, .int .u8 0, .int .u8 0, .int .u8 0, .int .u8 0, .int .i64 0, .int .u8 0, .int .u8 0, .int .u8 0, .int .u8 0, .int .u8 0, .int .u8 0, .int .u8 0, .int .u8 0, .slice none 0 0] hg rfl)
        have HG5 : Hid (w3.heap.size ≤ g5) := by show _ ≤ _; rw [← hg]; exact HBy1.out.size
        rw [hy, hg]
        refine hK.out _ _ ⟨HKy12.out, HJy12.out⟩ (fun hHeld => ?_)
        clear hK K hbn hy hg
        try simp only [Act.put, List.setIfInBounds_toArray, List.set_cons_zero, List.set_cons_succ, List.getElem_toArray, List.getElem_cons_zero, List.getElem_cons_succ]
        refine wpAnyH_ready (rs := [3, 4]) (by kernel_rfl) (by simp) ?_
        refine (AllReadyH.cons rfl (fun K hK => ?_) (AllReadyH.cons rfl (fun K hK => ?_) AllReadyH.nil))
        ·
          go_simp
          rw [HYE.out]
          refine (HOB.out y12 HYy12.out).mono ?_
          rintro e y13a ⟨⟨v3, rfl, hown⟩, hbn⟩
          obtain ⟨P3, q3, rfl⟩ := own_form hown
          obtain ⟨y13, hy⟩ : ∃ y, y13a = y := ⟨_, rfl⟩
          have hbd : Below y13a.heap.size y13a y13 := hy ▸ Below.refl _ _
          have hsl := own_base (own_keep hown hbd) HBy12.out.size
          have hbn := below_then hbn hbd
          have HBy13 := Lib.hid (below_then HBy12.out hbn); have HKy13 := Lib.hid (HKy12.out.later hbn); have HJy13 := Lib.hid (HJy12.out.later hbn); have HXy13 := Lib.hid (HXy12.out.later hbn); have HYy13 := Lib.hid (HYy12.out.later hbn)
          have HO1y13 := Lib.hid (own_keep HO1y12.out hbn)
          have HZ5y13 := Lib.hid (HZ5y12.out.later hbn)
          have HO3y13 := Lib.hid hsl
          rw [hy]
          refine hK.out _ _ ⟨HKy13.out, HJy13.out⟩ (fun hHeld => ?_)
          clear hK K hown hbn hbd hy hsl
          try simp only [Act.put, List.setIfInBounds_toArray, List.set_cons_zero, List.set_cons_succ, List.getElem_toArray, List.getElem_cons_zero, List.getElem_cons_succ]
          refine wpAnyH_ready (rs := [4]) (by kernel_rfl) (by simp) ?_
          refine (AllReadyH.cons rfl (fun K hK => ?_) AllReadyH.nil)
          go_simp
          obtain ⟨g4, hg⟩ : ∃ g, y13.heap.size = g := ⟨_, rfl⟩
          obtain ⟨y14, hy⟩ : ∃ y, (y13.alloc (.cells #[.int .u8 0, .int .u8 0, .int .u8 0, .int .u8 0, .int .u8 0, .int .u8 0, .int .u8 0, .int .u8 0, .int .i64 0, .int .u8 0, .int .u8 0, .int .u8 0, .int .u8 0, .int .u8 0, .int .u8 0, .int .u8 0, .int .u8 0, .slice none 0 0] 31)) = y := ⟨_, rfl⟩
          have hbn : Below y13.heap.size y13 y14 := hy ▸ (below_new y13 _)
          have HBy14 := Lib.hid (below_then HBy13.out hbn); have HKy14 := Lib.hid (HKy13.out.later hbn); have HJy14 := Lib.hid (HJy13.out.later hbn); have HXy14 := Lib.hid (HXy13.out.later hbn); have HYy14 := Lib.hid (HYy13.out.later hbn)
          have HO1y14 := Lib.hid (own_keep HO1y13.out hbn)
          have HO3y14 := Lib.hid (own_keep HO3y13.out hbn)
          have HZ5y14 := Lib.hid (HZ5y13.out.later hbn)
          have HZ4y14 : Hid (Bk y14 g4 31 zBk) := hy ▸ (Bk.at_ y13 _ #[.int .u8 0, .int .u8 0, .int .u8 0, .int .u8 0, .int .u8 0, .int .u8 0, .int .u8 0, .int .u8 0, .int .i64 0, .int .u8 0, .int .u8 0, .int .u8 0, .int .u8 0, .int .u8 0, .int .u8 0, .int .u8 0, .int .u8 0, .slice none 0 0] hg rfl)
          have HG4 : Hid (w3.heap.size ≤ g4) := by show _ ≤ _; rw [← hg]; exact HBy13.out.size
          have HNE : Hid (g4 ≠ g5) := by have := HZ5y13.out.lt; show g4 ≠ g5; omega
          rw [hy, hg]
          refine hK.out _ _ ⟨HKy14.out, HJy14.out⟩ (fun hHeld => ?_)
          clear hK K hbn hy hg
          try simp only [Act.put, List.setIfInBounds_toArray, List.set_cons_zero, List.set_cons_succ, List.getElem_toArray, List.getElem_cons_zero, List.getElem_cons_succ]
          as_aux_lemma =>
          have HF1 : Hid (BkFit (bkC p h m (.slice P1 N q1))) := bk_fit HPO.out HMO.out
          have HF3 : Hid (BkFit (bkC p' h' m' (.slice P3 N' q3))) := bk_fit HPO'.out HMO'.out
          refine wpAnyH_ready (rs := [6]) (by kernel_rfl) (by simp) ?_
          refine AllReadyH.cons rfl (fun K hK => ?_) AllReadyH.nil
          rw [if_pos (by rfl)]
          refine wp_store_part _ _ _ rfl g4 0 _ (bkC p h m (.slice P1 N q1)) rfl rfl rfl _ ([]) (zBk) ([]) (by simpa using HZ4y14.out) rfl (by rw [HF1.out.len]; rfl) HF1.out.size HF1.out.one ?_
          intro wd hp
          refine hK.out _ _ ⟨HKy14.out.grown hp.only (by intro e; injection e with e; have := HG4.out; have := HZW.out; omega), HJy14.out.grown hp.only (by intro e; injection e with e; have := HG4.out; have := HZW.out; omega)⟩ (fun hHeld => ?_)
          clear hK K
          try simp only [Act.put, List.setIfInBounds_toArray, List.set_cons_zero, List.set_cons_succ, List.getElem_toArray, List.getElem_cons_zero, List.getElem_cons_succ]
          have hb4 : Below w3.heap.size w3 wd := below_only HBy14.out hp.only HBy14.out.size HG4.out
          have k4 : Bk wd g4 31 (bkC p h m (.slice P1 N q1)) := by have := hp.bk; simpa using this
          have k5 : Bk wd g5 31 zBk := HZ5y14.out.grown hp.only (by intro e; injection e with e; have := HNE.out; omega)
          have kz : Bk wd z 25 l := HKy14.out.grown hp.only (by intro e; injection e with e; have := HG4.out; have := HZW.out; omega)
          have kj : Bk wd (z + 1) 25 l' := HJy14.out.grown hp.only (by intro e; injection e with e; have := HG4.out; have := HZW.out; omega)
          have o1 := own_only HO1y14.out hp.only (own_bk_ne HO1y14.out HZ4y14.out (by decide))
          have o3 := own_only HO3y14.out hp.only (own_bk_ne HO3y14.out HZ4y14.out (by decide))
          clear hp
          refine wpAnyH_ready (rs := [7]) (by kernel_rfl) (by simp) ?_
          refine AllReadyH.cons rfl (fun K hK => ?_) AllReadyH.nil
          rw [if_pos (by rfl)]
          refine wp_store_part _ _ _ rfl g5 0 _ (bkC p' h' m' (.slice P3 N' q3)) rfl rfl rfl _ ([]) (zBk) ([]) (by simpa using k5) rfl (by rw [HF3.out.len]; rfl) HF3.out.size HF3.out.one ?_
          intro we hp
          refine hK.out _ _ ⟨kz.grown hp.only (by intro e; injection e with e; have := HG5.out; have := HZW.out; omega), kj.grown hp.only (by intro e; injection e with e; have := HG5.out; have := HZW.out; omega)⟩ (fun hHeld => ?_)
          clear hK K
          try simp only [Act.put, List.setIfInBounds_toArray, List.set_cons_zero, List.set_cons_succ, List.getElem_toArray, List.getElem_cons_zero, List.getElem_cons_succ]
          have k5' := k5
          have hb5 : Below w3.heap.size w3 we := below_only hb4 hp.only hb4.size HG5.out
          have k5 : Bk we g5 31 (bkC p' h' m' (.slice P3 N' q3)) := by have := hp.bk; simpa using this
          have k4 : Bk we g4 31 (bkC p h m (.slice P1 N q1)) := k4.grown hp.only (by intro e; injection e with e; have := HNE.out; omega)
          have o1 := own_only o1 hp.only (own_bk_ne o1 k5' (by decide))
          have o3 := own_only o3 hp.only (own_bk_ne o3 k5' (by decide))
          clear hp
          refine wpAnyH_done rfl ?_ _
          go_wp2_with fail
          go_meet
          exact ⟨g4, g5, P1, P3, q1, q3, rfl, rfl, ⟨k4, k5, o1, o3, hb5, HNE.out, HG4.out, HG5.out⟩⟩
        ·
          go_simp
          obtain ⟨g4, hg⟩ : ∃ g, y12.heap.size = g := ⟨_, rfl⟩
          obtain ⟨y15, hy⟩ : ∃ y, (y12.alloc (.cells #[.int .u8 0, .int .u8 0, .int .u8 0, .int .u8 0, .int .u8 0, .int .u8 0, .int .u8 0, .int .u8 0, .int .i64 0, .int .u8 0, .int .u8 0, .int .u8 0, .int .u8 0, .int .u8 0, .int .u8 0, .int .u8 0, .int .u8 0, .slice none 0 0] 31)) = y := ⟨_, rfl⟩
          have hbn : Below y12.heap.size y12 y15 := hy ▸ (below_new y12 _)
          have HBy15 := Lib.hid (below_then HBy12.out hbn); have HKy15 := Lib.hid (HKy12.out.later hbn); have HJy15 := Lib.hid (HJy12.out.later hbn); have HXy15 := Lib.hid (HXy12.out.later hbn); have HYy15 := Lib.hid (HYy12.out.later hbn)
          have HO1y15 := Lib.hid (own_keep HO1y12.out hbn)
          have HZ5y15 := Lib.hid (HZ5y12.out.later hbn)
          have HZ4y15 : Hid (Bk y15 g4 31 zBk) := hy ▸ (Bk.at_ y12 _ #[.int .u8 0, .int .u8 0, .int .u8 0, .int .u8 0, .int .u8 0, .int .u8 0, .int .u8 0, .int .u8 0, .int .i64 0, .int .u8 0, .int .u8 0, .int .u8 0, .int .u8 0, .int .u8 0, .int .u8 0, .int .u8 0, .int .u8 0, .slice none 0 0] hg rfl)
          have HG4 : Hid (w3.heap.size ≤ g4) := by show _ ≤ _; rw [← hg]; exact HBy12.out.size
          have HNE : Hid (g4 ≠ g5) := by have := HZ5y12.out.lt; show g4 ≠ g5; omega
          rw [hy, hg]
          refine hK.out _ _ ⟨HKy15.out, HJy15.out⟩ (fun hHeld => ?_)
          clear hK K hbn hy hg
          try simp only [Act.put, List.setIfInBounds_toArray, List.set_cons_zero, List.set_cons_succ, List.getElem_toArray, List.getElem_cons_zero, List.getElem_cons_succ]
          refine wpAnyH_ready (rs := [3]) (by kernel_rfl) (by simp) ?_
          refine (AllReadyH.cons rfl (fun K hK => ?_) AllReadyH.nil)
          go_simp
          rw [HYE.out]
          refine (HOB.out y15 HYy15.out).mono ?_
          rintro e y16a ⟨⟨v3, rfl, hown⟩, hbn⟩
          obtain ⟨P3, q3, rfl⟩ := own_form hown
          obtain ⟨y16, hy⟩ : ∃ y, y16a = y := ⟨_, rfl⟩
          have hbd : Below y16a.heap.size y16a y16 := hy ▸ Below.refl _ _
          have hsl := own_base (own_keep hown hbd) HBy15.out.size
          have hbn := below_then hbn hbd
          have HBy16 := Lib.hid (below_then HBy15.out hbn); have HKy16 := Lib.hid (HKy15.out.later hbn); have HJy16 := Lib.hid (HJy15.out.later hbn); have HXy16 := Lib.hid (HXy15.out.later hbn); have HYy16 := Lib.hid (HYy15.out.later hbn)
          have HO1y16 := Lib.hid (own_keep HO1y15.out hbn)
          have HZ4y16 := Lib.hid (HZ4y15.out.later hbn)
          have HZ5y16 := Lib.hid (HZ5y15.out.later hbn)
          have HO3y16 := Lib.hid hsl
          rw [hy]
          refine hK.out _ _ ⟨HKy16.out, HJy16.out⟩ (fun hHeld => ?_)
          clear hK K hown hbn hbd hy hsl
          try simp only [Act.put, List.setIfInBounds_toArray, List.set_cons_zero, List.set_cons_succ, List.getElem_toArray, List.getElem_cons_zero, List.getElem_cons_succ]
          as_aux_lemma =>
          have HF1 : Hid (BkFit (bkC p h m (.slice P1 N q1))) := bk_fit HPO.out HMO.out
          have HF3 : Hid (BkFit (bkC p' h' m' (.slice P3 N' q3))) := bk_fit HPO'.out HMO'.out
          refine wpAnyH_ready (rs := [6]) (by kernel_rfl) (by simp) ?_
          refine AllReadyH.cons rfl (fun K hK => ?_) AllReadyH.nil
          rw [if_pos (by rfl)]
          refine wp_store_part _ _ _ rfl g4 0 _ (bkC p h m (.slice P1 N q1)) rfl rfl rfl _ ([]) (zBk) ([]) (by simpa using HZ4y16.out) rfl (by rw [HF1.out.len]; rfl) HF1.out.size HF1.out.one ?_
          intro wd hp
          refine hK.out _ _ ⟨HKy16.out.grown hp.only (by intro e; injection e with e; have := HG4.out; have := HZW.out; omega), HJy16.out.grown hp.only (by intro e; injection e with e; have := HG4.out; have := HZW.out; omega)⟩ (fun hHeld => ?_)
          clear hK K
          try simp only [Act.put, List.setIfInBounds_toArray, List.set_cons_zero, List.set_cons_succ, List.getElem_toArray, List.getElem_cons_zero, List.getElem_cons_succ]
          have hb4 : Below w3.heap.size w3 wd := below_only HBy16.out hp.only HBy16.out.size HG4.out
          have k4 : Bk wd g4 31 (bkC p h m (.slice P1 N q1)) := by have := hp.bk; simpa using this
          have k5 : Bk wd g5 31 zBk := HZ5y16.out.grown hp.only (by intro e; injection e with e; have := HNE.out; omega)
          have kz : Bk wd z 25 l := HKy16.out.grown hp.only (by intro e; injection e with e; have := HG4.out; have := HZW.out; omega)
          have kj : Bk wd (z + 1) 25 l' := HJy16.out.grown hp.only (by intro e; injection e with e; have := HG4.out; have := HZW.out; omega)
          have o1 := own_only HO1y16.out hp.only (own_bk_ne HO1y16.out HZ4y16.out (by decide))
          have o3 := own_only HO3y16.out hp.only (own_bk_ne HO3y16.out HZ4y16.out (by decide))
          clear hp
          refine wpAnyH_ready (rs := [7]) (by kernel_rfl) (by simp) ?_
          refine AllReadyH.cons rfl (fun K hK => ?_) AllReadyH.nil
          rw [if_pos (by rfl)]
          refine wp_store_part _ _ _ rfl g5 0 _ (bkC p' h' m' (.slice P3 N' q3)) rfl rfl rfl _ ([]) (zBk) ([]) (by simpa using k5) rfl (by rw [HF3.out.len]; rfl) HF3.out.size HF3.out.one ?_
          intro we hp
          refine hK.out _ _ ⟨kz.grown hp.only (by intro e; injection e with e; have := HG5.out; have := HZW.out; omega), kj.grown hp.only (by intro e; injection e with e; have := HG5.out; have := HZW.out; omega)⟩ (fun hHeld => ?_)
          clear hK K
          try simp only [Act.put, List.setIfInBounds_toArray, List.set_cons_zero, List.set_cons_succ, List.getElem_toArray, List.getElem_cons_zero, List.getElem_cons_succ]
          have k5' := k5
          have hb5 : Below w3.heap.size w3 we := below_only hb4 hp.only hb4.size HG5.out
          have k5 : Bk we g5 31 (bkC p' h' m' (.slice P3 N' q3)) := by have := hp.bk; simpa using this
          have k4 : Bk we g4 31 (bkC p h m (.slice P1 N q1)) := k4.grown hp.only (by intro e; injection e with e; have := HNE.out; omega)
          have o1 := own_only o1 hp.only (own_bk_ne o1 k5' (by decide))
          have o3 := own_only o3 hp.only (own_bk_ne o3 k5' (by decide))
          clear hp
          refine wpAnyH_done rfl ?_ _
          go_wp2_with fail
          go_meet
          exact ⟨g4, g5, P1, P3, q1, q3, rfl, rfl, ⟨k4, k5, o1, o3, hb5, HNE.out, HG4.out, HG5.out⟩⟩
    ·
      go_simp
      obtain ⟨g4, hg⟩ : ∃ g, y0.heap.size = g := ⟨_, rfl⟩
      obtain ⟨y17, hy⟩ : ∃ y, (y0.alloc (.cells #[.int .u8 0, .int .u8 0, .int .u8 0, .int .u8 0, .int .u8 0, .int .u8 0, .int .u8 0, .int .u8 0, .int .i64 0, .int .u8 0, .int .u8 0, .int .u8 0, .int .u8 0, .int .u8 0, .int .u8 0, .int .u8 0, .int .u8 0, .slice none 0 0] 31)) = y := ⟨_, rfl⟩
      have hbn : Below y0.heap.size y0 y17 := hy ▸ (below_new y0 _)
      have HBy17 := Lib.hid (below_then HBy0.out hbn); have HKy17 := Lib.hid (HKy0.out.later hbn); have HJy17 := Lib.hid (HJy0.out.later hbn); have HXy17 := Lib.hid (HXy0.out.later hbn); have HYy17 := Lib.hid (HYy0.out.later hbn)
      have HZ4y17 : Hid (Bk y17 g4 31 zBk) := hy ▸ (Bk.at_ y0 _ #[.int .u8 0, .int .u8 0, .int .u8 0, .int .u8 0, .int .u8 0, .int .u8 0, .int .u8 0, .int .u8 0, .int .i64 0, .int .u8 0, .int .u8 0, .int .u8 0, .int .u8 0, .int .u8 0, .int .u8 0, .int .u8 0, .int .u8 0, .slice none 0 0] hg rfl)
      have HG4 : Hid (w3.heap.size ≤ g4) := by show _ ≤ _; rw [← hg]; exact HBy0.out.size
      rw [hy, hg]
      refine hK.out _ _ ⟨HKy17.out, HJy17.out⟩ (fun hHeld => ?_)
      clear hK K hbn hy hg
      try simp only [Act.put, List.setIfInBounds_toArray, List.set_cons_zero, List.set_cons_succ, List.getElem_toArray, List.getElem_cons_zero, List.getElem_cons_succ]
      refine wpAnyH_ready (rs := [1, 5]) (by kernel_rfl) (by simp) ?_
      refine (AllReadyH.cons rfl (fun K hK => ?_) (AllReadyH.cons rfl (fun K hK => ?_) AllReadyH.nil))
      ·
        go_simp
        rw [HXE.out]
        refine (HOA.out y17 HXy17.out).mono ?_
        rintro e y18a ⟨⟨v1, rfl, hown⟩, hbn⟩
        obtain ⟨P1, q1, rfl⟩ := own_form hown
        obtain ⟨y18, hy⟩ : ∃ y, y18a = y := ⟨_, rfl⟩
        have hbd : Below y18a.heap.size y18a y18 := hy ▸ Below.refl _ _
        have hsl := own_base (own_keep hown hbd) HBy17.out.size
        have hbn := below_then hbn hbd
        have HBy18 := Lib.hid (below_then HBy17.out hbn); have HKy18 := Lib.hid (HKy17.out.later hbn); have HJy18 := Lib.hid (HJy17.out.later hbn); have HXy18 := Lib.hid (HXy17.out.later hbn); have HYy18 := Lib.hid (HYy17.out.later hbn)
        have HZ4y18 := Lib.hid (HZ4y17.out.later hbn)
        have HO1y18 := Lib.hid hsl
        rw [hy]
        refine hK.out _ _ ⟨HKy18.out, HJy18.out⟩ (fun hHeld => ?_)
        clear hK K hown hbn hbd hy hsl
        try simp only [Act.put, List.setIfInBounds_toArray, List.set_cons_zero, List.set_cons_succ, List.getElem_toArray, List.getElem_cons_zero, List.getElem_cons_succ]
        refine wpAnyH_ready (rs := [3, 5]) (by kernel_rfl) (by simp) ?_
        refine (AllReadyH.cons rfl (fun K hK => ?_) (AllReadyH.cons rfl (fun K hK => ?_) AllReadyH.nil))
        ·
          go_simp
          rw [HYE.out]
          refine (HOB.out y18 HYy18.out).mono ?_
          rintro e y19a ⟨⟨v3, rfl, hown⟩, hbn⟩
          obtain ⟨P3, q3, rfl⟩ := own_form hown
          obtain ⟨y19, hy⟩ : ∃ y, y19a = y := ⟨_, rfl⟩
          have hbd : Below y19a.heap.size y19a y19 := hy ▸ Below.refl _ _
          have hsl := own_base (own_keep hown hbd) HBy18.out.size
          have hbn := below_then hbn hbd
          have HBy19 := Lib.hid (below_then HBy18.out hbn); have HKy19 := Lib.hid (HKy18.out.later hbn); have HJy19 := Lib.hid (HJy18.out.later hbn); have HXy19 := Lib.hid (HXy18.out.later hbn); have HYy19 := Lib.hid (HYy18.out.later hbn)
          have HO1y19 := Lib.hid (own_keep HO1y18.out hbn)
          have HZ4y19 := Lib.hid (HZ4y18.out.later hbn)
          have HO3y19 := Lib.hid hsl
          rw [hy]
          refine hK.out _ _ ⟨HKy19.out, HJy19.out⟩ (fun hHeld => ?_)
          clear hK K hown hbn hbd hy hsl
          try simp only [Act.put, List.setIfInBounds_toArray, List.set_cons_zero, List.set_cons_succ, List.getElem_toArray, List.getElem_cons_zero, List.getElem_cons_succ]
          refine wpAnyH_ready (rs := [5]) (by kernel_rfl) (by simp) ?_
          refine (AllReadyH.cons rfl (fun K hK => ?_) AllReadyH.nil)
          go_simp
          obtain ⟨g5, hg⟩ : ∃ g, y19.heap.size = g := ⟨_, rfl⟩
          obtain ⟨y20, hy⟩ : ∃ y, (y19.alloc (.cells #[.int .u8 0, .int .u8 0, .int .u8 0, .int .u8 0, .int .u8 0, .int .u8 0, .int .u8 0, .int .u8 0, .int .i64 0, .int .u8 0, .int .u8 0, .int .u8 0, .int .u8 0, .int .u8 0, .int .u8 0, .int .u8 0, .int .u8 0, .slice none 0 0] 31)) = y := ⟨_, rfl⟩
          have hbn : Below y19.heap.size y19 y20 := hy ▸ (below_new y19 _)
          have HBy20 := Lib.hid (below_then HBy19.out hbn); have HKy20 := Lib.hid (HKy19.out.later hbn); have HJy20 := Lib.hid (HJy19.out.later hbn); have HXy20 := Lib.hid (HXy19.out.later hbn); have HYy20 := Lib.hid (HYy19.out.later hbn)
          have HO1y20 := Lib.hid (own_keep HO1y19.out hbn)
          have HO3y20 := Lib.hid (own_keep HO3y19.out hbn)
          have HZ4y20 := Lib.hid (HZ4y19.out.later hbn)
          have HZ5y20 : Hid (Bk y20 g5 31 zBk) := hy ▸ (Bk.at_ y19 _ #[.int .u8 0, .int .u8 0, .int .u8 0, .int .u8 0, .int .u8 0, .int .u8 0, .int .u8 0, .int .u8 0, .int .i64 0, .int .u8 0, .int .u8 0, .int .u8 0, .int .u8 0, .int .u8 0, .int .u8 0, .int .u8 0, .int .u8 0, .slice none 0 0] hg rfl)
          have HG5 : Hid (w3.heap.size ≤ g5) := by show _ ≤ _; rw [← hg]; exact HBy19.out.size
          have HNE : Hid (g4 ≠ g5) := by have := HZ4y19.out.lt; show g4 ≠ g5; omega
          rw [hy, hg]
          refine hK.out _ _ ⟨HKy20.out, HJy20.out⟩ (fun hHeld => ?_)
          clear hK K hbn hy hg
          try simp only [Act.put, List.setIfInBounds_toArray, List.set_cons_zero, List.set_cons_succ, List.getElem_toArray, List.getElem_cons_zero, List.getElem_cons_succ]
          as_aux_lemma =>
          have HF1 : Hid (BkFit (bkC p h m (.slice P1 N q1))) := bk_fit HPO.out HMO.out
          have HF3 : Hid (BkFit (bkC p' h' m' (.slice P3 N' q3))) := bk_fit HPO'.out HMO'.out
          refine wpAnyH_ready (rs := [6]) (by kernel_rfl) (by simp) ?_
          refine AllReadyH.cons rfl (fun K hK => ?_) AllReadyH.nil
          rw [if_pos (by rfl)]
          refine wp_store_part _ _ _ rfl g4 0 _ (bkC p h m (.slice P1 N q1)) rfl rfl rfl _ ([]) (zBk) ([]) (by simpa using HZ4y20.out) rfl (by rw [HF1.out.len]; rfl) HF1.out.size HF1.out.one ?_
          intro wd hp
          refine hK.out _ _ ⟨HKy20.out.grown hp.only (by intro e; injection e with e; have := HG4.out; have := HZW.out; omega), HJy20.out.grown hp.only (by intro e; injection e with e; have := HG4.out; have := HZW.out; omega)⟩ (fun hHeld => ?_)
          clear hK K
          try simp only [Act.put, List.setIfInBounds_toArray, List.set_cons_zero, List.set_cons_succ, List.getElem_toArray, List.getElem_cons_zero, List.getElem_cons_succ]
          have hb4 : Below w3.heap.size w3 wd := below_only HBy20.out hp.only HBy20.out.size HG4.out
          have k4 : Bk wd g4 31 (bkC p h m (.slice P1 N q1)) := by have := hp.bk; simpa using this
          have k5 : Bk wd g5 31 zBk := HZ5y20.out.grown hp.only (by intro e; injection e with e; have := HNE.out; omega)
          have kz : Bk wd z 25 l := HKy20.out.grown hp.only (by intro e; injection e with e; have := HG4.out; have := HZW.out; omega)
          have kj : Bk wd (z + 1) 25 l' := HJy20.out.grown hp.only (by intro e; injection e with e; have := HG4.out; have := HZW.out; omega)
          have o1 := own_only HO1y20.out hp.only (own_bk_ne HO1y20.out HZ4y20.out (by decide))
          have o3 := own_only HO3y20.out hp.only (own_bk_ne HO3y20.out HZ4y20.out (by decide))
          clear hp
          refine wpAnyH_ready (rs := [7]) (by kernel_rfl) (by simp) ?_
          refine AllReadyH.cons rfl (fun K hK => ?_) AllReadyH.nil
          rw [if_pos (by rfl)]
          refine wp_store_part _ _ _ rfl g5 0 _ (bkC p' h' m' (.slice P3 N' q3)) rfl rfl rfl _ ([]) (zBk) ([]) (by simpa using k5) rfl (by rw [HF3.out.len]; rfl) HF3.out.size HF3.out.one ?_
          intro we hp
          refine hK.out _ _ ⟨kz.grown hp.only (by intro e; injection e with e; have := HG5.out; have := HZW.out; omega), kj.grown hp.only (by intro e; injection e with e; have := HG5.out; have := HZW.out; omega)⟩ (fun hHeld => ?_)
          clear hK K
          try simp only [Act.put, List.setIfInBounds_toArray, List.set_cons_zero, List.set_cons_succ, List.getElem_toArray, List.getElem_cons_zero, List.getElem_cons_succ]
          have k5' := k5
          have hb5 : Below w3.heap.size w3 we := below_only hb4 hp.only hb4.size HG5.out
          have k5 : Bk we g5 31 (bkC p' h' m' (.slice P3 N' q3)) := by have := hp.bk; simpa using this
          have k4 : Bk we g4 31 (bkC p h m (.slice P1 N q1)) := k4.grown hp.only (by intro e; injection e with e; have := HNE.out; omega)
          have o1 := own_only o1 hp.only (own_bk_ne o1 k5' (by decide))
          have o3 := own_only o3 hp.only (own_bk_ne o3 k5' (by decide))
          clear hp
          refine wpAnyH_done rfl ?_ _
          go_wp2_with fail
          go_meet
          exact ⟨g4, g5, P1, P3, q1, q3, rfl, rfl, ⟨k4, k5, o1, o3, hb5, HNE.out, HG4.out, HG5.out⟩⟩
        ·
          go_simp
          obtain ⟨g5, hg⟩ : ∃ g, y18.heap.size = g := ⟨_, rfl⟩
          obtain ⟨y21, hy⟩ : ∃ y, (y18.alloc (.cells #[.int .u8 0, .int .u8 0, .int .u8 0, .int .u8 0, .int .u8 0, .int .u8 0, .int .u8 0, .int .u8 0, .int .i64 0, .int .u8 0, .int .u8 0, .int .u8 0, .int .u8 0, .int .u8 0, .int .u8 0, .int .u8 0, .int .u8 0, .slice none 0 0] 31)) = y := ⟨_, rfl⟩
          have hbn : Below y18.heap.size y18 y21 := hy ▸ (below_new y18 _)
          have HBy21 := Lib.hid (below_then HBy18.out hbn); have HKy21 := Lib.hid (HKy18.out.later hbn); have HJy21 := Lib.hid (HJy18.out.later hbn); have HXy21 := Lib.hid (HXy18.out.later hbn); have HYy21 := Lib.hid (HYy18.out.later hbn)
          have HO1y21 := Lib.hid (own_keep HO1y18.out hbn)
          have HZ4y21 := Lib.hid (HZ4y18.out.later hbn)
          have HZ5y21 : Hid (Bk y21 g5 31 zBk) := hy ▸ (Bk.at_ y18 _ #[.int .u8 0, .int .u8 0, .int .u8 0, .int .u8 0, .int .u8 0, .int .u8 0, .int .u8 0, .int .u8 0, .int .i64 0, .int .u8 0, .int .u8 0, .int .u8 0, .int .u8 0, .int .u8 0, .int .u8 0, .int .u8 0, .int .u8 0, .slice none 0 0] hg rfl)
          have HG5 : Hid (w3.heap.size ≤ g5) := by show _ ≤ _; rw [← hg]; exact HBy18.out.size
          have HNE : Hid (g4 ≠ g5) := by have := HZ4y18.out.lt; show g4 ≠ g5; omega
          rw [hy, hg]
          refine hK.out _ _ ⟨HKy21.out, HJy21.out⟩ (fun hHeld => ?_)
          clear hK K hbn hy hg
          try simp only [Act.put, List.setIfInBounds_toArray, List.set_cons_zero, List.set_cons_succ, List.getElem_toArray, List.getElem_cons_zero, List.getElem_cons_succ]
          refine wpAnyH_ready (rs := [3]) (by kernel_rfl) (by simp) ?_
          refine (AllReadyH.cons rfl (fun K hK => ?_) AllReadyH.nil)
          go_simp
          rw [HYE.out]
          refine (HOB.out y21 HYy21.out).mono ?_
          rintro e y22a ⟨⟨v3, rfl, hown⟩, hbn⟩
          obtain ⟨P3, q3, rfl⟩ := own_form hown
          obtain ⟨y22, hy⟩ : ∃ y, y22a = y := ⟨_, rfl⟩
          have hbd : Below y22a.heap.size y22a y22 := hy ▸ Below.refl _ _
          have hsl := own_base (own_keep hown hbd) HBy21.out.size
          have hbn := below_then hbn hbd
          have HBy22 := Lib.hid (below_then HBy21.out hbn); have HKy22 := Lib.hid (HKy21.out.later hbn); have HJy22 := Lib.hid (HJy21.out.later hbn); have HXy22 := Lib.hid (HXy21.out.later hbn); have HYy22 := Lib.hid (HYy21.out.later hbn)
          have HO1y22 := Lib.hid (own_keep HO1y21.out hbn)
          have HZ4y22 := Lib.hid (HZ4y21.out.later hbn)
          have HZ5y22 := Lib.hid (HZ5y21.out.later hbn)
          have HO3y22 := Lib.hid hsl
          rw [hy]
          refine hK.out _ _ ⟨HKy22.out, HJy22.out⟩ (fun hHeld => ?_)
          clear hK K hown hbn hbd hy hsl
          try simp only [Act.put, List.setIfInBounds_toArray, List.set_cons_zero, List.set_cons_succ, List.getElem_toArray, List.getElem_cons_zero, List.getElem_cons_succ]
          as_aux_lemma =>
          have HF1 : Hid (BkFit (bkC p h m (.slice P1 N q1))) := bk_fit HPO.out HMO.out
          have HF3 : Hid (BkFit (bkC p' h' m' (.slice P3 N' q3))) := bk_fit HPO'.out HMO'.out
          refine wpAnyH_ready (rs := [6]) (by kernel_rfl) (by simp) ?_
          refine AllReadyH.cons rfl (fun K hK => ?_) AllReadyH.nil
          rw [if_pos (by rfl)]
          refine wp_store_part _ _ _ rfl g4 0 _ (bkC p h m (.slice P1 N q1)) rfl rfl rfl _ ([]) (zBk) ([]) (by simpa using HZ4y22.out) rfl (by rw [HF1.out.len]; rfl) HF1.out.size HF1.out.one ?_
          intro wd hp
          refine hK.out _ _ ⟨HKy22.out.grown hp.only (by intro e; injection e with e; have := HG4.out; have := HZW.out; omega), HJy22.out.grown hp.only (by intro e; injection e with e; have := HG4.out; have := HZW.out; omega)⟩ (fun hHeld => ?_)
          clear hK K
          try simp only [Act.put, List.setIfInBounds_toArray, List.set_cons_zero, List.set_cons_succ, List.getElem_toArray, List.getElem_cons_zero, List.getElem_cons_succ]
          have hb4 : Below w3.heap.size w3 wd := below_only HBy22.out hp.only HBy22.out.size HG4.out
          have k4 : Bk wd g4 31 (bkC p h m (.slice P1 N q1)) := by have := hp.bk; simpa using this
          have k5 : Bk wd g5 31 zBk := HZ5y22.out.grown hp.only (by intro e; injection e with e; have := HNE.out; omega)
          have kz : Bk wd z 25 l := HKy22.out.grown hp.only (by intro e; injection e with e; have := HG4.out; have := HZW.out; omega)
          have kj : Bk wd (z + 1) 25 l' := HJy22.out.grown hp.only (by intro e; injection e with e; have := HG4.out; have := HZW.out; omega)
          have o1 := own_only HO1y22.out hp.only (own_bk_ne HO1y22.out HZ4y22.out (by decide))
          have o3 := own_only HO3y22.out hp.only (own_bk_ne HO3y22.out HZ4y22.out (by decide))
          clear hp
          refine wpAnyH_ready (rs := [7]) (by kernel_rfl) (by simp) ?_
          refine AllReadyH.cons rfl (fun K hK => ?_) AllReadyH.nil
          rw [if_pos (by rfl)]
          refine wp_store_part _ _ _ rfl g5 0 _ (bkC p' h' m' (.slice P3 N' q3)) rfl rfl rfl _ ([]) (zBk) ([]) (by simpa using k5) rfl (by rw [HF3.out.len]; rfl) HF3.out.size HF3.out.one ?_
          intro we hp
          refine hK.out _ _ ⟨kz.grown hp.only (by intro e; injection e with e; have := HG5.out; have := HZW.out; omega), kj.grown hp.only (by intro e; injection e with e; have := HG5.out; have := HZW.out; omega)⟩ (fun hHeld => ?_)
          clear hK K
          try simp only [Act.put, List.setIfInBounds_toArray, List.set_cons_zero, List.set_cons_succ, List.getElem_toArray, List.getElem_cons_zero, List.getElem_cons_succ]
          have k5' := k5
          have hb5 : Below w3.heap.size w3 we := below_only hb4 hp.only hb4.size HG5.out
          have k5 : Bk we g5 31 (bkC p' h' m' (.slice P3 N' q3)) := by have := hp.bk; simpa using this
          have k4 : Bk we g4 31 (bkC p h m (.slice P1 N q1)) := k4.grown hp.only (by intro e; injection e with e; have := HNE.out; omega)
          have o1 := own_only o1 hp.only (own_bk_ne o1 k5' (by decide))
          have o3 := own_only o3 hp.only (own_bk_ne o3 k5' (by decide))
          clear hp
          refine wpAnyH_done rfl ?_ _
          go_wp2_with fail
          go_meet
          exact ⟨g4, g5, P1, P3, q1, q3, rfl, rfl, ⟨k4, k5, o1, o3, hb5, HNE.out, HG4.out, HG5.out⟩⟩
      ·
        go_simp
        obtain ⟨g5, hg⟩ : ∃ g, y17.heap.size = g := ⟨_, rfl⟩
        obtain ⟨y23, hy⟩ : ∃ y, (y17.alloc (.cells #[.int .u8 0, .int .u8 0, .int .u8 0, .int .u8 0, .int .u8 0, .int .u8 0, .int .u8 0, .int .u8 0, .int .i64 0, .int .u8 0, .int .u8 0, .int .u8 0, .int .u8 0, .int .u8 0, .int .u8 0, .int .u8 0, .int .u8 0, .slice none 0 0] 31)) = y := ⟨_, rfl⟩
        have hbn : Below y17.heap.size y17 y23 := hy ▸ (below_new y17 _)
        have HBy23 := Lib.hid (below_then HBy17.out hbn); have HKy23 := Lib.hid (HKy17.out.later hbn); have HJy23 := Lib.hid (HJy17.out.later hbn); have HXy23 := Lib.hid (HXy17.out.later hbn); have HYy23 := Lib.hid (HYy17.out.later hbn)
        have HZ4y23 := Lib.hid (HZ4y17.out.later hbn)
        have HZ5y23 : Hid (Bk y23 g5 31 zBk) := hy ▸ (Bk.at_ y17 _ #[.int .u8 0, .int .u8 0, .int .u8 0, .int .u8 0, .int .u8 0, .int .u8 0, .int .u8 0, .int .u8 0, .int .i64 0, .int .u8 0, .int .u8 0, .int .u8 0, .int .u8 0, .int .u8 0, .int .u8 0, .int .u8 0, .int .u8 0, .slice none 0 0] hg rfl)
        have HG5 : Hid (w3.heap.size ≤ g5) := by show _ ≤ _; rw [← hg]; exact HBy17.out.size
        have HNE : Hid (g4 ≠ g5) := by have := HZ4y17.out.lt; show g4 ≠ g5; omega
        rw [hy, hg]
        refine hK.out _ _ ⟨HKy23.out, HJy23.out⟩ (fun hHeld => ?_)
        clear hK K hbn hy hg
        try simp only [Act.put, List.setIfInBounds_toArray, List.set_cons_zero, List.set_cons_succ, List.getElem_toArray, List.getElem_cons_zero, List.getElem_cons_succ]
        refine wpAnyH_ready (rs := [1]) (by kernel_rfl) (by simp) ?_
        refine (AllReadyH.cons rfl (fun K hK => ?_) AllReadyH.nil)
        go_simp
        rw [HXE.out]
        refine (HOA.out y23 HXy23.out).mono ?_
        rintro e y24a ⟨⟨v1, rfl, hown⟩, hbn⟩
        obtain ⟨P1, q1, rfl⟩ := own_form hown
        obtain ⟨y24, hy⟩ : ∃ y, y24a = y := ⟨_, rfl⟩
        have hbd : Below y24a.heap.size y24a y24 := hy ▸ Below.refl _ _
        have hsl := own_base (own_keep hown hbd) HBy23.out.size
        have hbn := below_then hbn hbd
        have HBy24 := Lib.hid (below_then HBy23.out hbn); have HKy24 := Lib.hid (HKy23.out.later hbn); have HJy24 := Lib.hid (HJy23.out.later hbn); have HXy24 := Lib.hid (HXy23.out.later hbn); have HYy24 := Lib.hid (HYy23.out.later hbn)
        have HZ4y24 := Lib.hid (HZ4y23.out.later hbn)
        have HZ5y24 := Lib.hid (HZ5y23.out.later hbn)
        have HO1y24 := Lib.hid hsl
        rw [hy]
        refine hK.out _ _ ⟨HKy24.out, HJy24.out⟩ (fun hHeld => ?_)
        clear hK K hown hbn hbd hy hsl
        try simp only [Act.put, List.setIfInBounds_toArray, List.set_cons_zero, List.set_cons_succ, List.getElem_toArray, List.getElem_cons_zero, List.getElem_cons_succ]
        refine wpAnyH_ready (rs := [3]) (by kernel_rfl) (by simp) ?_
        refine (AllReadyH.cons rfl (fun K hK => ?_) AllReadyH.nil)
        go_simp
        rw [HYE.out]
        refine (HOB.out y24 HYy24.out).mono ?_
        rintro e y25a ⟨⟨v3, rfl, hown⟩, hbn⟩
        obtain ⟨P3, q3, rfl⟩ := own_form hown
        obtain ⟨y25, hy⟩ : ∃ y, y25a = y := ⟨_, rfl⟩
        have hbd : Below y25a.heap.size y25a y25 := hy ▸ Below.refl _ _
        have hsl := own_base (own_keep hown hbd) HBy24.out.size
        have hbn := below_then hbn hbd
        have HBy25 := Lib.hid (below_then HBy24.out hbn); have HKy25 := Lib.hid (HKy24.out.later hbn); have HJy25 := Lib.hid (HJy24.out.later hbn); have HXy25 := Lib.hid (HXy24.out.later hbn); have HYy25 := Lib.hid (HYy24.out.later hbn)
        have HO1y25 := Lib.hid (own_keep HO1y24.out hbn)
        have HZ4y25 := Lib.hid (HZ4y24.out.later hbn)
        have HZ5y25 := Lib.hid (HZ5y24.out.later hbn)
        have HO3y25 := Lib.hid hsl
        rw [hy]
        refine hK.out _ _ ⟨HKy25.out, HJy25.out⟩ (fun hHeld => ?_)
        clear hK K hown hbn hbd hy hsl
        try simp only [Act.put, List.setIfInBounds_toArray, List.set_cons_zero, List.set_cons_succ, List.getElem_toArray, List.getElem_cons_zero, List.getElem_cons_succ]
        as_aux_lemma =>
        have HF1 : Hid (BkFit (bkC p h m (.slice P1 N q1))) := bk_fit HPO.out HMO.out
        have HF3 : Hid (BkFit (bkC p' h' m' (.slice P3 N' q3))) := bk_fit HPO'.out HMO'.out
        refine wpAnyH_ready (rs := [6]) (by kernel_rfl) (by simp) ?_
        refine AllReadyH.cons rfl (fun K hK => ?_) AllReadyH.nil
        rw [if_pos (by rfl)]
        refine wp_store_part _ _ _ rfl g4 0 _ (bkC p h m (.slice P1 N q1)) rfl rfl rfl _ ([]) (zBk) ([]) (by simpa using HZ4y25.out) rfl (by rw [HF1.out.len]; rfl) HF1.out.size HF1.out.one ?_
        intro wd hp
        refine hK.out _ _ ⟨HKy25.out.grown hp.only (by intro e; injection e with e; have := HG4.out; have := HZW.out; omega), HJy25.out.grown hp.only (by intro e; injection e with e; have := HG4.out; have := HZW.out; omega)⟩ (fun hHeld => ?_)
        clear hK K
        try simp only [Act.put, List.setIfInBounds_toArray, List.set_cons_zero, List.set_cons_succ, List.getElem_toArray, List.getElem_cons_zero, List.getElem_cons_succ]
        have hb4 : Below w3.heap.size w3 wd := below_only HBy25.out hp.only HBy25.out.size HG4.out
        have k4 : Bk wd g4 31 (bkC p h m (.slice P1 N q1)) := by have := hp.bk; simpa using this
        have k5 : Bk wd g5 31 zBk := HZ5y25.out.grown hp.only (by intro e; injection e with e; have := HNE.out; omega)
        have kz : Bk wd z 25 l := HKy25.out.grown hp.only (by intro e; injection e with e; have := HG4.out; have := HZW.out; omega)
        have kj : Bk wd (z + 1) 25 l' := HJy25.out.grown hp.only (by intro e; injection e with e; have := HG4.out; have := HZW.out; omega)
        have o1 := own_only HO1y25.out hp.only (own_bk_ne HO1y25.out HZ4y25.out (by decide))
        have o3 := own_only HO3y25.out hp.only (own_bk_ne HO3y25.out HZ4y25.out (by decide))
        clear hp
        refine wpAnyH_ready (rs := [7]) (by kernel_rfl) (by simp) ?_
        refine AllReadyH.cons rfl (fun K hK => ?_) AllReadyH.nil
        rw [if_pos (by rfl)]
        refine wp_store_part _ _ _ rfl g5 0 _ (bkC p' h' m' (.slice P3 N' q3)) rfl rfl rfl _ ([]) (zBk) ([]) (by simpa using k5) rfl (by rw [HF3.out.len]; rfl) HF3.out.size HF3.out.one ?_
        intro we hp
        refine hK.out _ _ ⟨kz.grown hp.only (by intro e; injection e with e; have := HG5.out; have := HZW.out; omega), kj.grown hp.only (by intro e; injection e with e; have := HG5.out; have := HZW.out; omega)⟩ (fun hHeld => ?_)
        clear hK K
        try simp only [Act.put, List.setIfInBounds_toArray, List.set_cons_zero, List.set_cons_succ, List.getElem_toArray, List.getElem_cons_zero, List.getElem_cons_succ]
        have k5' := k5
        have hb5 : Below w3.heap.size w3 we := below_only hb4 hp.only hb4.size HG5.out
        have k5 : Bk we g5 31 (bkC p' h' m' (.slice P3 N' q3)) := by have := hp.bk; simpa using this
        have k4 : Bk we g4 31 (bkC p h m (.slice P1 N q1)) := k4.grown hp.only (by intro e; injection e with e; have := HNE.out; omega)
        have o1 := own_only o1 hp.only (own_bk_ne o1 k5' (by decide))
        have o3 := own_only o3 hp.only (own_bk_ne o3 k5' (by decide))
        clear hp
        refine wpAnyH_done rfl ?_ _
        go_wp2_with fail
        go_meet
        exact ⟨g4, g5, P1, P3, q1, q3, rfl, rfl, ⟨k4, k5, o1, o3, hb5, HNE.out, HG4.out, HG5.out⟩⟩
    ·
      go_simp
      obtain ⟨g5, hg⟩ : ∃ g, y0.heap.size = g := ⟨_, rfl⟩
      obtain ⟨y26, hy⟩ : ∃ y, (y0.alloc (.cells #[.int .u8 0, .int .u8 0, .int .u8 0, .int .u8 0, .int .u8 0, .int .u8 0, .int .u8 0, .int .u8 0, .int .i64 0, .int .u8 0, .int .u8 0, .int .u8 0, .int .u8 0, .int .u8 0, .int .u8 0, .int .u8 0, .int .u8 0, .slice none 0 0] 31)) = y := ⟨_, rfl⟩
      have hbn : Below y0.heap.size y0 y26 := hy ▸ (below_new y0 _)
      have HBy26 := Lib.hid (below_then HBy0.out hbn); have HKy26 := Lib.hid (HKy0.out.later hbn); have HJy26 := Lib.hid (HJy0.out.later hbn); have HXy26 := Lib.hid (HXy0.out.later hbn); have HYy26 := Lib.hid (HYy0.out.later hbn)
      have HZ5y26 : Hid (Bk y26 g5 31 zBk) := hy ▸ (Bk.at_ y0 _ #[.int .u8 0, .int .u8 0, .int .u8 0, .int .u8 0, .int .u8 0, .int .u8 0, .int .u8 0, .int .u8 0, .int .i64 0, .int .u8 0, .int .u8 0, .int .u8 0, .int .u8 0, .int .u8 0, .int .u8 0, .int .u8 0, .int .u8 0, .slice none 0 0] hg rfl)
      have HG5 : Hid (w3.heap.size ≤ g5) := by show _ ≤ _; rw [← hg]; exact HBy0.out.size
      rw [hy, hg]
      refine hK.out _ _ ⟨HKy26.out, HJy26.out⟩ (fun hHeld => ?_)
      clear hK K hbn hy hg
      try simp only [Act.put, List.setIfInBounds_toArray, List.set_cons_zero, List.set_cons_succ, List.getElem_toArray, List.getElem_cons_zero, List.getElem_cons_succ]
      refine wpAnyH_ready (rs := [1, 4]) (by kernel_rfl) (by simp) ?_
      refine (AllReadyH.cons rfl (fun K hK => ?_) (AllReadyH.cons rfl (fun K hK => ?_) AllReadyH.nil))
      ·
        go_simp
        rw [HXE.out]
        refine (HOA.out y26 HXy26.out).mono ?_
        rintro e y27a ⟨⟨v1, rfl, hown⟩, hbn⟩
        obtain ⟨P1, q1, rfl⟩ := own_form hown
        obtain ⟨y27, hy⟩ : ∃ y, y27a = y := ⟨_, rfl⟩
        have hbd : Below y27a.heap.size y27a y27 := hy ▸ Below.refl _ _
        have hsl := own_base (own_keep hown hbd) HBy26.out.size
        have hbn := below_then hbn hbd
        have HBy27 := Lib.hid (below_then HBy26.out hbn); have HKy27 := Lib.hid (HKy26.out.later hbn); have HJy27 := Lib.hid (HJy26.out.later hbn); have HXy27 := Lib.hid (HXy26.out.later hbn); have HYy27 := Lib.hid (HYy26.out.later hbn)
        have HZ5y27 := Lib.hid (HZ5y26.out.later hbn)
        have HO1y27 := Lib.hid hsl
        rw [hy]
        refine hK.out _ _ ⟨HKy27.out, HJy27.out⟩ (fun hHeld => ?_)
        clear hK K hown hbn hbd hy hsl
        try simp only [Act.put, List.setIfInBounds_toArray, List.set_cons_zero, List.set_cons_succ, List.getElem_toArray, List.getElem_cons_zero, List.getElem_cons_succ]
        refine wpAnyH_ready (rs := [3, 4]) (by kernel_rfl) (by simp) ?_
        refine (AllReadyH.cons rfl (fun K hK => ?_) (AllReadyH.cons rfl (fun K hK => ?_) AllReadyH.nil))
        ·
          go_simp
          rw [HYE.out]
          refine (HOB.out y27 HYy27.out).mono ?_
          rintro e y28a ⟨⟨v3, rfl, hown⟩, hbn⟩
          obtain ⟨P3, q3, rfl⟩ := own_form hown
          obtain ⟨y28, hy⟩ : ∃ y, y28a = y := ⟨_, rfl⟩
          have hbd : Below y28a.heap.size y28a y28 := hy ▸ Below.refl _ _
          have hsl := own_base (own_keep hown hbd) HBy27.out.size
          have hbn := below_then hbn hbd
          have HBy28 := Lib.hid (below_then HBy27.out hbn); have HKy28 := Lib.hid (HKy27.out.later hbn); have HJy28 := Lib.hid (HJy27.out.later hbn); have HXy28 := Lib.hid (HXy27.out.later hbn); have HYy28 := Lib.hid (HYy27.out.later hbn)
          have HO1y28 := Lib.hid (own_keep HO1y27.out hbn)
          have HZ5y28 := Lib.hid (HZ5y27.out.later hbn)
          have HO3y28 := Lib.hid hsl
          rw [hy]
          refine hK.out _ _ ⟨HKy28.out, HJy28.out⟩ (fun hHeld => ?_)
          clear hK K hown hbn hbd hy hsl
          try simp only [Act.put, List.setIfInBounds_toArray, List.set_cons_zero, List.set_cons_succ, List.getElem_toArray, List.getElem_cons_zero, List.getElem_cons_succ]
          refine wpAnyH_ready (rs := [4]) (by kernel_rfl) (by simp) ?_
          refine (AllReadyH.cons rfl (fun K hK => ?_) AllReadyH.nil)
          go_simp
          obtain ⟨g4, hg⟩ : ∃ g, y28.heap.size = g := ⟨_, rfl⟩
          obtain ⟨y29, hy⟩ : ∃ y, (y28.alloc (.cells #[.int .u8 0, .int .u8 0, .int .u8 0, .int .u8 0, .int .u8 0, .int .u8 0, .int .u8 0, .int .u8 0, .int .i64 0, .int .u8 0, .int .u8 0, .int .u8 0, .int .u8 0, .int .u8 0, .int .u8 0, .int .u8 0, .int .u8 0, .slice none 0 0] 31)) = y := ⟨_, rfl⟩
          have hbn : Below y28.heap.size y28 y29 := hy ▸ (below_new y28 _)
          have HBy29 := Lib.hid (below_then HBy28.out hbn); have HKy29 := Lib.hid (HKy28.out.later hbn); have HJy29 := Lib.hid (HJy28.out.later hbn); have HXy29 := Lib.hid (HXy28.out.later hbn); have HYy29 := Lib.hid (HYy28.out.later hbn)
          have HO1y29 := Lib.hid (own_keep HO1y28.out hbn)
          have HO3y29 := Lib.hid (own_keep HO3y28.out hbn)
          have HZ5y29 := Lib.hid (HZ5y28.out.later hbn)
          have HZ4y29 : Hid (Bk y29 g4 31 zBk) := hy ▸ (Bk.at_ y28 _ #[.int .u8 0, .int .u8 0, .int .u8 0, .int .u8 0, .int .u8 0, .int .u8 0, .int .u8 0, .int .u8 0, .int .i64 0, .int .u8 0, .int .u8 0, .int .u8 0, .int .u8 0, .int .u8 0, .int .u8 0, .int .u8 0, .int .u8 0, .slice none 0 0] hg rfl)
          have HG4 : Hid (w3.heap.size ≤ g4) := by show _ ≤ _; rw [← hg]; exact HBy28.out.size
          have HNE : Hid (g4 ≠ g5) := by have := HZ5y28.out.lt; show g4 ≠ g5; omega
          rw [hy, hg]
          refine hK.out _ _ ⟨HKy29.out, HJy29.out⟩ (fun hHeld => ?_)
          clear hK K hbn hy hg
          try simp only [Act.put, List.setIfInBounds_toArray, List.set_cons_zero, List.set_cons_succ, List.getElem_toArray, List.getElem_cons_zero, List.getElem_cons_succ]
          as_aux_lemma =>
          have HF1 : Hid (BkFit (bkC p h m (.slice P1 N q1))) := bk_fit HPO.out HMO.out
          have HF3 : Hid (BkFit (bkC p' h' m' (.slice P3 N' q3))) := bk_fit HPO'.out HMO'.out
          refine wpAnyH_ready (rs := [6]) (by kernel_rfl) (by simp) ?_
          refine AllReadyH.cons rfl (fun K hK => ?_) AllReadyH.nil
          rw [if_pos (by rfl)]
          refine wp_store_part _ _ _ rfl g4 0 _ (bkC p h m (.slice P1 N q1)) rfl rfl rfl _ ([]) (zBk) ([]) (by simpa using HZ4y29.out) rfl (by rw [HF1.out.len]; rfl) HF1.out.size HF1.out.one ?_
          intro wd hp
          refine hK.out _ _ ⟨HKy29.out.grown hp.only (by intro e; injection e with e; have := HG4.out; have := HZW.out; omega), HJy29.out.grown hp.only (by intro e; injection e with e; have := HG4.out; have := HZW.out; omega)⟩ (fun hHeld => ?_)
          clear hK K
          try simp only [Act.put, List.setIfInBounds_toArray, List.set_cons_zero, List.set_cons_succ, List.getElem_toArray, List.getElem_cons_zero, List.getElem_cons_succ]
          have hb4 : Below w3.heap.size w3 wd := below_only HBy29.out hp.only HBy29.out.size HG4.out
          have k4 : Bk wd g4 31 (bkC p h m (.slice P1 N q1)) := by have := hp.bk; simpa using this
          have k5 : Bk wd g5 31 zBk := HZ5y29.out.grown hp.only (by intro e; injection e with e; have := HNE.out; omega)
          have kz : Bk wd z 25 l := HKy29.out.grown hp.only (by intro e; injection e with e; have := HG4.out; have := HZW.out; omega)
          have kj : Bk wd (z + 1) 25 l' := HJy29.out.grown hp.only (by intro e; injection e with e; have := HG4.out; have := HZW.out; omega)
          have o1 := own_only HO1y29.out hp.only (own_bk_ne HO1y29.out HZ4y29.out (by decide))
          have o3 := own_only HO3y29.out hp.only (own_bk_ne HO3y29.out HZ4y29.out (by decide))
          clear hp
          refine wpAnyH_ready (rs := [7]) (by kernel_rfl) (by simp) ?_
          refine AllReadyH.cons rfl (fun K hK => ?_) AllReadyH.nil
          rw [if_pos (by rfl)]
          refine wp_store_part _ _ _ rfl g5 0 _ (bkC p' h' m' (.slice P3 N' q3)) rfl rfl rfl _ ([]) (zBk) ([]) (by simpa using k5) rfl (by rw [HF3.out.len]; rfl) HF3.out.size HF3.out.one ?_
          intro we hp
          refine hK.out _ _ ⟨kz.grown hp.only (by intro e; injection e with e; have := HG5.out; have := HZW.out; omega), kj.grown hp.only (by intro e; injection e with e; have := HG5.out; have := HZW.out; omega)⟩ (fun hHeld => ?_)
          clear hK K
          try simp only [Act.put, List.setIfInBounds_toArray, List.set_cons_zero, List.set_cons_succ, List.getElem_toArray, List.getElem_cons_zero, List.getElem_cons_succ]
          have k5' := k5
          have hb5 : Below w3.heap.size w3 we := below_only hb4 hp.only hb4.size HG5.out
          have k5 : Bk we g5 31 (bkC p' h' m' (.slice P3 N' q3)) := by have := hp.bk; simpa using this
          have k4 : Bk we g4 31 (bkC p h m (.slice P1 N q1)) := k4.grown hp.only (by intro e; injection e with e; have := HNE.out; omega)
          have o1 := own_only o1 hp.only (own_bk_ne o1 k5' (by decide))
          have o3 := own_only o3 hp.only (own_bk_ne o3 k5' (by decide))
          clear hp
          refine wpAnyH_done rfl ?_ _
          go_wp2_with fail
          go_meet
          exact ⟨g4, g5, P1, P3, q1, q3, rfl, rfl, ⟨k4, k5, o1, o3, hb5, HNE.out, HG4.out, HG5.out⟩⟩
        ·
          go_simp
          obtain ⟨g4, hg⟩ : ∃ g, y27.heap.size = g := ⟨_, rfl⟩
          obtain ⟨y30, hy⟩ : ∃ y, (y27.alloc (.cells #[.int .u8 0, .int .u8 0, .int .u8 0, .int .u8 0, .int .u8 0, .int .u8 0, .int .u8 0, .int .u8 0, .int .i64 0, .int .u8 0, .int .u8 0, .int .u8 0, .int .u8 0, .int .u8 0, .int .u8 0, .int .u8 0, .int .u8 0, .slice none 0 0] 31)) = y := ⟨_, rfl⟩
          have hbn : Below y27.heap.size y27 y30 := hy ▸ (below_new y27 _)
          have HBy30 := Lib.hid (below_then HBy27.out hbn); have HKy30 := Lib.hid (HKy27.out.later hbn); have HJy30 := Lib.hid (HJy27.out.later hbn); have HXy30 := Lib.hid (HXy27.out.later hbn); have HYy30 := Lib.hid (HYy27.out.later hbn)
          have HO1y30 := Lib.hid (own_keep HO1y27.out hbn)
          have HZ5y30 := Lib.hid (HZ5y27.out.later hbn)
          have HZ4y30 : Hid (Bk y30 g4 31 zBk) := hy ▸ (Bk.at_ y27 _ #[.int .u8 0, .int .u8 0, .int .u8 0, .int .u8 0, .int .u8 0, .int .u8 0, .int .u8 0, .int .u8 0, .int .i64 0, .int .u8 0, .int .u8 0, .int .u8 0, .int .u8 0, .int .u8 0, .int .u8 0, .int .u8 0, .int .u8 0, .slice none 0 0] hg rfl)
          have HG4 : Hid (w3.heap.size ≤ g4) := by show _ ≤ _; rw [← hg]; exact HBy27.out.size
          have HNE : Hid (g4 ≠ g5) := by have := HZ5y27.out.lt; show g4 ≠ g5; omega
          rw [hy, hg]
          refine hK.out _ _ ⟨HKy30.out, HJy30.out⟩ (fun hHeld => ?_)
          clear hK K hbn hy hg
          try simp only [Act.put, List.setIfInBounds_toArray, List.set_cons_zero, List.set_cons_succ, List.getElem_toArray, List.getElem_cons_zero, List.getElem_cons_succ]
          refine wpAnyH_ready (rs := [3]) (by kernel_rfl) (by simp) ?_
          refine (AllReadyH.cons rfl (fun K hK => ?_) AllReadyH.nil)
          go_simp
          rw [HYE.out]
          refine (HOB.out y30 HYy30.out).mono ?_
          rintro e y31a ⟨⟨v3, rfl, hown⟩, hbn⟩
          obtain ⟨P3, q3, rfl⟩ := own_form hown
          obtain ⟨y31, hy⟩ : ∃ y, y31a = y := ⟨_, rfl⟩
          have hbd : Below y31a.heap.size y31a y31 := hy ▸ Below.refl _ _
          have hsl := own_base (own_keep hown hbd) HBy30.out.size
          have hbn := below_then hbn hbd
          have HBy31 := Lib.hid (below_then HBy30.out hbn); have HKy31 := Lib.hid (HKy30.out.later hbn); have HJy31 := Lib.hid (HJy30.out.later hbn); have HXy31 := Lib.hid (HXy30.out.later hbn); have HYy31 := Lib.hid (HYy30.out.later hbn)
          have HO1y31 := Lib.hid (own_keep HO1y30.out hbn)
          have HZ4y31 := Lib.hid (HZ4y30.out.later hbn)
          have HZ5y31 := Lib.hid (HZ5y30.out.later hbn)
          have HO3y31 := Lib.hid hsl
          rw [hy]
          refine hK.out _ _ ⟨HKy31.out, HJy31.out⟩ (fun hHeld => ?_)
          clear hK K hown hbn hbd hy hsl
          try simp only [Act.put, List.setIfInBounds_toArray, List.set_cons_zero, List.set_cons_succ, List.getElem_toArray, List.getElem_cons_zero, List.getElem_cons_succ]
          as_aux_lemma =>
          have HF1 : Hid (BkFit (bkC p h m (.slice P1 N q1))) := bk_fit HPO.out HMO.out
          have HF3 : Hid (BkFit (bkC p' h' m' (.slice P3 N' q3))) := bk_fit HPO'.out HMO'.out
          refine wpAnyH_ready (rs := [6]) (by kernel_rfl) (by simp) ?_
          refine AllReadyH.cons rfl (fun K hK => ?_) AllReadyH.nil
          rw [if_pos (by rfl)]
          refine wp_store_part _ _ _ rfl g4 0 _ (bkC p h m (.slice P1 N q1)) rfl rfl rfl _ ([]) (zBk) ([]) (by simpa using HZ4y31.out) rfl (by rw [HF1.out.len]; rfl) HF1.out.size HF1.out.one ?_
          intro wd hp
          refine hK.out _ _ ⟨HKy31.out.grown hp.only (by intro e; injection e with e; have := HG4.out; have := HZW.out; omega), HJy31.out.grown hp.only (by intro e; injection e with e; have := HG4.out; have := HZW.out; omega)⟩ (fun hHeld => ?_)
          clear hK K
          try simp only [Act.put, List.setIfInBounds_toArray, List.set_cons_zero, List.set_cons_succ, List.getElem_toArray, List.getElem_cons_zero, List.getElem_cons_succ]
          have hb4 : Below w3.heap.size w3 wd := below_only HBy31.out hp.only HBy31.out.size HG4.out
          have k4 : Bk wd g4 31 (bkC p h m (.slice P1 N q1)) := by have := hp.bk; simpa using this
          have k5 : Bk wd g5 31 zBk := HZ5y31.out.grown hp.only (by intro e; injection e with e; have := HNE.out; omega)
          have kz : Bk wd z 25 l := HKy31.out.grown hp.only (by intro e; injection e with e; have := HG4.out; have := HZW.out; omega)
          have kj : Bk wd (z + 1) 25 l' := HJy31.out.grown hp.only (by intro e; injection e with e; have := HG4.out; have := HZW.out; omega)
          have o1 := own_only HO1y31.out hp.only (own_bk_ne HO1y31.out HZ4y31.out (by decide))
          have o3 := own_only HO3y31.out hp.only (own_bk_ne HO3y31.out HZ4y31.out (by decide))
          clear hp
          refine wpAnyH_ready (rs := [7]) (by kernel_rfl) (by simp) ?_
          refine AllReadyH.cons rfl (fun K hK => ?_) AllReadyH.nil
          rw [if_pos (by rfl)]
          refine wp_store_part _ _ _ rfl g5 0 _ (bkC p' h' m' (.slice P3 N' q3)) rfl rfl rfl _ ([]) (zBk) ([]) (by simpa using k5) rfl (by rw [HF3.out.len]; rfl) HF3.out.size HF3.out.one ?_
          intro we hp
          refine hK.out _ _ ⟨kz.grown hp.only (by intro e; injection e with e; have := HG5.out; have := HZW.out; omega), kj.grown hp.only (by intro e; injection e with e; have := HG5.out; have := HZW.out; omega)⟩ (fun hHeld => ?_)
          clear hK K
          try simp only [Act.put, List.setIfInBounds_toArray, List.set_cons_zero, List.set_cons_succ, List.getElem_toArray, List.getElem_cons_zero, List.getElem_cons_succ]
          have k5' := k5
          have hb5 : Below w3.heap.size w3 we := below_only hb4 hp.only hb4.size HG5.out
          have k5 : Bk we g5 31 (bkC p' h' m' (.slice P3 N' q3)) := by have := hp.bk; simpa using this
          have k4 : Bk we g4 31 (bkC p h m (.slice P1 N q1)) := k4.grown hp.only (by intro e; injection e with e; have := HNE.out; omega)
          have o1 := own_only o1 hp.only (own_bk_ne o1 k5' (by decide))
          have o3 := own_only o3 hp.only (own_bk_ne o3 k5' (by decide))
          clear hp
          refine wpAnyH_done rfl ?_ _
          go_wp2_with fail
          go_meet
          exact ⟨g4, g5, P1, P3, q1, q3, rfl, rfl, ⟨k4, k5, o1, o3, hb5, HNE.out, HG4.out, HG5.out⟩⟩
      ·
        go_simp
        obtain ⟨g4, hg⟩ : ∃ g, y26.heap.size = g := ⟨_, rfl⟩
        obtain ⟨y32, hy⟩ : ∃ y, (y26.alloc (.cells #[.int .u8 0, .int .u8 0, .int .u8 0, .int .u8 0, .int .u8 0, .int .u8 0, .int .u8 0, .int .u8 0, .int .i64 0, .int .u8 0, .int .u8 0, .int .u8 0, .int .u8 0, .int .u8 0, .int .u8 0, .int .u8 0, .int .u8 0, .slice none 0 0] 31)) = y := ⟨_, rfl⟩
        have hbn : Below y26.heap.size y26 y32 := hy ▸ (below_new y26 _)
        have HBy32 := Lib.hid (below_then HBy26.out hbn); have HKy32 := Lib.hid (HKy26.out.later hbn); have HJy32 := Lib.hid (HJy26.out.later hbn); have HXy32 := Lib.hid (HXy26.out.later hbn); have HYy32 := Lib.hid (HYy26.out.later hbn)
        have HZ5y32 := Lib.hid (HZ5y26.out.later hbn)
        have HZ4y32 : Hid (Bk y32 g4 31 zBk) := hy ▸ (Bk.at_ y26 _ #[.int .u8 0, .int .u8 0, .int .u8 0, .int .u8 0, .int .u8 0, .int .u8 0, .int .u8 0, .int .u8 0, .int .i64 0, .int .u8 0, .int .u8 0, .int .u8 0, .int .u8 0, .int .u8 0, .int .u8 0, .int .u8 0, .int .u8 0, .slice none 0 0] hg rfl)
        have HG4 : Hid (w3.heap.size ≤ g4) := by show _ ≤ _; rw [← hg]; exact HBy26.out.size
        have HNE : Hid (g4 ≠ g5) := by have := HZ5y26.out.lt; show g4 ≠ g5; omega
        rw [hy, hg]
        refine hK.out _ _ ⟨HKy32.out, HJy32.out⟩ (fun hHeld => ?_)
        clear hK K hbn hy hg
        try simp only [Act.put, List.setIfInBounds_toArray, List.set_cons_zero, List.set_cons_succ, List.getElem_toArray, List.getElem_cons_zero, List.getElem_cons_succ]
        refine wpAnyH_ready (rs := [1]) (by kernel_rfl) (by simp) ?_
        refine (AllReadyH.cons rfl (fun K hK => ?_) AllReadyH.nil)
        go_simp
        rw [HXE.out]
        refine (HOA.out y32 HXy32.out).mono ?_
        rintro e y33a ⟨⟨v1, rfl, hown⟩, hbn⟩
        obtain ⟨P1, q1, rfl⟩ := own_form hown
        obtain ⟨y33, hy⟩ : ∃ y, y33a = y := ⟨_, rfl⟩
        have hbd : Below y33a.heap.size y33a y33 := hy ▸ Below.refl _ _
        have hsl := own_base (own_keep hown hbd) HBy32.out.size
        have hbn := below_then hbn hbd
        have HBy33 := Lib.hid (below_then HBy32.out hbn); have HKy33 := Lib.hid (HKy32.out.later hbn); have HJy33 := Lib.hid (HJy32.out.later hbn); have HXy33 := Lib.hid (HXy32.out.later hbn); have HYy33 := Lib.hid (HYy32.out.later hbn)
        have HZ4y33 := Lib.hid (HZ4y32.out.later hbn)
        have HZ5y33 := Lib.hid (HZ5y32.out.later hbn)
        have HO1y33 := Lib.hid hsl
        rw [hy]
        refine hK.out _ _ ⟨HKy33.out, HJy33.out⟩ (fun hHeld => ?_)
        clear hK K hown hbn hbd hy hsl
        try simp only [Act.put, List.setIfInBounds_toArray, List.set_cons_zero, List.set_cons_succ, List.getElem_toArray, List.getElem_cons_zero, List.getElem_cons_succ]
        refine wpAnyH_ready (rs := [3]) (by kernel_rfl) (by simp) ?_
        refine (AllReadyH.cons rfl (fun K hK => ?_) AllReadyH.nil)
        go_simp
        rw [HYE.out]
        refine (HOB.out y33 HYy33.out).mono ?_
        rintro e y34a ⟨⟨v3, rfl, hown⟩, hbn⟩
        obtain ⟨P3, q3, rfl⟩ := own_form hown
        obtain ⟨y34, hy⟩ : ∃ y, y34a = y := ⟨_, rfl⟩
        have hbd : Below y34a.heap.size y34a y34 := hy ▸ Below.refl _ _
        have hsl := own_base (own_keep hown hbd) HBy33.out.size
        have hbn := below_then hbn hbd
        have HBy34 := Lib.hid (below_then HBy33.out hbn); have HKy34 := Lib.hid (HKy33.out.later hbn); have HJy34 := Lib.hid (HJy33.out.later hbn); have HXy34 := Lib.hid (HXy33.out.later hbn); have HYy34 := Lib.hid (HYy33.out.later hbn)
        have HO1y34 := Lib.hid (own_keep HO1y33.out hbn)
        have HZ4y34 := Lib.hid (HZ4y33.out.later hbn)
        have HZ5y34 := Lib.hid (HZ5y33.out.later hbn)
        have HO3y34 := Lib.hid hsl
        rw [hy]
        refine hK.out _ _ ⟨HKy34.out, HJy34.out⟩ (fun hHeld => ?_)
        clear hK K hown hbn hbd hy hsl
        try simp only [Act.put, List.setIfInBounds_toArray, List.set_cons_zero, List.set_cons_succ, List.getElem_toArray, List.getElem_cons_zero, List.getElem_cons_succ]
        as_aux_lemma =>
        have HF1 : Hid (BkFit (bkC p h m (.slice P1 N q1))) := bk_fit HPO.out HMO.out
        have HF3 : Hid (BkFit (bkC p' h' m' (.slice P3 N' q3))) := bk_fit HPO'.out HMO'.out
        refine wpAnyH_ready (rs := [6]) (by kernel_rfl) (by simp) ?_
        refine AllReadyH.cons rfl (fun K hK => ?_) AllReadyH.nil
        rw [if_pos (by rfl)]
        refine wp_store_part _ _ _ rfl g4 0 _ (bkC p h m (.slice P1 N q1)) rfl rfl rfl _ ([]) (zBk) ([]) (by simpa using HZ4y34.out) rfl (by rw [HF1.out.len]; rfl) HF1.out.size HF1.out.one ?_
        intro wd hp
        refine hK.out _ _ ⟨HKy34.out.grown hp.only (by intro e; injection e with e; have := HG4.out; have := HZW.out; omega), HJy34.out.grown hp.only (by intro e; injection e with e; have := HG4.out; have := HZW.out; omega)⟩ (fun hHeld => ?_)
        clear hK K
        try simp only [Act.put, List.setIfInBounds_toArray, List.set_cons_zero, List.set_cons_succ, List.getElem_toArray, List.getElem_cons_zero, List.getElem_cons_succ]
        have hb4 : Below w3.heap.size w3 wd := below_only HBy34.out hp.only HBy34.out.size HG4.out
        have k4 : Bk wd g4 31 (bkC p h m (.slice P1 N q1)) := by have := hp.bk; simpa using this
        have k5 : Bk wd g5 31 zBk := HZ5y34.out.grown hp.only (by intro e; injection e with e; have := HNE.out; omega)
        have kz : Bk wd z 25 l := HKy34.out.grown hp.only (by intro e; injection e with e; have := HG4.out; have := HZW.out; omega)
        have kj : Bk wd (z + 1) 25 l' := HJy34.out.grown hp.only (by intro e; injection e with e; have := HG4.out; have := HZW.out; omega)
        have o1 := own_only HO1y34.out hp.only (own_bk_ne HO1y34.out HZ4y34.out (by decide))
        have o3 := own_only HO3y34.out hp.only (own_bk_ne HO3y34.out HZ4y34.out (by decide))
        clear hp
        refine wpAnyH_ready (rs := [7]) (by kernel_rfl) (by simp) ?_
        refine AllReadyH.cons rfl (fun K hK => ?_) AllReadyH.nil
        rw [if_pos (by rfl)]
        refine wp_store_part _ _ _ rfl g5 0 _ (bkC p' h' m' (.slice P3 N' q3)) rfl rfl rfl _ ([]) (zBk) ([]) (by simpa using k5) rfl (by rw [HF3.out.len]; rfl) HF3.out.size HF3.out.one ?_
        intro we hp
        refine hK.out _ _ ⟨kz.grown hp.only (by intro e; injection e with e; have := HG5.out; have := HZW.out; omega), kj.grown hp.only (by intro e; injection e with e; have := HG5.out; have := HZW.out; omega)⟩ (fun hHeld => ?_)
        clear hK K
        try simp only [Act.put, List.setIfInBounds_toArray, List.set_cons_zero, List.set_cons_succ, List.getElem_toArray, List.getElem_cons_zero, List.getElem_cons_succ]
        have k5' := k5
        have hb5 : Below w3.heap.size w3 we := below_only hb4 hp.only hb4.size HG5.out
        have k5 : Bk we g5 31 (bkC p' h' m' (.slice P3 N' q3)) := by have := hp.bk; simpa using this
        have k4 : Bk we g4 31 (bkC p h m (.slice P1 N q1)) := k4.grown hp.only (by intro e; injection e with e; have := HNE.out; omega)
        have o1 := own_only o1 hp.only (own_bk_ne o1 k5' (by decide))
        have o3 := own_only o3 hp.only (own_bk_ne o3 k5' (by decide))
        clear hp
        refine wpAnyH_done rfl ?_ _
        go_wp2_with fail
        go_meet
        exact ⟨g4, g5, P1, P3, q1, q3, rfl, rfl, ⟨k4, k5, o1, o3, hb5, HNE.out, HG4.out, HG5.out⟩⟩
  obtain ⟨gX, gY, P1, P3, q1, q3, rfl, rfl, hT⟩ := hcut
  have HT4 := Lib.hid hT
  have HQ4 := Lib.hid (HQ3.out.later hT.bl)
  have HGX : Hid (z + 3 ≤ gX) := Nat.le_trans HZW3.out hT.gx
  have HXG : Hid (∀ x ∈ xs, Txg w3 x.1 x.2) := HX3.out.th
  have HYG : Hid (∀ x ∈ ys, Txg w3 x.1 x.2) := HY3.out.th
  have HN1 : Hid (N' ≤ 1000) := by have := HN'.out; show N' ≤ 1000; omega
  clear hT HK3 HJ3 HQ3 HX3 HY3 HOA HOB HFW HFW' HF0 HF0' HFE HFE'
  refine ‹∀ (a : Act) (w : World), Code.wp _ _ _ a w → _› _ _ ?_
  obtain ⟨C0, hC0⟩ : ∃ l, bkC p h m (.slice P1 N q1) = l := ⟨_, rfl⟩
  obtain ⟨CY, hCY⟩ : ∃ l, bkC p' h' m' (.slice P3 N' q3) = l := ⟨_, rfl⟩
  have HF0 : Hid (BkFit C0) := hC0 ▸ bk_fit HPO.out HMO.out
  have HFY : Hid (BkFit CY) := hCY ▸ bk_fit HPO'.out HMO'.out
  have HC0 := Lib.hid hC0; have HCY := Lib.hid hCY
  rw [hC0, hCY] at HT4
  have HMY : Hid (∀ w' g', Bk w' g' 31 CY → BkcM w' g' p' h' m' (.slice P3 N' q3)) := fun w' g' k => by rw [← hCY] at k; exact bkc_mem HPO'.out HMO'.out k
  clear hC0 hCY
  have HNM := Lib.hid (fun w' (T : TwoW w3 w' gX gY C0 CY P1 N q1 xs P3 N' q3 ys) => T.name HCY.out HYG.out HPO'.out HMO'.out HN1.out HEA.out)
  have HR0 := Lib.hid (fun w' (T : TwoW w3 w' gX gY C0 CY P1 N q1 xs P3 N' q3 ys) => T.right HC0.out HXG.out HPO.out HMO.out)
  have HK0 := Lib.hid (fun w' (T : TwoW w3 w' gX gY C0 CY P1 N q1 xs P3 N' q3 ys) => T.check HC0.out HCY.out HXG.out HYG.out HPO.out HMO.out HPO'.out HMO'.out HN1.out HEA.out)
  have HRG := Lib.hid (fun (lX : List Value) (pp : List Int) (hh : Int) w' (T : TwoW w3 w' gX gY lX CY P1 N q1 xs P3 N' q3 ys) (e : bkC pp hh m (.slice P1 N q1) = lX) (hpp : DgOk pp) => T.right e HXG.out hpp HMO.out)
  have HKG := Lib.hid (fun (lX : List Value) (pp : List Int) (hh : Int) w' (T : TwoW w3 w' gX gY lX CY P1 N q1 xs P3 N' q3 ys) (e : bkC pp hh m (.slice P1 N q1) = lX) (hpp : DgOk pp) => T.check e HCY.out HXG.out HYG.out hpp HMO.out HPO'.out HMO'.out HN1.out HEA.out)
  have HDO : Hid (DgOk (nameT p' h' m' N' (ys.map (·.2)))) := nameT_ok _ _ _ _ _
  rw [HLL.out] at HR0 HK0 HRG HKG
  rw [HLL'.out] at HK0 HKG HNM HDO
  obtain ⟨D, hD⟩ : ∃ D, nameT p' h' m' N' L' = D := ⟨_, rfl⟩
  obtain ⟨E', hE'⟩ : ∃ E, blkE h' L' = E := ⟨_, rfl⟩
  have hrange : E' = 0 → 0 ≤ h' ∧ h' ≤ 1099511627776 := fun e => by
    have := (blkE_zero (hE'.trans e)).1
    omega
  rw [hD] at HK0 HKG HNM HDO
  rw [hE'] at HK0 HKG HNM
  clear hD hE'
  obtain ⟨E0, hE0⟩ : ∃ E, blkE h L = E := ⟨_, rfl⟩
  rw [hE0] at HR0 HK0
  clear hE0
  go_wp2_with (with_reducible refine wpList_load_bk rfl 31 _ rfl gY rfl CY 31 HT4.out.y _ Tryd.underlying31 rfl HFY.out.size ?_)
  refine (HNM.out wc HT4.out).mono ?_
  rintro e w5 ⟨rfl, hbn⟩
  have HT5 := Lib.hid (HT4.out.later hbn); have HQ5 := Lib.hid (HQ4.out.later hbn)
  clear hbn HT4 HQ4 HNM
  go_wp2_with (with_reducible refine stop_store 28 _ _ rfl ?_)
  refine StopD.go ?_
  obtain ⟨g6, hg6⟩ : ∃ g, w5.heap.size = g := ⟨_, rfl⟩
  have hbn : Below w5.heap.size w5 (w5.alloc (.cells #[.int .u8 0, .int .u8 0, .int .u8 0, .int .u8 0, .int .u8 0, .int .u8 0, .int .u8 0, .int .u8 0] 28)) := below_new w5 _
  have kt : Bk (w5.alloc (.cells #[.int .u8 0, .int .u8 0, .int .u8 0, .int .u8 0, .int .u8 0, .int .u8 0, .int .u8 0, .int .u8 0] 28)) g6 28 ([] ++ (dl zeroD ++ [])) := by rw [← hg6]; exact Bk.new' w5 _ #[.int .u8 0, .int .u8 0, .int .u8 0, .int .u8 0, .int .u8 0, .int .u8 0, .int .u8 0, .int .u8 0] rfl
  rw [hg6]
  refine wpList_store_part rfl 28 _ _ rfl g6 0 (.agg (dl D).toArray) (dl D) rfl rfl rfl 28 [] (dl zeroD) [] kt rfl (by rw [dl_len, dl_len, HDO.out.len]; rfl) (hdg_size _ HDO.out) (dl_one' _) ?_
  intro w6 hp
  have hbn : Below w5.heap.size w5 w6 := hbn.grown hp.only hbn.size (fun q hq => by injection hq with hq; omega)
  have HD6 : Hid (Bk w6 g6 28 (dl D)) := by show Bk _ _ _ _; have := hp.bk; simpa using this
  clear hp kt
  have HXD : Hid (gX < g6 ∧ gY < g6) := by show _ ∧ _; rw [← hg6]; exact ⟨HT5.out.x.lt, HT5.out.y.lt⟩
  have HT6 := Lib.hid (HT5.out.later hbn); have HQ6 := Lib.hid (HQ5.out.later hbn)
  clear hbn HT5 HQ5 hg6
  by_cases hE1 : E' = 0
  · obtain ⟨hr0, hr1⟩ := hrange hE1
    subst hE1
    have hwr : wrap64 (h' + 1) = h' + 1 := IntWalk.wrap64_in _ (by omega)
    have hwr2 : IntKind.i64.wrap (h' + 1) = h' + 1 := IntWalk.i64_in _ (by omega)
    have HH0 := Lib.hid hr0
    clear hrange hr0 hr1 HR0 HK0
    go_wp2_with fail
    go_cut [] (fun wx => TwoW w3 wx gX gY (bkC D (h' + 1) m (.slice P1 N q1)) CY P1 N q1 xs P3 N' q3 ys ∧ Bk wx g6 28 (dl D) ∧ Bk wx (z + 2) 22 (dl o))
    case first =>
      refine wp_region_held_drew (S := fun w' => Bk w' gY 31 CY ∧ Bk w' g6 28 (dl D)) (by kernel_rfl) ⟨Bk.drew HT6.out.y, Bk.drew HD6.out⟩ (fun hHeld => ?_)
      have hbn : Below w6.heap.size w6 w6.drew := below_draws w6 w6.heap.size 1
      obtain ⟨w7, hw7⟩ : ∃ wa, w6.drew = wa := ⟨_, rfl⟩
      rw [hw7] at hbn hHeld ⊢
      have HT7 := Lib.hid (HT6.out.later hbn); have HQ7 := Lib.hid (HQ6.out.later hbn); have HD7 := Lib.hid (HD6.out.later hbn)
      clear hw7 hbn HT6 HQ6 HD6
      refine wpAnyH_take (i := 0) (v := .agg (List.toArray (dl D))) rfl (by kernel_rfl) (by kernel_rfl) (by kernel_rfl) (fun _ _ _ h => h) (yieldsIf_load_mid (by rfl) _ _ rfl _ _ rfl (dl D) _ (fun w hSw => (Bk.range (pre := []) (post := []) (by simpa using hSw.2) rfl)) Tryd.underlying28 rfl (hdg_size _ HDO.out)) (by assumption) ?_
      try simp only [Act.put, List.setIfInBounds_toArray, List.set_cons_zero, List.set_cons_succ, List.getElem_toArray, List.getElem_cons_zero, List.getElem_cons_succ]
      refine wpAnyH_take (i := 1) (v := ?_) rfl (by kernel_rfl) (by kernel_rfl) (by kernel_rfl) (fun _ _ _ h => h) (Or.inl ⟨by rfl, ?_⟩) (by assumption) ?_
      rotate_left
      · intro w hSw
        (try dsimp only at hSw)
        go_simp
        try with_reducible rfl
      try simp only [Act.put, List.setIfInBounds_toArray, List.set_cons_zero, List.set_cons_succ, List.getElem_toArray, List.getElem_cons_zero, List.getElem_cons_succ]
      refine wpAnyH_take (i := 2) (v := ?_) rfl (by kernel_rfl) (by kernel_rfl) (by kernel_rfl) (fun _ _ _ h => h) (Or.inl ⟨by rfl, ?_⟩) (by assumption) ?_
      rotate_left
      · intro w hSw
        have hcell := (HMY.out _ _ hSw.1).c8
        clear hSw
        go_simp
        try with_reducible rfl
      try simp only [Act.put, List.setIfInBounds_toArray, List.set_cons_zero, List.set_cons_succ, List.getElem_toArray, List.getElem_cons_zero, List.getElem_cons_succ]
      refine wpAnyH_take (i := 4) (v := ?_) rfl (by kernel_rfl) (by kernel_rfl) (by kernel_rfl) (fun _ _ _ h => h) (Or.inl ⟨by rfl, ?_⟩) (by assumption) ?_
      rotate_left
      · intro w hSw
        (try dsimp only at hSw)
        go_simp
        try with_reducible rfl
      try simp only [Act.put, List.setIfInBounds_toArray, List.set_cons_zero, List.set_cons_succ, List.getElem_toArray, List.getElem_cons_zero, List.getElem_cons_succ]
      refine wpAnyH_take (i := 3) (v := ?_) rfl (by kernel_rfl) (by kernel_rfl) (by kernel_rfl) (fun _ _ _ h => h) (Or.inl ⟨by rfl, ?_⟩) (by assumption) ?_
      rotate_left
      · intro w hSw
        (try dsimp only at hSw)
        go_simp
        try with_reducible rfl
      try simp only [Act.put, List.setIfInBounds_toArray, List.set_cons_zero, List.set_cons_succ, List.getElem_toArray, List.getElem_cons_zero, List.getElem_cons_succ]
      refine wpAnyH_ready (rs := [5]) (by kernel_rfl) (by simp) ?_
      refine AllReadyH.cons rfl (fun K hK => ?_) AllReadyH.nil
      rw [if_pos (by rfl)]
      refine wp_store_part _ _ _ rfl gX 0 _ (dl D) rfl rfl rfl _ ([]) (dl p) ((.int .i64 h :: (dl m ++ [.slice P1 N q1]))) (by have := HT7.out.x; rw [← HC0.out] at this; simpa [bkC] using this) rfl (by rw [dl_len, dl_len, HPO.out.len, HDO.out.len]) (hdg_size _ HDO.out) (dl_one' _) ?_
      intro w8 hp
      refine hK.out _ _ ⟨HT7.out.y.grown hp.only (by intro e; injection e with e; have := HT7.out.ne; omega), HD7.out.grown hp.only (by intro e; injection e with e; have := HXD.out.1; omega)⟩ (fun hHeld => ?_)
      clear hK K
      try simp only [Act.put, List.setIfInBounds_toArray, List.set_cons_zero, List.set_cons_succ, List.getElem_toArray, List.getElem_cons_zero, List.getElem_cons_succ]
      have HT8 := Lib.hid (HT7.out.put (l := bkC D h m (.slice P1 N q1)) hp.only (by have := hp.bk; simpa [bkC] using this))
      have HD8 := Lib.hid (HD7.out.grown hp.only (by intro e; injection e with e; have := HXD.out.1; omega))
      have HQ8 := Lib.hid (HQ7.out.grown hp.only (by intro e; injection e with e; have := HGX.out; omega))
      clear hp HT7 HD7 HQ7
      refine wpAnyH_take (i := 6) (v := ?_) rfl (by kernel_rfl) (by kernel_rfl) (by kernel_rfl) (fun _ _ _ h => h) (Or.inl ⟨by rfl, ?_⟩) (by assumption) ?_
      rotate_left
      · intro w hSw
        (try dsimp only at hSw)
        go_simp
        try with_reducible rfl
      try simp only [Act.put, List.setIfInBounds_toArray, List.set_cons_zero, List.set_cons_succ, List.getElem_toArray, List.getElem_cons_zero, List.getElem_cons_succ]
      refine wpAnyH_ready (rs := [7]) (by kernel_rfl) (by simp) ?_
      refine AllReadyH.cons rfl (fun K hK => ?_) AllReadyH.nil
      rw [if_pos (by rfl)]
      refine wp_store_part _ _ _ rfl gX 8 _ ([.int .i64 (h' + 1)]) rfl rfl rfl _ ((dl D)) ([.int .i64 h]) ((dl m ++ [.slice P1 N q1])) (by have := HT8.out.x; simpa [bkC] using this) (by rw [dl_len, HDO.out.len]) rfl (by kernel_rfl) (by intro x hx; simp at hx; subst hx; rfl) ?_
      intro w9 hp
      refine hK.out _ _ ⟨HT8.out.y.grown hp.only (by intro e; injection e with e; have := HT8.out.ne; omega), HD8.out.grown hp.only (by intro e; injection e with e; have := HXD.out.1; omega)⟩ (fun hHeld => ?_)
      clear hK K
      try simp only [Act.put, List.setIfInBounds_toArray, List.set_cons_zero, List.set_cons_succ, List.getElem_toArray, List.getElem_cons_zero, List.getElem_cons_succ]
      have HT9 := Lib.hid (HT8.out.put (l := bkC D (h' + 1) m (.slice P1 N q1)) hp.only (by have := hp.bk; simpa [bkC] using this))
      have HD9 := Lib.hid (HD8.out.grown hp.only (by intro e; injection e with e; have := HXD.out.1; omega))
      have HQ9 := Lib.hid (HQ8.out.grown hp.only (by intro e; injection e with e; have := HGX.out; omega))
      clear hp HT8 HD8 HQ8
      refine wpAnyH_done rfl ?_ _
      go_wp2_with fail
      go_meet
      exact ⟨HT9.out, HD9.out, HQ9.out⟩
    clear HT6 HD6 HQ6
    have HT9 := Lib.hid hcut.1; have HD9 := Lib.hid hcut.2.1; have HQ9 := Lib.hid hcut.2.2
    clear hcut
    refine ‹∀ (a : Act) (w : World), Code.wp _ _ _ a w → _› _ _ ?_
    rename World => w9
    obtain ⟨C1, hC1⟩ : ∃ l, bkC D (h' + 1) m (.slice P1 N q1) = l := ⟨_, rfl⟩
    have HF1 : Hid (BkFit C1) := hC1 ▸ bk_fit HDO.out HMO.out
    have HC1 := Lib.hid hC1
    rw [hC1] at HT9
    have HR1 := Lib.hid (fun w' (T : TwoW w3 w' gX gY C1 CY P1 N q1 xs P3 N' q3 ys) => HRG.out C1 D (h' + 1) w' T HC1.out HDO.out)
    have HK1 := Lib.hid (fun w' (T : TwoW w3 w' gX gY C1 CY P1 N q1 xs P3 N' q3 ys) => HKG.out C1 D (h' + 1) w' T HC1.out HDO.out)
    clear hC1
    obtain ⟨E1, hE1⟩ : ∃ E, blkE (h' + 1) L = E := ⟨_, rfl⟩
    have HE1 := Lib.hid hE1
    rw [hE1] at HR1 HK1
    simp only [checkB_eq] at HK1
    clear hE1
    go_wp2_with fail
    go_cut [65] (fun v wx => v = .bool false ∧ TwoW w3 wx gX gY C1 CY P1 N q1 xs P3 N' q3 ys ∧ Bk wx g6 28 (dl D) ∧ Bk wx (z + 2) 22 (dl o))
    case first =>
      refine wp_region_held_drew (S := fun w' => Bk w' gX 31 C1 ∧ Bk w' gY 31 CY) (by kernel_rfl) ⟨Bk.drew HT9.out.x, Bk.drew HT9.out.y⟩ (fun hHeld => ?_)
      have hbn : Below w9.heap.size w9 w9.drew := below_draws w9 w9.heap.size 1
      obtain ⟨wa, hwa⟩ : ∃ wa, w9.drew = wa := ⟨_, rfl⟩
      rw [hwa] at hbn hHeld ⊢
      have HTa := Lib.hid (HT9.out.later hbn); have HQa := Lib.hid (HQ9.out.later hbn); have HDa := Lib.hid (HD9.out.later hbn)
      clear hwa hbn HT9 HQ9 HD9
      refine wpAnyH_take (i := 0) (v := .agg (List.toArray (C1))) rfl (by kernel_rfl) (by kernel_rfl) (by kernel_rfl) (fun _ _ _ h => h) (yieldsIf_load_mid (by rfl) _ _ rfl _ _ rfl (C1) _ (fun w hSw => (Bk.range (pre := []) (post := []) (by simpa using hSw.1) rfl)) Tryd.underlying31 rfl (HF1.out.size)) (by assumption) ?_
      try simp only [Act.put, List.setIfInBounds_toArray, List.set_cons_zero, List.set_cons_succ, List.getElem_toArray, List.getElem_cons_zero, List.getElem_cons_succ]
      refine wpAnyH_take (i := 1) (v := .agg (List.toArray (CY))) rfl (by kernel_rfl) (by kernel_rfl) (by kernel_rfl) (fun _ _ _ h => h) (yieldsIf_load_mid (by rfl) _ _ rfl _ _ rfl (CY) _ (fun w hSw => (Bk.range (pre := []) (post := []) (by simpa using hSw.2) rfl)) Tryd.underlying31 rfl (HFY.out.size)) (by assumption) ?_
      try simp only [Act.put, List.setIfInBounds_toArray, List.set_cons_zero, List.set_cons_succ, List.getElem_toArray, List.getElem_cons_zero, List.getElem_cons_succ]
      refine wpAnyH_take (i := 3) (v := .agg (List.toArray (C1))) rfl (by kernel_rfl) (by kernel_rfl) (by kernel_rfl) (fun _ _ _ h => h) (yieldsIf_load_mid (by rfl) _ _ rfl _ _ rfl (C1) _ (fun w hSw => (Bk.range (pre := []) (post := []) (by simpa using hSw.1) rfl)) Tryd.underlying31 rfl (HF1.out.size)) (by assumption) ?_
      try simp only [Act.put, List.setIfInBounds_toArray, List.set_cons_zero, List.set_cons_succ, List.getElem_toArray, List.getElem_cons_zero, List.getElem_cons_succ]
      refine wpAnyH_ready (rs := [2]) (by kernel_rfl) (by simp) ?_
      refine AllReadyH.cons rfl (fun K hK => ?_) AllReadyH.nil
      go_simp
      (refine (HK1.out wa HTa.out).mono ?_; rintro e wb ⟨rfl, hbn⟩; have HTb := Lib.hid (HTa.out.later hbn); have HQb := Lib.hid (HQa.out.later hbn); have HDb := Lib.hid (HDa.out.later hbn))
      refine hK.out _ _ (⟨HTb.out.x, HTb.out.y⟩) (fun hHeld => ?_)
      clear hK K
      try simp only [Act.put, List.setIfInBounds_toArray, List.set_cons_zero, List.set_cons_succ, List.getElem_toArray, List.getElem_cons_zero, List.getElem_cons_succ]
      clear hbn HTa HQa HDa
      refine wpAnyH_ready (rs := [4]) (by kernel_rfl) (by simp) ?_
      refine AllReadyH.cons rfl (fun K hK => ?_) AllReadyH.nil
      go_simp
      (refine (HR1.out wb HTb.out).mono ?_; rintro e wd ⟨rfl, hbn⟩; have HTd := Lib.hid (HTb.out.later hbn); have HQd := Lib.hid (HQb.out.later hbn); have HDd := Lib.hid (HDb.out.later hbn))
      refine hK.out _ _ (⟨HTd.out.x, HTd.out.y⟩) (fun hHeld => ?_)
      clear hK K
      try simp only [Act.put, List.setIfInBounds_toArray, List.set_cons_zero, List.set_cons_succ, List.getElem_toArray, List.getElem_cons_zero, List.getElem_cons_succ]
      clear hbn HTb HQb HDb
      have hEE : (E1 != E1) = false := by simp
      refine wpAnyH_take (i := 5) (v := ?_) rfl (by kernel_rfl) (by kernel_rfl) (by kernel_rfl) (fun _ _ _ h => h) (Or.inl ⟨by rfl, ?_⟩) (by assumption) ?_
      rotate_left
      · intro w hSw
        (try dsimp only at hSw)
        go_simp
        try with_reducible rfl
      try simp only [Act.put, List.setIfInBounds_toArray, List.set_cons_zero, List.set_cons_succ, List.getElem_toArray, List.getElem_cons_zero, List.getElem_cons_succ]
      refine wpAnyH_done rfl ?_ _
      go_wp2_with fail
      go_meet
      exact ⟨by simp, HTd.out, HDd.out, HQd.out⟩
    clear HT9 HD9 HQ9 HK1
    obtain ⟨rfl, hcut⟩ := hcut
    have HTa := Lib.hid hcut.1; have HDa := Lib.hid hcut.2.1; have HQa := Lib.hid hcut.2.2
    clear hcut
    refine ‹∀ (a : Act) (w : World), Code.wp _ _ _ a w → _› _ _ ?_
    rename World => wa
    go_wp2_with (first
      | (with_reducible refine wpList_load_bk rfl 22 _ rfl (z + 2) rfl (dl o) 22 HQa.out _ Tryd.underlying22 rfl (rdg_sz HOO.out) ?_)
      | (with_reducible refine stop_store 28 _ _ rfl ?_))
    refine StopD.go ?_
    refine wpList_store_part rfl 28 _ _ rfl gX 0 (.agg (dl o).toArray) (dl o) rfl rfl rfl 31 [] (dl D) (.int .i64 (h' + 1) :: (dl m ++ [.slice P1 N q1])) (by have := HTa.out.x; rw [← HC1.out] at this; simpa [bkC] using this) rfl (by rw [dl_len, dl_len, HOO.out.len, HDO.out.len]) (hdg_size _ HOO.out) (dl_one' _) ?_
    intro wb hp
    have HTb := Lib.hid (HTa.out.put (l := bkC o (h' + 1) m (.slice P1 N q1)) hp.only (by have := hp.bk; simpa [bkC] using this))
    have HDb := Lib.hid (HDa.out.grown hp.only (by intro e; injection e with e; have := HXD.out.1; omega))
    have HQb := Lib.hid (HQa.out.grown hp.only (by intro e; injection e with e; have := HGX.out; omega))
    clear hp HTa HDa HQa
    obtain ⟨C2, hC2⟩ : ∃ l, bkC o (h' + 1) m (.slice P1 N q1) = l := ⟨_, rfl⟩
    have HF2 : Hid (BkFit C2) := hC2 ▸ bk_fit HOO.out HMO.out
    have HC2 := Lib.hid hC2
    rw [hC2] at HTb
    have HR2 := Lib.hid (fun w' (T : TwoW w3 w' gX gY C2 CY P1 N q1 xs P3 N' q3 ys) => HRG.out C2 o (h' + 1) w' T HC2.out HOO.out)
    have HK2 := Lib.hid (fun w' (T : TwoW w3 w' gX gY C2 CY P1 N q1 xs P3 N' q3 ys) => HKG.out C2 o (h' + 1) w' T HC2.out HOO.out)
    clear hC2
    rw [HE1.out] at HR2 HK2
    go_upto_region 11 with fail
    simp only [Act.put]
    go_cut [81] (fun v wx => v = .bool false ∧ TwoW w3 wx gX gY C2 CY P1 N q1 xs P3 N' q3 ys ∧ Bk wx g6 28 (dl D))
    case first =>
      have heq := rdg_eqb o D HOO.out HDO.out
      obtain ⟨b1, hb1⟩ : ∃ b, eqL o D = b := ⟨_, rfl⟩
      have HB1 := Lib.hid hb1
      rw [hb1] at heq
      clear hb1
      cases b1
      · by_cases hEz : E1 = 0
        · subst hEz
          simp only [checkB_no HB1.out] at HK2
          go_wp2_with (first
            | (with_reducible refine wpList_load_bk rfl 22 _ rfl (z + 2) rfl (dl o) 22 HQb.out _ Tryd.underlying22 rfl (rdg_sz HOO.out) ?_)
            | (with_reducible refine wpList_load_bk rfl 28 _ rfl g6 rfl (dl D) 28 HDb.out _ Tryd.underlying28 rfl (hdg_size _ HDO.out) ?_)
            | ((with_reducible refine wpList_load_bkG2 ?_ 31 _ rfl gX rfl C2 31 HTb.out.x _ Tryd.underlying31 rfl HF2.out.size ?_); rfl))
          refine (HR2.out wb HTb.out).mono ?_
          rintro e wd ⟨rfl, hbn⟩
          have HTd := Lib.hid (HTb.out.later hbn); have HDd := Lib.hid (HDb.out.later hbn)
          clear hbn HTb HDb
          go_wp2_with (first
            | ((with_reducible refine wpList_load_bkG2 ?_ 31 _ rfl gX rfl C2 31 HTd.out.x _ Tryd.underlying31 rfl HF2.out.size ?_); rfl)
            | ((with_reducible refine wpList_load_bkG2 ?_ 31 _ rfl gY rfl CY 31 HTd.out.y _ Tryd.underlying31 rfl HFY.out.size ?_); rfl))
          refine (HK2.out wd HTd.out).mono ?_
          rintro e we ⟨rfl, hbn⟩
          have HTe := Lib.hid (HTd.out.later hbn); have HDe := Lib.hid (HDd.out.later hbn)
          clear hbn HTd HDd
          go_wp2_with fail
          go_meet
          exact ⟨rfl, HTe.out, HDe.out⟩
        · have hd1 : decide (E1 = 0) = false := by simp [hEz]
          have hd2 : (E1 == 0) = false := by simp [hEz]
          go_wp2_with (first
            | (with_reducible refine wpList_load_bk rfl 22 _ rfl (z + 2) rfl (dl o) 22 HQb.out _ Tryd.underlying22 rfl (rdg_sz HOO.out) ?_)
            | (with_reducible refine wpList_load_bk rfl 28 _ rfl g6 rfl (dl D) 28 HDb.out _ Tryd.underlying28 rfl (hdg_size _ HDO.out) ?_)
            | ((with_reducible refine wpList_load_bkG2 ?_ 31 _ rfl gX rfl C2 31 HTb.out.x _ Tryd.underlying31 rfl HF2.out.size ?_); rfl))
          refine (HR2.out wb HTb.out).mono ?_
          rintro e wd ⟨rfl, hbn⟩
          have HTd := Lib.hid (HTb.out.later hbn); have HDd := Lib.hid (HDb.out.later hbn)
          clear hbn HTb HDb
          go_wp2_with fail
          go_meet
          exact ⟨rfl, HTd.out, HDd.out⟩
      · go_wp2_with (first
          | (with_reducible refine wpList_load_bk rfl 22 _ rfl (z + 2) rfl (dl o) 22 HQb.out _ Tryd.underlying22 rfl (rdg_sz HOO.out) ?_)
          | (with_reducible refine wpList_load_bk rfl 28 _ rfl g6 rfl (dl D) 28 HDb.out _ Tryd.underlying28 rfl (hdg_size _ HDO.out) ?_))
        go_meet
        exact ⟨rfl, HTb.out, HDb.out⟩
    clear HTb HDb HQb HK2 HR2
    obtain ⟨rfl, hcut⟩ := hcut
    have HTd := Lib.hid hcut.1; have HDd := Lib.hid hcut.2
    clear hcut
    refine ‹∀ (a : Act) (w : World), Code.wp _ _ _ a w → _› _ _ ?_
    rename World => wd
    go_wp2_with (first
      | (with_reducible refine wpList_load_bk rfl 28 _ rfl g6 rfl (dl D) 28 HDd.out _ Tryd.underlying28 rfl (hdg_size _ HDO.out) ?_)
      | (with_reducible refine stop_store 28 _ _ rfl ?_))
    refine StopD.go ?_
    refine wpList_store_part rfl 28 _ _ rfl gX 0 (.agg (dl D).toArray) (dl D) rfl rfl rfl 31 [] (dl o) (.int .i64 (h' + 1) :: (dl m ++ [.slice P1 N q1])) (by have := HTd.out.x; rw [← HC2.out] at this; simpa [bkC] using this) rfl (by rw [dl_len, dl_len, HOO.out.len, HDO.out.len]) (hdg_size _ HDO.out) (dl_one' _) ?_
    intro we hp
    have HTe := Lib.hid (HTd.out.put (l := bkC D (h' + 1) m (.slice P1 N q1)) hp.only (by have := hp.bk; simpa [bkC] using this))
    clear hp HTd HDd
    go_wp2_with (with_reducible refine stop_store 3 _ _ rfl ?_)
    refine StopD.go ?_
    refine wpList_store_part rfl 3 _ _ rfl gX 8 (.int .i64 ht) [.int .i64 ht] rfl rfl rfl 31 (dl D) [.int .i64 (h' + 1)] (dl m ++ [.slice P1 N q1]) (by have := HTe.out.x; simpa [bkC] using this) (by rw [dl_len, HDO.out.len]) rfl (by kernel_rfl) (by intro x hx; simp at hx; subst hx; rfl) ?_
    intro wf hp
    have HTf := Lib.hid (HTe.out.put (l := bkC D ht m (.slice P1 N q1)) hp.only (by have := hp.bk; simpa [bkC] using this))
    clear hp HTe
    obtain ⟨C3, hC3⟩ : ∃ l, bkC D ht m (.slice P1 N q1) = l := ⟨_, rfl⟩
    have HF3 : Hid (BkFit C3) := hC3 ▸ bk_fit HDO.out HMO.out
    have HC3 := Lib.hid hC3
    rw [hC3] at HTf
    have HR3 := Lib.hid (fun w' (T : TwoW w3 w' gX gY C3 CY P1 N q1 xs P3 N' q3 ys) => HRG.out C3 D ht w' T HC3.out HDO.out)
    have HK3 := Lib.hid (fun w' (T : TwoW w3 w' gX gY C3 CY P1 N q1 xs P3 N' q3 ys) => HKG.out C3 D ht w' T HC3.out HDO.out)
    clear hC3
    obtain ⟨E3, hE3⟩ : ∃ E, blkE ht L = E := ⟨_, rfl⟩
    rw [hE3] at HR3 HK3
    clear hE3 HR1
    go_upto_region 14 with fail
    simp only [Act.put]
    go_cut [101] (fun v wx => v = .bool false ∧ TwoW w3 wx gX gY C3 CY P1 N q1 xs P3 N' q3 ys)
    case first =>
      have hc8 := (HMY.out _ _ HTf.out.y).c8
      by_cases hht : ht = h' + 1
      · have hq : (ht != h' + 1) = false := by simp [hht]
        have hq2 : decide (ht = h' + 1) = true := by simp [hht]
        have hq3 : (ht == h' + 1) = true := by simp [hht]
        go_wp2_with fail
        go_meet
        exact ⟨by simp [hht], HTf.out⟩
      · have hq : (ht != h' + 1) = true := by simp [hht]
        have hq2 : decide (ht = h' + 1) = false := by simp [hht]
        have hq3 : (ht == h' + 1) = false := by simp [hht]
        by_cases hEz : E3 = 0
        · subst hEz
          simp only [checkB_hi hht] at HK3
          go_wp2_with ((with_reducible refine wpList_load_bkG2 ?_ 31 _ rfl gX rfl C3 31 HTf.out.x _ Tryd.underlying31 rfl HF3.out.size ?_); rfl)
          refine (HR3.out wf HTf.out).mono ?_
          rintro e wg ⟨rfl, hbn⟩
          have HTg := Lib.hid (HTf.out.later hbn)
          clear hbn HTf hc8
          go_wp2_with (first
            | ((with_reducible refine wpList_load_bkG2 ?_ 31 _ rfl gX rfl C3 31 HTg.out.x _ Tryd.underlying31 rfl HF3.out.size ?_); rfl)
            | ((with_reducible refine wpList_load_bkG2 ?_ 31 _ rfl gY rfl CY 31 HTg.out.y _ Tryd.underlying31 rfl HFY.out.size ?_); rfl))
          refine (HK3.out wg HTg.out).mono ?_
          rintro e wh ⟨rfl, hbn⟩
          have HTh := Lib.hid (HTg.out.later hbn)
          clear hbn HTg
          go_wp2_with fail
          go_meet
          exact ⟨by simp, HTh.out⟩
        · have hd1 : decide (E3 = 0) = false := by simp [hEz]
          have hd2 : (E3 == 0) = false := by simp [hEz]
          go_wp2_with ((with_reducible refine wpList_load_bkG2 ?_ 31 _ rfl gX rfl C3 31 HTf.out.x _ Tryd.underlying31 rfl HF3.out.size ?_); rfl)
          refine (HR3.out wf HTf.out).mono ?_
          rintro e wg ⟨rfl, hbn⟩
          have HTg := Lib.hid (HTf.out.later hbn)
          clear hbn HTf hc8
          go_wp2_with fail
          go_meet
          exact ⟨by simp [hEz], HTg.out⟩
    clear HTf HK3 HR3
    obtain ⟨rfl, hcut⟩ := hcut
    have HTg := Lib.hid hcut
    clear hcut
    refine ‹∀ (a : Act) (w : World), Code.wp _ _ _ a w → _› _ _ ?_
    rename World => wg
    go_wp2_with fail
    have hfi := first_any wg s (by have := HSS.out; omega)
    have hmo := ofI_ok (bytesOf s)
    obtain ⟨mf, hmf⟩ : ∃ m, ofI (bytesOf s) = m := ⟨_, rfl⟩
    rw [hmf] at hfi hmo
    obtain ⟨CF, hCF⟩ : ∃ l, bkC zeroD 0 mf (.slice none 0 0) = l := ⟨_, rfl⟩
    rw [hCF] at hfi
    have HFF : Hid (BkFit CF) := hCF ▸ bk_fit zero_ok hmo
    have HCF := Lib.hid hCF; have HMF := Lib.hid hmo
    clear hCF hmo hmf
    refine hfi.mono ?_
    rintro e wh ⟨rfl, hbn⟩
    have HTh := Lib.hid (HTg.out.later hbn)
    clear hfi hbn HTg
    go_wp2_with (with_reducible refine stop_store 31 _ _ rfl ?_)
    refine StopD.go ?_
    obtain ⟨gi, hgi⟩ : ∃ g, wh.heap.size = g := ⟨_, rfl⟩
    have hbn : Below wh.heap.size wh (wh.alloc (.cells #[.int .u8 0, .int .u8 0, .int .u8 0, .int .u8 0, .int .u8 0, .int .u8 0, .int .u8 0, .int .u8 0, .int .i64 0, .int .u8 0, .int .u8 0, .int .u8 0, .int .u8 0, .int .u8 0, .int .u8 0, .int .u8 0, .int .u8 0, .slice none 0 0] 31)) := below_new wh _
    have kt : Bk (wh.alloc (.cells #[.int .u8 0, .int .u8 0, .int .u8 0, .int .u8 0, .int .u8 0, .int .u8 0, .int .u8 0, .int .u8 0, .int .i64 0, .int .u8 0, .int .u8 0, .int .u8 0, .int .u8 0, .int .u8 0, .int .u8 0, .int .u8 0, .int .u8 0, .slice none 0 0] 31)) gi 31 ([] ++ (zBk ++ [])) := by rw [← hgi]; exact Bk.new' wh _ #[.int .u8 0, .int .u8 0, .int .u8 0, .int .u8 0, .int .u8 0, .int .u8 0, .int .u8 0, .int .u8 0, .int .i64 0, .int .u8 0, .int .u8 0, .int .u8 0, .int .u8 0, .int .u8 0, .int .u8 0, .int .u8 0, .int .u8 0, .slice none 0 0] rfl
    rw [hgi]
    refine wpList_store_part rfl 31 _ _ rfl gi 0 (.agg (CF).toArray) (CF) rfl rfl rfl 31 [] zBk [] kt rfl (by rw [HFF.out.len]; rfl) HFF.out.size HFF.out.one ?_
    intro wi hp
    have hbn : Below wh.heap.size wh wi := hbn.grown hp.only hbn.size (fun q hq => by injection hq with hq; omega)
    have HAi : Hid (Bk wi gi 31 (CF)) := by show Bk _ _ _ _; have := hp.bk; simpa using this
    clear hp kt
    have HTi := Lib.hid (HTh.out.later hbn)
    clear hbn HTh hgi
    go_wp2_with (with_reducible refine wpList_load_bk rfl 31 _ rfl gi rfl CF 31 HAi.out _ Tryd.underlying31 rfl HFF.out.size ?_)
    refine (firstr wi HCF.out HMF.out).mono ?_
    rintro e wj ⟨rfl, hbn⟩
    have HTj := Lib.hid (HTi.out.later hbn); have HAj := Lib.hid (HAi.out.later hbn)
    clear hbn HTi HAi
    go_wp2_with (first
      | ((with_reducible refine wpList_load_bkG2 ?_ 31 _ rfl gi rfl CF 31 HAj.out _ Tryd.underlying31 rfl HFF.out.size ?_); rfl)
      | ((with_reducible refine wpList_load_bkG2 ?_ 31 _ rfl gY rfl CY 31 HTj.out.y _ Tryd.underlying31 rfl HFY.out.size ?_); rfl))
    refine (HTj.out.first HCF.out HCY.out HYG.out HMF.out HPO'.out HMO'.out HN1.out HEA.out HH0.out).mono ?_
    rintro e wk ⟨rfl, hbn⟩
    have HTk := Lib.hid (HTj.out.later hbn)
    clear hbn HTj
    go_wp2_with fail
    go_ret
    exact ⟨rfl, below_then HBB3.out HTk.out.bl⟩
  · have hd1 : (E' != 0) = true := by simp [hE1]
    clear hrange
    by_cases hE0 : E0 = 0
    · subst hE0
      simp only [checkB_bad hE1] at HK0
      go_wp2_with (with_reducible refine wpList_load_bk rfl 31 _ rfl gX rfl C0 31 HT6.out.x _ Tryd.underlying31 rfl HF0.out.size ?_)
      refine (HR0.out w6 HT6.out).mono ?_
      rintro e w7 ⟨rfl, hbn⟩
      have HT7 := Lib.hid (HT6.out.later hbn)
      clear hbn HT6
      go_wp2_with (first
        | ((with_reducible refine wpList_load_bkG2 ?_ 31 _ rfl gX rfl C0 31 HT7.out.x _ Tryd.underlying31 rfl HF0.out.size ?_); rfl)
        | ((with_reducible refine wpList_load_bkG2 ?_ 31 _ rfl gY rfl CY 31 HT7.out.y _ Tryd.underlying31 rfl HFY.out.size ?_); rfl))
      refine (HK0.out w7 HT7.out).mono ?_
      rintro e w8 ⟨rfl, hbn⟩
      have HT8 := Lib.hid (HT7.out.later hbn)
      clear hbn HT7
      go_wp2_with fail
      go_ret
      exact ⟨rfl, below_then HBB3.out HT8.out.bl⟩
    · have hd2 : (E0 != 0) = true := by simp [hE0]
      go_wp2_with (with_reducible refine wpList_load_bk rfl 31 _ rfl gX rfl C0 31 HT6.out.x _ Tryd.underlying31 rfl HF0.out.size ?_)
      refine (HR0.out w6 HT6.out).mono ?_
      rintro e w7 ⟨rfl, hbn⟩
      have HT7 := Lib.hid (HT6.out.later hbn)
      clear hbn HT6
      go_wp2_with fail
      go_ret
      exact ⟨by simp [hE0], below_then HBB3.out HT7.out.bl⟩
end Go.Proofs.YtbpmomedhdmloaaDoor
