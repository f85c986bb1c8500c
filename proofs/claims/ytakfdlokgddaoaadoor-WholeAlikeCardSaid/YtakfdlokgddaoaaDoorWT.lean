/- Real signers: by a ring. -/
import Derived.Test.YtakfdlokgddaoaaDoorWS
import Derived.Test.YtakfdlokgddaoaaDoorWM
namespace Go.Proofs.YtakfdlokgddaoaaDoor
set_option linter.unusedSimpArgs false
set_option linter.unusedVariables false
open Go.RowKit Go.Maps

theorem rg_b1 (g : Nat) (w : World) : (Instr.build 97 #[(0, .pointer (some ⟨g, 0, none⟩))]).run Tryd.prog w = .ok (.agg #[.pointer (some ⟨g, 0, none⟩)]) w := by kernel_rfl
def RetReal (w : World) (sec : List Int) (h : Nat) (e : Ending) (w' : World) : Prop :=
  ∃ g b T tlo thi, e = .returned (.tuple #[.iface 97 (.agg #[.pointer (some ⟨g, 0, none⟩)]), .int .i64 0]) ∧ RingAt w' w.heap.size g b (.slice none 0 0) T tlo thi sec h [] ∧ Below w.heap.size w w'
set_option maxRecDepth 20000 in
set_option maxHeartbeats 4000000 in
theorem newReal_any (w : World) (sec : List Int) (hs : DgOk sec) (h : Nat) (hh : h ≤ 8) :
    Calls Tryd.prog 17 #[.agg (dl sec).toArray, .int .i64 h] w (RetReal w sec h) := by
  obtain ⟨X, hX⟩ : ∃ X, (dl sec).toArray = X := ⟨_, rfl⟩
  obtain ⟨z, hz⟩ : ∃ z, w.heap.size = z := ⟨_, rfl⟩
  obtain ⟨w1, hw1⟩ : ∃ w1, w.alloc (.cells X 23) = w1 := ⟨_, rfl⟩
  have hb1 : Below w.heap.size w w1 := hw1 ▸ below_new w _
  have kx : Bk w1 z 23 (dl sec) := hw1 ▸ Bk.at_ w _ X hz (by rw [← hX])
  have HW := Lib.hid hw1; have HX1 := Lib.hid kx; have HZ := Lib.hid hz; have HSO := Lib.hid hs; have HB1 := Lib.hid hb1; have HXE := Lib.hid hX
  have HKN := Lib.hid (knew_any w1 sec hs h hh)
  rw [hX]
  rw [hX] at HKN
  clear hX hw1 hb1 kx hz hs
  go_enter Tryd.func17, Tryd.ntmps17
  go_upto_region 1 with fail
  rw [HW.out, HZ.out]
  go_wp2_with (with_reducible refine wpList_load_bk rfl 23 _ rfl z rfl (dl sec) 23 HX1.out _ Tryd.underlying23 rfl (hdg_size _ HSO.out) ?_)
  rw [HXE.out]
  refine HKN.out.mono ?_
  rintro e w2 ⟨g, b, T, tlo, thi, rfl, hr, hbn⟩
  have HR2 := Lib.hid (hr.mono HB1.out.size); have HB2 := Lib.hid (below_then HB1.out hbn)
  clear hr hbn HKN
  go_wp2_with fail
  go_ret2
  exact ⟨g, b, T, tlo, thi, rfl, HR2.out, HB2.out⟩
/-- What a ring is known by, whatever its ledger. -/
structure KeyAt (w : World) (g : Nat) (T : Tr) (tlo thi : Nat) (sec : List Int) (h : Nat) : Prop where
  bk : ∃ V m, Bk w g 67 (rgC sec h (.pointer (some ⟨T.g, 0, none⟩)) V m)
  tree : TreeOf w tlo thi T (leavesI sec h)
  hs : DgOk sec
theorem RingAt.key {w : World} {lo g b : Nat} {V : Value} {T : Tr} {tlo thi : Nat} {sec : List Int} {h : Nat} {L : List (List Int)} (r : RingAt w lo g b V T tlo thi sec h L) : KeyAt w g T tlo thi sec h := ⟨⟨_, _, r.led.bk⟩, r.tree, r.hs⟩
theorem KeyAt.later {w w' : World} {g : Nat} {T : Tr} {tlo thi : Nat} {sec : List Int} {h : Nat} (k : KeyAt w g T tlo thi sec h) (hb : Below w.heap.size w w') : KeyAt w' g T tlo thi sec h := by
  obtain ⟨⟨V, m, h1⟩, h2, h3⟩ := k
  exact ⟨⟨V, m, h1.later hb⟩, h2.later hb, h3⟩
theorem RowAt.keeps {w w' : World} {b c : Nat} {ls : List (List Int)} (h : RowAt w b c ls) (hk : Keeps w w') : RowAt w' b c ls := by
  obtain ⟨ys, h1, h2, h3⟩ := h
  exact ⟨ys, h1.keeps hk (by decide) (by decide), h2, h3⟩
theorem TreeOf.keeps {w w' : World} {lo hi : Nat} {T : Tr} {ls : List (List Int)} (t : TreeOf w lo hi T ls) (hk : Keeps w w') : TreeOf w' lo hi T ls := by
  obtain ⟨ns, t, e⟩ := t
  exact ⟨ns, ⟨t.row.keeps hk (by decide) (by decide), t.lok, RowAt.keeps t.lv hk, t.lc, t.lh, fun l hl => ⟨(t.nv l hl).1.keeps hk, (t.nv l hl).2⟩, t.hm, t.apl, t.apn, t.blo, t.bhi, Nat.le_trans t.hih hk.size⟩, e⟩
theorem KeyAt.keeps {w w' : World} {g : Nat} {T : Tr} {tlo thi : Nat} {sec : List Int} {h : Nat} (k : KeyAt w g T tlo thi sec h) (hk : Keeps w w') : KeyAt w' g T tlo thi sec h := by
  obtain ⟨⟨V, m, h1⟩, h2, h3⟩ := k
  exact ⟨⟨V, m, h1.keeps hk (by decide) (by decide)⟩, h2.keeps hk, h3⟩
set_option maxRecDepth 20000 in
set_option maxHeartbeats 2000000 in
theorem kpub2_any (w : World) (g : Nat) (T : Tr) (tlo thi : Nat) (sec : List Int) (h : Nat) (k : KeyAt w g T tlo thi sec h) :
    Calls Tryd.prog 7 #[.pointer (some ⟨g, 0, none⟩)] w fun e w' => e = .returned (.agg (dl (rootI (leavesI sec h))).toArray) ∧ Below w.heap.size w w' := by
  obtain ⟨z, hz⟩ : ∃ z, w.heap.size = z := ⟨_, rfl⟩
  obtain ⟨w1, hw1⟩ : ∃ w1, w.alloc (.cells #[.int .u8 0, .int .u8 0, .int .u8 0, .int .u8 0, .int .u8 0, .int .u8 0, .int .u8 0, .int .u8 0] 23) = w1 := ⟨_, rfl⟩
  have hb1 : Below w.heap.size w w1 := hw1 ▸ below_new w _
  have kr : Bk w1 z 23 ([] ++ (dl zeroD ++ [])) := hw1 ▸ Bk.at_ w _ #[.int .u8 0, .int .u8 0, .int .u8 0, .int .u8 0, .int .u8 0, .int .u8 0, .int .u8 0, .int .u8 0] hz rfl
  have HW := Lib.hid hw1; have HB1 := Lib.hid hb1; have HZ := Lib.hid hz; have HR1 := Lib.hid kr
  obtain ⟨⟨V, m, hbk⟩, htr, hs⟩ := k.later hb1
  have c9 := (rg_mem hs hbk).c9
  have HRT := Lib.hid (tRoot_anyw w1 tlo thi T _ htr)
  have HDO := Lib.hid (rootI_ok (leavesI sec h))
  obtain ⟨R, hR⟩ : ∃ R, rootI (leavesI sec h) = R := ⟨_, rfl⟩
  rw [hR] at HRT HDO ⊢
  clear hw1 hb1 kr hz hR hbk htr hs k
  go_enter Tryd.func7, Tryd.ntmps7
  go_upto_region 1 with fail
  rw [HW.out, HZ.out]
  go_wp2_with fail
  refine HRT.out.mono ?_
  rintro e w2 ⟨rfl, hbn⟩
  have HR2 := Lib.hid (HR1.out.later hbn); have HB2 := Lib.hid (below_then HB1.out hbn)
  clear hbn HRT HR1 c9
  go_wp2_with (with_reducible refine stop_store 23 _ _ rfl ?_)
  refine StopD.go ?_
  refine wpList_store_part rfl 23 _ _ rfl z 0 (.agg (dl R).toArray) (dl R) rfl rfl rfl 23 [] (dl zeroD) [] HR2.out rfl (dg_lensw HDO.out) (hdg_size _ HDO.out) (dl_one' _) ?_
  intro wz hp
  have HTz : Hid (Bk wz z 23 (dl R)) := by show Bk _ _ _ _; have := hp.bk; simpa using this
  have HBz := Lib.hid (below_only HB2.out hp.only HB2.out.size (Nat.le_of_eq HZ.out))
  clear hp
  go_wp2_with fail
  refine bodyPost_ret (results_cell_bk rfl _ _ z 23 (dl R) _ rfl HTz.out Tryd.underlying23 rfl (hdg_size _ HDO.out)) rfl ?_
  exact ⟨rfl, HBz.out⟩
set_option maxRecDepth 20000 in
set_option maxHeartbeats 2000000 in
theorem rkey_any (w : World) (g : Nat) (T : Tr) (tlo thi : Nat) (sec : List Int) (h : Nat) (k : KeyAt w g T tlo thi sec h) :
    Calls Tryd.prog 116 #[.agg #[.pointer (some ⟨g, 0, none⟩)]] w fun e w' => e = .returned (.agg (dl (rootI (leavesI sec h))).toArray) ∧ Below w.heap.size w w' := by
  obtain ⟨z, hz⟩ : ∃ z, w.heap.size = z := ⟨_, rfl⟩
  obtain ⟨w1, hw1⟩ : ∃ w1, (w.alloc (.cells #[.pointer (some ⟨g, 0, none⟩)] 97)).alloc (.cells #[.int .u8 0, .int .u8 0, .int .u8 0, .int .u8 0, .int .u8 0, .int .u8 0, .int .u8 0, .int .u8 0] 23) = w1 := ⟨_, rfl⟩
  have hb1 : Below w.heap.size w w1 := hw1 ▸ (below_new w _).alloc (by simp) _
  have kg : Bk w1 z 97 [.pointer (some ⟨g, 0, none⟩)] := hw1 ▸ (Bk.at_ w _ #[.pointer (some ⟨g, 0, none⟩)] hz rfl).alloc _
  have kr : Bk w1 (z + 1) 23 ([] ++ (dl zeroD ++ [])) := hw1 ▸ Bk.at_ _ _ #[.int .u8 0, .int .u8 0, .int .u8 0, .int .u8 0, .int .u8 0, .int .u8 0, .int .u8 0, .int .u8 0] (by simp [hz]) rfl
  have HW := Lib.hid hw1; have HB1 := Lib.hid hb1; have HZ := Lib.hid hz; have HR1 := Lib.hid kr
  have c0 := one_cell kg
  have HRT := Lib.hid (kpub2_any w1 g T tlo thi sec h (k.later hb1))
  have HDO := Lib.hid (rootI_ok (leavesI sec h))
  obtain ⟨R, hR⟩ : ∃ R, rootI (leavesI sec h) = R := ⟨_, rfl⟩
  rw [hR] at HRT HDO ⊢
  clear hw1 hb1 kr hz hR kg k
  go_enter Tryd.func116, Tryd.ntmps116
  go_upto_region 1 with fail
  rw [HW.out, HZ.out]
  go_wp2_with fail
  refine HRT.out.mono ?_
  rintro e w2 ⟨rfl, hbn⟩
  have HR2 := Lib.hid (HR1.out.later hbn); have HB2 := Lib.hid (below_then HB1.out hbn)
  clear hbn HRT HR1 c0
  go_wp2_with (with_reducible refine stop_store 23 _ _ rfl ?_)
  refine StopD.go ?_
  refine wpList_store_part rfl 23 _ _ rfl (z + 1) 0 (.agg (dl R).toArray) (dl R) rfl rfl rfl 23 [] (dl zeroD) [] HR2.out rfl (dg_lensw HDO.out) (hdg_size _ HDO.out) (dl_one' _) ?_
  intro wz hp
  have HTz : Hid (Bk wz (z + 1) 23 (dl R)) := by show Bk _ _ _ _; have := hp.bk; simpa using this
  have HBz := Lib.hid (below_only HB2.out hp.only HB2.out.size (by have := HZ.out; omega))
  clear hp
  go_wp2_with fail
  refine bodyPost_ret (results_cell_bk rfl _ _ (z + 1) 23 (dl R) _ rfl HTz.out Tryd.underlying23 rfl (hdg_size _ HDO.out)) rfl ?_
  exact ⟨rfl, HBz.out⟩
/-- What a fresh ring's signing hands back. -/
def RetRs (w : World) (g : Nat) (T : Tr) (tlo thi : Nat) (sec : List Int) (h : Nat) (m : List Int) (e : Ending) (w' : World) : Prop :=
  ∃ v, e = .returned (.tuple #[v, .int .i64 0]) ∧ w'.ownsRow w.heap.size 5 1 v (sgI sec h [m] m).length ((sgI sec h [m] m).map (.int .u8)) ∧ KeyAt w' g T tlo thi sec h
theorem step_one (h : Nat) (m : List Int) : stepL (2 ^ h) [] m = [m] := by
  unfold stepL
  rw [if_neg (by simp), if_pos (show ([] : List (List Int)).length < 2 ^ h from Nat.pos_of_ne_zero (by simp))]; rfl
theorem resE_one (h : Nat) (m : List Int) : resE (2 ^ h) [] m = 0 := by rw [resE, step_one, if_pos (by simp)]
theorem sgR_one (sec : List Int) (h : Nat) (m : List Int) : sgR sec h [] m = sgI sec h [m] m := by rw [sgR, step_one, if_pos (by simp)]
theorem led_one {m : List Int} (hm : DgOk m) (h : Nat) : LedOk (2 ^ h) [m] := by
  have := (LedOk.nil (2 ^ h)).step hm
  rwa [step_one] at this
set_option maxRecDepth 20000 in
set_option maxHeartbeats 2000000 in
theorem rsign_any (w : World) (lo g b : Nat) (V : Value) (T : Tr) (tlo thi : Nat) (sec : List Int) (h : Nat) (r : RingAt w lo g b V T tlo thi sec h []) (m : List Int) (hm : DgOk m) :
    Calls Tryd.prog 117 #[.agg #[.pointer (some ⟨g, 0, none⟩)], .agg (dl m).toArray] w fun e w' => RetRs w g T tlo thi sec h m e w' ∧ Chg w w' g b V := by
  obtain ⟨X, hX⟩ : ∃ X, (dl m).toArray = X := ⟨_, rfl⟩
  obtain ⟨z, hz⟩ : ∃ z, w.heap.size = z := ⟨_, rfl⟩
  obtain ⟨w1, hw1⟩ : ∃ w1, (w.alloc (.cells #[.pointer (some ⟨g, 0, none⟩)] 97)).alloc (.cells X 23) = w1 := ⟨_, rfl⟩
  have hb1 : Below w.heap.size w w1 := hw1 ▸ (below_new w _).alloc (by simp) _
  have kg : Bk w1 z 97 [.pointer (some ⟨g, 0, none⟩)] := hw1 ▸ (Bk.at_ w _ #[.pointer (some ⟨g, 0, none⟩)] hz rfl).alloc _
  have kx : Bk w1 (z + 1) 23 (dl m) := hw1 ▸ Bk.at_ _ _ X (by simp [hz]) (by rw [← hX])
  have HW := Lib.hid hw1; have HB1 := Lib.hid hb1; have HZ := Lib.hid hz; have HX1 := Lib.hid kx; have HMO := Lib.hid hm; have HXE := Lib.hid hX
  have c0 := one_cell kg
  have hll : Hid (lo ≤ w.heap.size) := Nat.le_trans r.led.glo (Nat.le_of_lt r.led.lt)
  have HR1 := Lib.hid (r.later hb1)
  have HSG := Lib.hid (ksign_any w1 lo g b V T tlo thi sec h [] HR1.out m hm)
  unfold RetSg at HSG
  rw [step_one, sgR_one, resE_one] at HSG
  rw [hX]
  rw [hX] at HSG
  clear hX hw1 hb1 kg kx hz hm r
  go_enter Tryd.func117, Tryd.ntmps117
  go_upto_region 1 with fail
  rw [HW.out, HZ.out]
  go_wp2_with (with_reducible refine wpList_load_bk rfl 23 _ rfl (z + 1) rfl (dl m) 23 HX1.out _ Tryd.underlying23 rfl (hdg_size _ HMO.out) ?_)
  rw [HXE.out]
  refine HSG.out.mono ?_
  rintro e w2 ⟨v, V2, rfl, hown, hr, hc, hv⟩
  have HP : Hid (RetRs w g T tlo thi sec h m (.returned (.tuple #[v, .int .i64 0])) w2 ∧ Chg w w2 g b V) := ⟨⟨v, rfl, own_base hown HB1.out.size, hr.key⟩, Chg.after_below HB1.out hc⟩
  clear hown hr hc hv
  go_wp2_with fail
  go_ret2
  exact HP.out
end Go.Proofs.YtakfdlokgddaoaaDoor
