/- One block above another; the first block. -/
import Derived.Test.YtbpmomedhdmloaaDoorBA
namespace Go.Proofs.YtbpmomedhdmloaaDoor
set_option linter.unusedSimpArgs false
set_option linter.unusedVariables false
open Go.RowKit Go.Maps

theorem build_first {m : List Int} (hm : DgOk m) (w : World) : (Instr.build 31 #[(2, .agg (dl m).toArray)]).run Tryd.prog w = .ok (.agg (bkC zeroD 0 m (.slice none 0 0)).toArray) w := by
  obtain ⟨y0, y1, y2, y3, y4, y5, y6, y7, rfl⟩ := list8 m hm.len
  kernel_rfl
set_option maxRecDepth 20000 in
theorem first_any (w : World) (s : ByteArray) (hs : s.size ≤ 70368744177664) :
    Calls Tryd.prog 14 #[.string s] w fun e w' => e = .returned (.agg (bkC zeroD 0 (ofI (bytesOf s)) (.slice none 0 0)).toArray) ∧ Below w.heap.size w w' := by
  obtain ⟨z, hz⟩ : ∃ z, w.heap.size = z := ⟨_, rfl⟩
  obtain ⟨w1, hw1⟩ : ∃ w1, w.alloc (.cells #[.int .u8 0, .int .u8 0, .int .u8 0, .int .u8 0, .int .u8 0, .int .u8 0, .int .u8 0, .int .u8 0, .int .i64 0, .int .u8 0, .int .u8 0, .int .u8 0, .int .u8 0, .int .u8 0, .int .u8 0, .int .u8 0, .int .u8 0, .slice none 0 0] 31) = w1 := ⟨_, rfl⟩
  have hb1 : Below w.heap.size w w1 := hw1 ▸ below_new w _
  have kr : Bk w1 z 31 ([] ++ (zBk ++ [])) := hw1 ▸ Bk.at_ w _ #[.int .u8 0, .int .u8 0, .int .u8 0, .int .u8 0, .int .u8 0, .int .u8 0, .int .u8 0, .int .u8 0, .int .i64 0, .int .u8 0, .int .u8 0, .int .u8 0, .int .u8 0, .int .u8 0, .int .u8 0, .int .u8 0, .int .u8 0, .slice none 0 0] hz rfl
  have HW := Lib.hid hw1; have HB1 := Lib.hid hb1; have HZ := Lib.hid hz; have HR1 := Lib.hid kr
  have hcv := Lib.run_convert_string_bytes (P := Tryd.prog) w1 9 40 5 s Tryd.underlying9 Tryd.underlying40 Tryd.underlying5
  obtain ⟨t, ht⟩ : ∃ t, bytesOf s = t := ⟨_, rfl⟩
  have hto : ByOk t := ht ▸ bytesOf_ok s
  have htl : t.length = s.size := by rw [← ht]; exact bytesOf_len s
  rw [ht]
  clear hw1 hb1 kr hz
  go_enter Tryd.func14, Tryd.ntmps14
  go_upto_region 1 with fail
  rw [HW.out]
  go_wp2_with fail
  rw [HZ.out]
  have hcap := grownCap_ge w1 s.size 0 5
  obtain ⟨cp, hcp⟩ : ∃ cp, grownCap w1 s.size 0 5 = cp := ⟨_, rfl⟩
  rw [hcp] at hcap ⊢
  have hsl := sl_bytes w1 5 s (by omega)
  rw [ht] at hsl
  have HSL := Lib.hid hsl
  have hbn := below_bytes w1 5 s
  obtain ⟨w2, hw2⟩ : ∃ w2, Lib.bytesWorld w1 5 s = w2 := ⟨_, rfl⟩
  rw [hw2] at hbn HSL ⊢
  have HB2 := Lib.hid (below_then HB1.out hbn); have HR2 := Lib.hid (HR1.out.later hbn)
  have HAD : Hid (∀ ad, some (⟨w1.heap.size, 0, none⟩ : Addr) = some ad → ad.block < w2.heap.size) := fun ad e => by
    injection e with e; subst e
    show w1.heap.size < _
    rw [← hw2, Lib.bytesWorld_size]
    exact Nat.lt_succ_self _
  clear hcv hcp hsl hbn hw2
  refine (hof_any w2 _ _ _ t HSL.out hto hcap HAD.out).mono ?_
  rintro e w3 ⟨rfl, hbn⟩
  have HB3 := Lib.hid (below_then HB2.out hbn); have HR3 := Lib.hid (HR2.out.later hbn)
  have HMO := Lib.hid (ofI_ok t)
  obtain ⟨m, hm⟩ : ∃ m, ofI t = m := ⟨_, rfl⟩
  have HME := Lib.hid hm
  rw [hm] at HMO ⊢
  clear hm hbn
  go_wp2_with (first
    | ((with_reducible refine wpList_build rfl 31 _ rfl #[(2, .agg (dl m).toArray)] ?_ _ (build_first HMO.out _) ?_); focus (simp [Act.eval, Act.put]; done))
    | (with_reducible refine stop_store 31 _ _ rfl ?_))
  refine StopD.go ?_
  refine wpList_store_part rfl 31 _ _ rfl z 0 (.agg (bkC zeroD 0 m (.slice none 0 0)).toArray) (bkC zeroD 0 m (.slice none 0 0)) rfl rfl rfl 31 [] zBk [] HR3.out rfl (by rw [bkC_len zero_ok HMO.out]; rfl) (blk_sz zero_ok HMO.out) bkC_one ?_
  intro wz hp
  have HRz : Hid (Bk wz z 31 (bkC zeroD 0 m (.slice none 0 0))) := by show Bk _ _ _ _; have := hp.bk; simpa using this
  have HBz := Lib.hid (below_only HB3.out hp.only HB3.out.size (Nat.le_of_eq HZ.out))
  clear hp
  go_wp2_with fail
  refine bodyPost_ret (results_cell_bk rfl _ _ z 31 (bkC zeroD 0 m (.slice none 0 0)) _ rfl HRz.out Tryd.underlying31 rfl (blk_sz zero_ok HMO.out)) rfl ?_
  exact ⟨by rw [HME.out], HBz.out⟩
/-- What is wrong with a block above another one. -/
def checkB (Ex : Int) (p : List Int) (h : Int) (D : List Int) (E' h' : Int) : Int := if Ex ≠ 0 then Ex else if E' ≠ 0 ∨ eqL p D = false ∨ h ≠ h' + 1 then 24 else 0
set_option maxRecDepth 20000 in
set_option maxHeartbeats 4000000 in
theorem check_any (w : World) (p : List Int) (h : Int) (m : List Int) (hp : DgOk p) (hm : DgOk m) (A : Option Addr) (N C : Nat) (xs : List (List Value × TxT)) (hx : Txs w A N xs)
    (p' : List Int) (h' : Int) (m' : List Int) (hp' : DgOk p') (hm' : DgOk m') (A' : Option Addr) (N' C' : Nat) (ys : List (List Value × TxT)) (hy : Txs w A' N' ys) (D : List Int) (hD : DgOk D)
    (hname : ∀ w', Txs w' A' N' ys → Calls Tryd.prog 11 #[.agg (bkC p' h' m' (.slice A' N' C')).toArray] w' fun e w'' => e = .returned (.tuple #[.agg (dl D).toArray, .int .i64 (blkE h' (ys.map (·.2)))]) ∧ Below w'.heap.size w' w'') :
    Calls Tryd.prog 13 #[.agg (bkC p h m (.slice A N C)).toArray, .agg (bkC p' h' m' (.slice A' N' C')).toArray] w fun e w' => e = .returned (.int .i64 (checkB (blkE h (xs.map (·.2))) p h D (blkE h' (ys.map (·.2))) h')) ∧ Below w.heap.size w w' := by
  have HRE := Lib.hid (fun (w' : World) (hx' : Txs w' A N xs) => right_b w' p h m hp hm A N C xs hx')
  have HNA := Lib.hid hname
  have HBS := Lib.hid (blk_sz (h := h) (s := .slice A N C) hp hm)
  have HBS' := Lib.hid (blk_sz (h := h') (s := .slice A' N' C') hp' hm')
  obtain ⟨l, hl⟩ : ∃ x, bkC p h m (.slice A N C) = x := ⟨_, rfl⟩
  obtain ⟨X, hX⟩ : ∃ X, l.toArray = X := ⟨_, rfl⟩
  obtain ⟨l', hl'⟩ : ∃ x, bkC p' h' m' (.slice A' N' C') = x := ⟨_, rfl⟩
  obtain ⟨Y, hY⟩ : ∃ X, l'.toArray = X := ⟨_, rfl⟩
  obtain ⟨z, hz⟩ : ∃ z, w.heap.size = z := ⟨_, rfl⟩
  obtain ⟨w1, hw1⟩ : ∃ w1, (w.alloc (.cells X 31)).alloc (.cells Y 31) = w1 := ⟨_, rfl⟩
  have hb1 : Below w.heap.size w w1 := hw1 ▸ (below_new w _).alloc (by simp) _
  have kx : Bk w1 z 31 l := hw1 ▸ (Bk.at_ w _ X hz (by rw [← hX])).alloc _
  have ky : Bk w1 (z + 1) 31 l' := hw1 ▸ Bk.at_ _ _ Y (by simp [hz]) (by rw [← hY])
  have HM : Hid (∀ w' g', Bk w' g' 31 l → BkcM w' g' p h m (.slice A N C)) := fun w' g' k => by rw [← hl] at k; exact bkc_mem hp hm k
  have HM' : Hid (∀ w' g', Bk w' g' 31 l' → BkcM w' g' p' h' m' (.slice A' N' C')) := fun w' g' k => by rw [← hl'] at k; exact bkc_mem hp' hm' k
  have HW := Lib.hid hw1; have HB1 := Lib.hid hb1; have HZ := Lib.hid hz; have HK1 := Lib.hid kx; have HL1 := Lib.hid ky; have HXE := Lib.hid hX; have HYE := Lib.hid hY
  have HX1 := Lib.hid (hx.later hb1); have HY1 := Lib.hid (hy.later hb1)
  have HDO := Lib.hid hD; have HPO := Lib.hid hp
  rw [hl] at HBS HRE ⊢
  rw [hl'] at HBS' HNA ⊢
  rw [hX] at HRE ⊢
  rw [hY] at HNA ⊢
  clear hl hX hl' hY hw1 hb1 kx ky hz hp hm hp' hm' hx hy hD hname
  obtain ⟨E, hE⟩ : ∃ E, blkE h (xs.map (·.2)) = E := ⟨_, rfl⟩
  rw [hE] at HRE ⊢
  clear hE
  obtain ⟨E', hE'⟩ : ∃ E, blkE h' (ys.map (·.2)) = E := ⟨_, rfl⟩
  have hrange : E' = 0 → 0 ≤ h' ∧ h' ≤ 1099511627776 := fun e => by
    have := (blkE_zero (hE'.trans e)).1
    omega
  rw [hE'] at HNA ⊢
  clear hE'
  go_enter Tryd.func13, Tryd.ntmps13
  go_upto_region 1 with fail
  rw [HW.out, HZ.out]
  go_wp2_with (with_reducible refine wpList_load_bk rfl 31 _ rfl z rfl l 31 HK1.out _ Tryd.underlying31 rfl HBS.out ?_)
  rw [HXE.out]
  refine (HRE.out w1 HX1.out).mono ?_
  rintro e w2 ⟨rfl, hbn⟩
  have HB2 := Lib.hid (below_then HB1.out hbn); have HK2 := Lib.hid (HK1.out.later hbn); have HL2 := Lib.hid (HL1.out.later hbn); have HY2 := Lib.hid (HY1.out.later hbn)
  clear hbn HK1 HL1 HB1
  by_cases hE0 : E = 0
  · subst hE0
    go_wp2_with (with_reducible refine wpList_load_bk rfl 31 _ rfl (z + 1) rfl l' 31 HL2.out _ Tryd.underlying31 rfl HBS'.out ?_)
    rw [HYE.out]
    refine (HNA.out w2 HY2.out).mono ?_
    rintro e w3 ⟨rfl, hbn⟩
    have HB3 := Lib.hid (below_then HB2.out hbn); have HK3 := Lib.hid (HK2.out.later hbn); have HL3 := Lib.hid (HL2.out.later hbn)
    clear hbn HK2 HL2
    go_wp2_with (with_reducible refine stop_store 28 _ _ rfl ?_)
    refine StopD.go ?_
    obtain ⟨g4, hg4⟩ : ∃ g, w3.heap.size = g := ⟨_, rfl⟩
    have hbn : Below w3.heap.size w3 (w3.alloc (.cells #[.int .u8 0, .int .u8 0, .int .u8 0, .int .u8 0, .int .u8 0, .int .u8 0, .int .u8 0, .int .u8 0] 28)) := below_new w3 _
    have kt : Bk (w3.alloc (.cells #[.int .u8 0, .int .u8 0, .int .u8 0, .int .u8 0, .int .u8 0, .int .u8 0, .int .u8 0, .int .u8 0] 28)) g4 28 ([] ++ (dl zeroD ++ [])) := by rw [← hg4]; exact Bk.new' w3 _ #[.int .u8 0, .int .u8 0, .int .u8 0, .int .u8 0, .int .u8 0, .int .u8 0, .int .u8 0, .int .u8 0] rfl
    rw [hg4]
    refine wpList_store_part rfl 28 _ _ rfl g4 0 (.agg (dl D).toArray) (dl D) rfl rfl rfl 28 [] (dl zeroD) [] kt rfl (by rw [dl_len, dl_len, HDO.out.len]; rfl) (hdg_size _ HDO.out) (dl_one' _) ?_
    intro w4 hp
    have hbn : Below w3.heap.size w3 w4 := hbn.grown hp.only hbn.size (fun q hq => by injection hq with hq; omega)
    have HT4 : Hid (Bk w4 g4 28 (dl D)) := by show Bk _ _ _ _; have := hp.bk; simpa using this
    clear hp kt hg4
    have HB4 := Lib.hid (below_then HB3.out hbn); have HK4 := Lib.hid (HK3.out.later hbn); have HL4 := Lib.hid (HL3.out.later hbn)
    clear hbn HK3 HL3
    have HR0 := Lib.hid (HM.out _ _ HK4.out).r0
    have c8 := (HM.out _ _ HK4.out).c8; have c8' := (HM'.out _ _ HL4.out).c8
    have HTR : Hid (w4.rangeAt g4 0 (dl D)) := Bk.range (pre := []) (post := []) (by simpa using HT4.out) rfl
    by_cases hE1 : E' = 0
    · obtain ⟨hr0, hr1⟩ := hrange hE1
      subst hE1
      have heq := dg_eqb p D HPO.out HDO.out
      have hwr : wrap64 (h' + 1) = h' + 1 := IntWalk.wrap64_in _ (by omega)
      obtain ⟨b1, hb1⟩ : ∃ b, eqL p D = b := ⟨_, rfl⟩
      have HC : Hid (checkB 0 p h D 0 h' = if b1 = false ∨ h ≠ h' + 1 then 24 else 0) := by
        show _ = _
        rw [checkB, if_neg (by simp), hb1]
        simp
      rw [hb1] at heq
      clear hb1 hrange
      cases b1
      · have HC : Hid (checkB 0 p h D 0 h' = 24) := HC.out.trans (if_pos (Or.inl rfl))
        go_wp2_with (first
          | ((with_reducible refine wpList_load_midG2 ?_ 28 _ rfl z 0 rfl (dl p) _ HR0.out Tryd.underlying28 rfl (hdg_size _ HPO.out) ?_); rfl)
          | ((with_reducible refine wpList_load_midG2 ?_ 28 _ rfl g4 0 rfl (dl D) _ HTR.out Tryd.underlying28 rfl (hdg_size _ HDO.out) ?_); rfl))
        go_ret
        exact ⟨by rw [HC.out]; rfl, HB4.out⟩
      · by_cases hhh : h = h' + 1
        · have HC : Hid (checkB 0 p h D 0 h' = 0) := HC.out.trans (if_neg (by simp [hhh]))
          subst hhh
          go_wp2_with (first
            | ((with_reducible refine wpList_load_midG2 ?_ 28 _ rfl z 0 rfl (dl p) _ HR0.out Tryd.underlying28 rfl (hdg_size _ HPO.out) ?_); rfl)
            | ((with_reducible refine wpList_load_midG2 ?_ 28 _ rfl g4 0 rfl (dl D) _ HTR.out Tryd.underlying28 rfl (hdg_size _ HDO.out) ?_); rfl))
          go_ret
          exact ⟨by rw [HC.out]; rfl, HB4.out⟩
        · have HC : Hid (checkB 0 p h D 0 h' = 24) := HC.out.trans (if_pos (Or.inr hhh))
          have hh1 : (h != h' + 1) = true := by simp [hhh]
          have hh2 : decide (h = h' + 1) = false := by simp [hhh]
          go_wp2_with (first
            | ((with_reducible refine wpList_load_midG2 ?_ 28 _ rfl z 0 rfl (dl p) _ HR0.out Tryd.underlying28 rfl (hdg_size _ HPO.out) ?_); rfl)
            | ((with_reducible refine wpList_load_midG2 ?_ 28 _ rfl g4 0 rfl (dl D) _ HTR.out Tryd.underlying28 rfl (hdg_size _ HDO.out) ?_); rfl))
          go_ret
          exact ⟨by rw [HC.out]; rfl, HB4.out⟩
    · have hd1 : (E' != 0) = true := by simp [hE1]
      have HC : Hid (checkB 0 p h D E' h' = 24) := by
        show _ = _
        rw [checkB, if_neg (by simp), if_pos (Or.inl hE1)]
      clear hE1 hrange
      go_wp2_with fail
      go_ret
      exact ⟨by rw [HC.out]; rfl, HB4.out⟩
  · have hd1 : (E != 0) = true := by simp [hE0]
    have HC : Hid (checkB E p h D E' h' = E) := by show _ = _; rw [checkB, if_pos hE0]
    clear hE0 hrange
    go_wp2_with fail
    go_ret
    exact ⟨by rw [HC.out]; rfl, HB2.out⟩
end Go.Proofs.YtbpmomedhdmloaaDoor
