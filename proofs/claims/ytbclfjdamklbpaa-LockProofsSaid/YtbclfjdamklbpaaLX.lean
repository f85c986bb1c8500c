/- How the document reads a digest. -/
import Derived.Test.YtbclfjdamklbpaaLV
namespace Go.Proofs.Ytbclfjdamklbpaa
set_option linter.unusedSimpArgs false
set_option linter.unusedVariables false
open Go.RowKit Go.Maps

def docDg (s : Rd) : (Rd × List Int) × Int :=
  if (someR s 8).1.err = 0 then (if (someR s 8).2.length = 8 then (((someR s 8).1, (someR s 8).2), 0) else (((someR s 8).1, zeroD), 3)) else (((someR s 8).1, zeroD), (someR s 8).1.err)
def RetRD (B : Nat) (p : (Rd × List Int) × Int) (w : World) (e : Ending) (w' : World) : Prop := ∃ v, e = .returned (.tuple #[v, .agg (dl p.1.2).toArray, .int .i64 p.2]) ∧ RvAt w' B v p.1.1 ∧ Below w.heap.size w w'
theorem docDg_ok {s : Rd} (h : ByOk s.rest) : DgOk (docDg s).1.2 := by
  unfold docDg
  split
  · split
    · rename_i h8; exact ⟨h8, lsome_ok h⟩
    · exact zero_ok
  · exact zero_ok
def rvC (A : Option Addr) (n c : Nat) (k e : Int) : List Value := [.slice A n c, .int .i64 k, .int .i64 e]
theorem rv_size : (Try.prog.info? 117).map (·.size) = some 3 := by kernel_rfl
theorem rv_one (A : Option Addr) (n c : Nat) (k e : Int) : ∀ x ∈ rvC A n c k e, x.oneCell' = true := by
  intro x hx; simp [rvC] at hx; rcases hx with rfl | rfl | rfl <;> rfl
theorem RvAt.form {w : World} {B : Nat} {v : Value} {s : Rd} (h : RvAt w B v s) : ∃ A n c k, v = .agg (rvC A n c k s.err).toArray := by
  obtain ⟨A, n, c, bs, k, rfl, _⟩ := h
  exact ⟨A, n, c, k, rfl⟩
theorem rv_cells {w : World} {g n c : Nat} {A : Option Addr} {k e : Int} (h : Bk w g 117 (rvC A n c k e)) : w.cell? ⟨g, 0, none⟩ = some (.slice A n c) ∧ w.cell? ⟨g, 1, none⟩ = some (.int .i64 k) ∧ w.cell? ⟨g, 2, none⟩ = some (.int .i64 e) := ⟨by rw [h.cell]; rfl, by rw [h.cell]; rfl, by rw [h.cell]; rfl⟩
theorem rdg_ret {w : World} {g g' : Nat} {cs ds : List Value} {n : Int} (hl : cs.length = 3) (hl' : ds.length = 8) (h : Bk w g 117 cs) (h' : Bk w g' 22 ds) (tmps : Array Value) (h2 : tmps.getD 2 undef = .pointer (some ⟨g, 0, none⟩)) (h3 : tmps.getD 3 undef = .pointer (some ⟨g', 0, none⟩)) (h4 : tmps.getD 4 undef = .int .i64 n) :
    (results Try.f62 tmps).run Try.prog w = .ok (.tuple #[.agg cs.toArray, .agg ds.toArray, .int .i64 n]) w := by
  have r1 : w.rangeAt g 0 cs := Bk.range (pre := []) (post := []) (by simpa using h) rfl
  have l1 := run_loadVar_mid (P := Try.prog) w g 0 117 cs _ r1 Try.underlying117 rfl (by rw [hl]; exact rv_size)
  have r2 : w.rangeAt g' 0 ds := Bk.range (pre := []) (post := []) (by simpa using h') rfl
  have l2 := run_loadVar_mid (P := Try.prog) w g' 0 22 ds _ r2 Try.underlying22 rfl (by rw [hl']; kernel_rfl)
  rw [Array.getD_eq_getD_getElem?] at h2 h3 h4
  simp [results, Try.results62, h2, h3, h4, asAddr, l1, l2]
def zRv : List Value := [.slice none 0 0, .int .i64 0, .int .i64 0]
set_option maxRecDepth 20000 in
set_option maxHeartbeats 4000000 in
theorem rdg_any (w : World) (B : Nat) (hB : B ≤ w.heap.size) (v : Value) (s : Rd) (h : RvAt w B v s) :
    Calls Try.prog 62 #[v] w (RetRD B (docDg s) w) := by
  have HR0 := Lib.hid h
  obtain ⟨A, n, c, k, hv⟩ := h.form
  subst hv
  obtain ⟨X, hX⟩ : ∃ X, (rvC A n c k s.err).toArray = X := ⟨_, rfl⟩
  obtain ⟨z, hz⟩ : ∃ z, w.heap.size = z := ⟨_, rfl⟩
  obtain ⟨w1, hw1⟩ : ∃ w1, ((w.alloc (.cells X 117)).alloc (.cells #[.slice none 0 0, .int .i64 0, .int .i64 0] 117)).alloc (.cells #[.int .u8 0, .int .u8 0, .int .u8 0, .int .u8 0, .int .u8 0, .int .u8 0, .int .u8 0, .int .u8 0] 22) = w1 := ⟨_, rfl⟩
  have hb1 : Below w.heap.size w w1 := hw1 ▸ ((below_new w _).alloc (by simp) _).alloc (by simp <;> omega) _
  have k1 : Bk w1 z 117 (rvC A n c k s.err) := hw1 ▸ ((Bk.at_ w _ X hz (by rw [← hX])).alloc _).alloc _
  have k2 : Bk w1 (z + 1) 117 zRv := hw1 ▸ (Bk.at_ _ _ _ (by simp [hz]) rfl).alloc _
  have k3 : Bk w1 (z + 1 + 1) 22 (dl zeroD) := hw1 ▸ Bk.at_ _ _ _ (by simp [hz]) rfl
  have HW := Lib.hid hw1; have HB1 := Lib.hid hb1; have HV1 := Lib.hid k1; have HP1 := Lib.hid k2; have HQ1 := Lib.hid k3; have HZ := Lib.hid hz
  have HR1 := Lib.hid (h.below (hb1.mono hB)); have HBB := Lib.hid hB
  rw [hX]
  have hbb : B ≤ w1.heap.size := Nat.le_trans hB hb1.size
  obtain ⟨T, hT⟩ : ∃ T, someR s 8 = T := ⟨_, rfl⟩
  have hsm := rSome_any w1 B hbb _ s HR1.out 8 (by decide) (by decide)
  have hto := lsome_ok (m := 8) h.ok
  rw [hT] at hsm hto
  have HSM := Lib.hid hsm; have HTO := Lib.hid hto; have HT := Lib.hid hT
  obtain ⟨D, hD⟩ : ∃ D, docDg s = D := ⟨_, rfl⟩
  have HDE : Hid (D = if T.1.err = 0 then (if T.2.length = 8 then ((T.1, T.2), 0) else ((T.1, zeroD), 3)) else ((T.1, zeroD), T.1.err)) := by show _ = _; rw [← hD, docDg, hT]
  rw [hD]
  clear hX hw1 hb1 k1 k2 k3 hz h hB hbb hT hsm hto hD
  obtain ⟨s2, tb⟩ := T
  go_enter Try.func62, Try.ntmps62
  go_upto_region 1 with fail
  rw [HW.out, HZ.out]
  go_upto_region 2 with fail
  obtain ⟨gd, hgd⟩ : ∃ q, w1.heap.size = q := ⟨_, rfl⟩
  obtain ⟨w2, hw2⟩ : ∃ w2, w1.alloc (.cells #[.int .u8 0, .int .u8 0, .int .u8 0, .int .u8 0, .int .u8 0, .int .u8 0, .int .u8 0, .int .u8 0] 22) = w2 := ⟨_, rfl⟩
  have hbn : Below w1.heap.size w1 w2 := hw2 ▸ below_new w1 _
  have HD2 : Hid (Bk w2 gd 22 (dl zeroD)) := by show Bk _ _ _ _; rw [← hw2]; exact Bk.at_ w1 _ _ hgd rfl
  have HGD : Hid (z + 1 + 1 < gd) := by have := HQ1.out.lt; show z + 1 + 1 < gd; omega
  have HV2 := Lib.hid (HV1.out.later hbn); have HP2 := Lib.hid (HP1.out.later hbn); have HQ2 := Lib.hid (HQ1.out.later hbn); have HB2 := Lib.hid (below_then HB1.out hbn)
  have HSM2 := Lib.hid (rSome_any w2 B (Nat.le_trans HBB.out HB2.out.size) _ s (HR0.out.below (HB2.out.mono HBB.out)) 8 (by decide) (by decide))
  rw [hgd, hw2]
  clear hbn hgd hw2 HV1 HP1 HQ1 HB1 HR1 HSM
  have hsm := HSM2.out
  rw [HT.out] at hsm
  have HSM := Lib.hid hsm
  clear hsm HSM2 HT HR0
  obtain ⟨z0, z1, z2⟩ := rv_cells HV2.out
  go_wp2_with fail
  clear z0 z1 z2
  refine HSM.out.mono ?_
  rintro e w3 ⟨v3, bv, rfl, hrv, hown, hbn⟩
  obtain ⟨A2, n2, c2, k2, hv3⟩ := hrv.form
  subst hv3
  obtain ⟨A3, c3, rfl⟩ := own_form hown
  have HV3 := Lib.hid (HV2.out.later hbn); have HP3 := Lib.hid (HP2.out.later hbn); have HQ3 := Lib.hid (HQ2.out.later hbn); have HD3 := Lib.hid (HD2.out.later hbn); have HB3 := Lib.hid (below_then HB2.out hbn); have HR3 := Lib.hid hrv; have HO3 := Lib.hid hown
  clear hrv hown hbn HV2 HP2 HQ2 HD2 HB2 HSM
  go_wp2_with (with_reducible refine stop_store 117 _ _ rfl ?_)
  refine StopD.go ?_
  refine wpList_store_part rfl 117 _ _ rfl z 0 (.agg (rvC A2 n2 c2 k2 s2.err).toArray) (rvC A2 n2 c2 k2 s2.err) rfl rfl rfl 117 [] (rvC A n c k s.err) [] (by simpa using HV3.out) rfl rfl rv_size (rv_one _ _ _ _ _) ?_
  intro w4 hp
  have hgd := HGD.out
  have HV4 : Hid (Bk w4 z 117 (rvC A2 n2 c2 k2 s2.err)) := by show Bk _ _ _ _; have := hp.bk; simpa using this
  have HP4 := Lib.hid (HP3.out.grown hp.only (by intro e; injection e with e; omega)); have HQ4 := Lib.hid (HQ3.out.grown hp.only (by intro e; injection e with e; omega)); have HD4 := Lib.hid (HD3.out.grown hp.only (by intro e; injection e with e; omega))
  have HB4 := Lib.hid (below_only HB3.out hp.only HB3.out.size (Nat.le_of_eq HZ.out))
  have HR4 : Hid (RvAt w4 B (.agg (rvC A2 n2 c2 k2 s2.err).toArray) s2) := HR3.out.below ((Below.refl _ _).grown hp.only (Nat.le_trans HBB.out HB3.out.size) (fun q hq => by injection hq with hq; have := HZ.out; have := HBB.out; omega))
  have HO4 := Lib.hid (own_only HO3.out hp.only (own_bk_ne HO3.out HV3.out (by decide)))
  clear hp HV3 HP3 HQ3 HD3 HB3 HR3 HO3
  have HBW : Hid (∀ w', Below w.heap.size w w' → True) := fun _ _ => trivial
  have HRB : Hid (∀ w', Below w4.heap.size w4 w' → RvAt w' B (.agg (rvC A2 n2 c2 k2 s2.err).toArray) s2) := fun w' hb => HR4.out.below (hb.mono (Nat.le_trans HBB.out HB4.out.size))
  have cz : w4.cell? ⟨z, 2, none⟩ = some (.int .i64 s2.err) := by rw [HV4.out.cell]; rfl
  have HZO : Hid (DgOk zeroD) := zero_ok
  by_cases he : s2.err = 0
  · have HE0 := Lib.hid he
    have hen : (s2.err != 0) = false := by simpa using he
    obtain ⟨m, hm⟩ : ∃ m, tb.length = m := ⟨_, rfl⟩
    have HTL := Lib.hid hm
    rw [hm] at HO4 HDE ⊢
    clear hm
    by_cases h8 : m = 8
    · subst h8
      have HDD : Hid (D = ((s2, tb), 0)) := by show _ = _; rw [HDE.out]; rw [if_pos he, if_pos rfl]
      have HTD : Hid (DgOk tb) := ⟨HTL.out, HTO.out⟩
      clear HDE he HBW
      go_upto_region 7 with fail
      clear cz hen
      go_wp2_with fail
      go_loopw [7] (fun iv wr => ∃ (j : Nat), j ≤ 8 ∧ iv = .int .i64 j ∧ Hid (Bk wr gd 22 (dl (tb.take j ++ zeroD.drop j))) ∧ Hid (Bk wr z 117 (rvC A2 n2 c2 k2 s2.err)) ∧ Hid (Bk wr (z + 1) 117 zRv) ∧ Hid (Bk wr (z + 1 + 1) 22 (dl zeroD)) ∧ Hid (wr.ownsRow w2.heap.size 5 1 (.slice A3 8 c3) 8 (tb.map (.int .u8))) ∧ Hid (RvAt wr B (.agg (rvC A2 n2 c2 k2 s2.err).toArray) s2) ∧ Hid (Below w.heap.size w wr)) (fun iv _ => 8 - (intOf iv).toNat)
      case atStart => exact ⟨0, by omega, rfl, by simpa using HD4, HV4, HP4, HQ4, HO4, HR4, HB4⟩
      case round =>
        clear HV4 HP4 HQ4 HD4 HR4 HO4 HB4 HRB
        obtain ⟨j, hj, rfl, HD4, HV4, HP4, HQ4, HO4, HR4, HB4⟩ := hrel
        by_cases hlt : j < 8
        · have hji : (j : Int) < 8 := by omega
          have hj0 : (0 : Int) ≤ j := by omega
          obtain ⟨x, hx⟩ : ∃ x, tb[j]? = some x := ⟨tb[j]'(by rw [HTL.out]; omega), List.getElem?_eq_getElem _⟩
          obtain ⟨b, o, rfl, hbl, hc⟩ := (Sl.of_own HO4.out).spot (by omega) (by omega)
          have hcell : wr.cell? ⟨b, o + j, none⟩ = some (.int .u8 x) := hc j _ (by rw [List.getElem?_map, hx]; rfl)
          have HX := Lib.hid hx
          clear hx hbl hc
          go_wp2_with (with_reducible refine stop_store 5 _ _ rfl ?_)
          refine StopD.go ?_
          have HSP : Hid (dl (tb.take j ++ zeroD.drop j) = dl (tb.take j) ++ ([.int .u8 0] ++ dl (zeroD.drop (j + 1)))) := by
            show _ = _
            rw [List.drop_eq_getElem_cons (show j < zeroD.length from hlt)]
            have : zeroD[j]'(show j < zeroD.length from hlt) = 0 := (show ∀ (i : Nat) (h : i < 8), zeroD[i]'h = 0 by decide) j hlt
            rw [this]
            simp [dl]
          refine wpList_store_part rfl 5 _ _ rfl gd j (.int .u8 x) [.int .u8 x] rfl rfl rfl 22 (dl (tb.take j)) [.int .u8 0] (dl (zeroD.drop (j + 1))) (by rw [← HSP.out]; exact HD4.out) (by rw [dl_len, List.length_take, HTL.out]; omega) rfl (by kernel_rfl) (by intro y hy; simp at hy; subst hy; rfl) ?_
          intro w5 hp
          have hgd := HGD.out
          have HD5 : Hid (Bk w5 gd 22 (dl (tb.take (j + 1) ++ zeroD.drop (j + 1)))) := by
            show Bk _ _ _ _
            have := hp.bk
            rw [take_snoc HX.out]
            simpa [dl] using this
          have HV5 := Lib.hid (HV4.out.grown hp.only (by intro e; injection e with e; omega)); have HP5 := Lib.hid (HP4.out.grown hp.only (by intro e; injection e with e; omega)); have HQ5 := Lib.hid (HQ4.out.grown hp.only (by intro e; injection e with e; omega))
          have HO5 := Lib.hid (own_only HO4.out hp.only (own_bk_ne HO4.out HD4.out (by decide)))
          have HB5 := Lib.hid (below_only HB4.out hp.only HB4.out.size (by have := HZ.out; omega))
          have HR5 : Hid (RvAt w5 B (.agg (rvC A2 n2 c2 k2 s2.err).toArray) s2) := HR4.out.below ((Below.refl _ _).grown hp.only (Nat.le_trans HBB.out HB4.out.size) (fun q hq => by injection hq with hq; have := HZ.out; have := HBB.out; omega))
          clear hp hcell HSP
          go_wp2_with fail
          go_roundw
          case rel => exact ⟨j + 1, hlt, by go_num, HD5, HV5, HP5, HQ5, HO5, HR5, HB5⟩
          case measure => simp [intOf] <;> omega
        · obtain rfl : j = 8 := by omega
          have HDT : Hid (tb.take 8 ++ zeroD.drop 8 = tb) := by
            show _ = _
            rw [List.take_of_length_le (by rw [HTL.out]; exact Nat.le_refl _)]
            simp [zeroD]
          rw [HDT.out] at HD4
          have hgd := HGD.out
          go_upto_region 11 with fail
          refine wp_region_held_drew (S := fun w' => Bk w' z 117 (rvC A2 n2 c2 k2 s2.err) ∧ Bk w' gd 22 (dl tb)) (by kernel_rfl) ⟨Bk.drew HV4.out, Bk.drew HD4.out⟩ (fun hHeld => ?_)
          have hbd : Below wr.heap.size wr wr.drew := below_draws wr wr.heap.size 1
          obtain ⟨wa, hwa⟩ : ∃ wa, wr.drew = wa := ⟨_, rfl⟩
          rw [hwa] at hbd hHeld ⊢
          have HVa := Lib.hid (HV4.out.later hbd); have HDa := Lib.hid (HD4.out.later hbd); have HPa := Lib.hid (HP4.out.later hbd); have HQa := Lib.hid (HQ4.out.later hbd); have HBa := Lib.hid (below_then HB4.out hbd); have HEa := Lib.hid (hbd.mono HB4.out.size)
          clear hwa hbd
          refine wpAnyH_take (i := 0) (v := .agg (List.toArray (rvC A2 n2 c2 k2 s2.err))) rfl (by kernel_rfl) (by kernel_rfl) (by kernel_rfl) (fun _ _ _ h => h) (yieldsIf_load_mid (by rfl) _ _ rfl _ _ rfl (rvC A2 n2 c2 k2 s2.err) _ (fun w hSw => (Bk.range (pre := []) (post := []) (by simpa using hSw.1) rfl)) Try.underlying117 rfl (rv_size)) (by assumption) ?_
          try simp only [Act.put, List.setIfInBounds_toArray, List.set_cons_zero, List.set_cons_succ, List.getElem_toArray, List.getElem_cons_zero, List.getElem_cons_succ]
          refine wpAnyH_take (i := 1) (v := .agg (List.toArray (dl tb))) rfl (by kernel_rfl) (by kernel_rfl) (by kernel_rfl) (fun _ _ _ h => h) (yieldsIf_load_mid (by rfl) _ _ rfl _ _ rfl (dl tb) _ (fun w hSw => (Bk.range (pre := []) (post := []) (by simpa using hSw.2) rfl)) Try.underlying22 rfl ((by rw [dl_len, HTD.out.len]; kernel_rfl))) (by assumption) ?_
          try simp only [Act.put, List.setIfInBounds_toArray, List.set_cons_zero, List.set_cons_succ, List.getElem_toArray, List.getElem_cons_zero, List.getElem_cons_succ]
          refine wpAnyH_ready (rs := [2]) (by kernel_rfl) (by simp) ?_
          refine AllReadyH.cons rfl (fun K hK => ?_) AllReadyH.nil
          rw [if_pos (by rfl)]
          refine wp_store_part _ _ _ rfl (z + 1) 0 _ (rvC A2 n2 c2 k2 s2.err) rfl rfl rfl _ ([]) (zRv) ([]) (by simpa using HPa.out) rfl rfl rv_size (rv_one _ _ _ _ _) ?_
          intro wb hp
          refine hK.out _ _ ⟨HVa.out.grown hp.only (by intro e; injection e with e; omega), HDa.out.grown hp.only (by intro e; injection e with e; omega)⟩ (fun hHeld => ?_)
          clear hK K
          try simp only [Act.put, List.setIfInBounds_toArray, List.set_cons_zero, List.set_cons_succ, List.getElem_toArray, List.getElem_cons_zero, List.getElem_cons_succ]
          have HPb : Hid (Bk wb (z + 1) 117 (rvC A2 n2 c2 k2 s2.err)) := by show Bk _ _ _ _; have := hp.bk; simpa using this
          have HVb := Lib.hid (HVa.out.grown hp.only (by intro e; injection e with e; omega)); have HDb := Lib.hid (HDa.out.grown hp.only (by intro e; injection e with e; omega)); have HQb := Lib.hid (HQa.out.grown hp.only (by intro e; injection e with e; omega)); have HBb := Lib.hid (below_only HBa.out hp.only HBa.out.size (by have := HZ.out; omega)); have HEb := Lib.hid (below_only HEa.out hp.only HBa.out.size (by have := HZ.out; omega))
          clear hp HPa HVa HDa HQa HBa HEa
          refine wpAnyH_ready (rs := [3]) (by kernel_rfl) (by simp) ?_
          refine AllReadyH.cons rfl (fun K hK => ?_) AllReadyH.nil
          rw [if_pos (by rfl)]
          refine wp_store_part _ _ _ rfl (z + 1 + 1) 0 _ (dl tb) rfl rfl rfl _ ([]) (dl zeroD) ([]) (by simpa using HQb.out) rfl (by rw [show (dl tb).length = 8 by rw [dl_len, HTD.out.len]] <;> rfl) (by rw [dl_len, HTD.out.len]; kernel_rfl) (dl_one' _) ?_
          intro wc hp
          refine hK.out _ _ ⟨HVb.out.grown hp.only (by intro e; injection e with e; omega), HDb.out.grown hp.only (by intro e; injection e with e; omega)⟩ (fun hHeld => ?_)
          clear hK K
          try simp only [Act.put, List.setIfInBounds_toArray, List.set_cons_zero, List.set_cons_succ, List.getElem_toArray, List.getElem_cons_zero, List.getElem_cons_succ]
          have HQc : Hid (Bk wc (z + 1 + 1) 22 (dl tb)) := by show Bk _ _ _ _; have := hp.bk; simpa using this
          have HPc := Lib.hid (HPb.out.grown hp.only (by intro e; injection e with e; omega)); have HBc := Lib.hid (below_only HBb.out hp.only HBb.out.size (by have := HZ.out; omega)); have HEc := Lib.hid (below_only HEb.out hp.only HBb.out.size (by have := HZ.out; omega))
          clear hp HPb HQb HBb HEb
          refine wpAnyH_take (i := 4) (v := ?_) rfl (by kernel_rfl) (by kernel_rfl) (by kernel_rfl) (fun _ _ _ h => h) (Or.inl ⟨by rfl, ?_⟩) (by assumption) ?_
          rotate_left
          · intro w hSw
            (try dsimp only at hSw)
            go_simp
            try with_reducible rfl
          try simp only [Act.put, List.setIfInBounds_toArray, List.set_cons_zero, List.set_cons_succ, List.getElem_toArray, List.getElem_cons_zero, List.getElem_cons_succ]
          refine wpAnyH_done (by kernel_rfl) ?_ _
          clear hHeld
          go_wp2_with fail
          refine bodyPost_ret (rdg_ret rfl (by rw [dl_len, HTD.out.len]) HPc.out HQc.out _ rfl rfl rfl) rfl ?_
          rw [HDD.out]
          exact ⟨_, rfl, HR4.out.below (HEc.out.mono HBB.out), HBc.out⟩
    · have HDD : Hid (D = ((s2, zeroD), 3)) := by show _ = _; rw [HDE.out]; rw [if_pos he, if_neg h8]
      have h8b : ((m : Int) != 8) = true := by simp; omega
      have h8c : (m != 8) = true := by simpa using h8
      clear HDE he HBW h8
      go_upto_region 6 with fail
      clear cz hen
      refine wp_region_held_drew (S := fun w' => Bk w' z 117 (rvC A2 n2 c2 k2 s2.err) ∧ Bk w' gd 22 (dl zeroD)) (by kernel_rfl) ⟨Bk.drew HV4.out, Bk.drew HD4.out⟩ (fun hHeld => ?_)
      have hbd : Below w4.heap.size w4 w4.drew := below_draws w4 w4.heap.size 1
      obtain ⟨wa, hwa⟩ : ∃ wa, w4.drew = wa := ⟨_, rfl⟩
      rw [hwa] at hbd hHeld ⊢
      have HVa := Lib.hid (HV4.out.later hbd); have HDa := Lib.hid (HD4.out.later hbd); have HPa := Lib.hid (HP4.out.later hbd); have HQa := Lib.hid (HQ4.out.later hbd); have HBa := Lib.hid (below_then HB4.out hbd); have HEa := Lib.hid (hbd.mono HB4.out.size)
      clear hwa hbd
      refine wpAnyH_take (i := 0) (v := .agg (List.toArray (rvC A2 n2 c2 k2 s2.err))) rfl (by kernel_rfl) (by kernel_rfl) (by kernel_rfl) (fun _ _ _ h => h) (yieldsIf_load_mid (by rfl) _ _ rfl _ _ rfl (rvC A2 n2 c2 k2 s2.err) _ (fun w hSw => (Bk.range (pre := []) (post := []) (by simpa using hSw.1) rfl)) Try.underlying117 rfl (rv_size)) (by assumption) ?_
      try simp only [Act.put, List.setIfInBounds_toArray, List.set_cons_zero, List.set_cons_succ, List.getElem_toArray, List.getElem_cons_zero, List.getElem_cons_succ]
      refine wpAnyH_take (i := 1) (v := .agg (List.toArray (dl zeroD))) rfl (by kernel_rfl) (by kernel_rfl) (by kernel_rfl) (fun _ _ _ h => h) (yieldsIf_load_mid (by rfl) _ _ rfl _ _ rfl (dl zeroD) _ (fun w hSw => (Bk.range (pre := []) (post := []) (by simpa using hSw.2) rfl)) Try.underlying22 rfl ((by rw [dl_len, HZO.out.len]; kernel_rfl))) (by assumption) ?_
      try simp only [Act.put, List.setIfInBounds_toArray, List.set_cons_zero, List.set_cons_succ, List.getElem_toArray, List.getElem_cons_zero, List.getElem_cons_succ]
      refine wpAnyH_ready (rs := [2]) (by kernel_rfl) (by simp) ?_
      refine AllReadyH.cons rfl (fun K hK => ?_) AllReadyH.nil
      rw [if_pos (by rfl)]
      refine wp_store_part _ _ _ rfl (z + 1) 0 _ (rvC A2 n2 c2 k2 s2.err) rfl rfl rfl _ ([]) (zRv) ([]) (by simpa using HPa.out) rfl rfl rv_size (rv_one _ _ _ _ _) ?_
      intro wb hp
      refine hK.out _ _ ⟨HVa.out.grown hp.only (by intro e; injection e with e; omega), HDa.out.grown hp.only (by intro e; injection e with e; omega)⟩ (fun hHeld => ?_)
      clear hK K
      try simp only [Act.put, List.setIfInBounds_toArray, List.set_cons_zero, List.set_cons_succ, List.getElem_toArray, List.getElem_cons_zero, List.getElem_cons_succ]
      have HPb : Hid (Bk wb (z + 1) 117 (rvC A2 n2 c2 k2 s2.err)) := by show Bk _ _ _ _; have := hp.bk; simpa using this
      have HVb := Lib.hid (HVa.out.grown hp.only (by intro e; injection e with e; omega)); have HDb := Lib.hid (HDa.out.grown hp.only (by intro e; injection e with e; omega)); have HQb := Lib.hid (HQa.out.grown hp.only (by intro e; injection e with e; omega)); have HBb := Lib.hid (below_only HBa.out hp.only HBa.out.size (by have := HZ.out; omega)); have HEb := Lib.hid (below_only HEa.out hp.only HBa.out.size (by have := HZ.out; omega))
      clear hp HPa HVa HDa HQa HBa HEa
      refine wpAnyH_ready (rs := [3]) (by kernel_rfl) (by simp) ?_
      refine AllReadyH.cons rfl (fun K hK => ?_) AllReadyH.nil
      rw [if_pos (by rfl)]
      refine wp_store_part _ _ _ rfl (z + 1 + 1) 0 _ (dl zeroD) rfl rfl rfl _ ([]) (dl zeroD) ([]) (by simpa using HQb.out) rfl (by rw [show (dl zeroD).length = 8 by rw [dl_len, HZO.out.len]] <;> rfl) (by rw [dl_len, HZO.out.len]; kernel_rfl) (dl_one' _) ?_
      intro wc hp
      refine hK.out _ _ ⟨HVb.out.grown hp.only (by intro e; injection e with e; omega), HDb.out.grown hp.only (by intro e; injection e with e; omega)⟩ (fun hHeld => ?_)
      clear hK K
      try simp only [Act.put, List.setIfInBounds_toArray, List.set_cons_zero, List.set_cons_succ, List.getElem_toArray, List.getElem_cons_zero, List.getElem_cons_succ]
      have HQc : Hid (Bk wc (z + 1 + 1) 22 (dl zeroD)) := by show Bk _ _ _ _; have := hp.bk; simpa using this
      have HPc := Lib.hid (HPb.out.grown hp.only (by intro e; injection e with e; omega)); have HBc := Lib.hid (below_only HBb.out hp.only HBb.out.size (by have := HZ.out; omega)); have HEc := Lib.hid (below_only HEb.out hp.only HBb.out.size (by have := HZ.out; omega))
      clear hp HPb HQb HBb HEb
      refine wpAnyH_take (i := 4) (v := ?_) rfl (by kernel_rfl) (by kernel_rfl) (by kernel_rfl) (fun _ _ _ h => h) (Or.inl ⟨by rfl, ?_⟩) (by assumption) ?_
      rotate_left
      · intro w hSw
        (try dsimp only at hSw)
        go_simp
        try with_reducible rfl
      try simp only [Act.put, List.setIfInBounds_toArray, List.set_cons_zero, List.set_cons_succ, List.getElem_toArray, List.getElem_cons_zero, List.getElem_cons_succ]
      refine wpAnyH_done (by kernel_rfl) ?_ _
      clear hHeld
      go_wp2_with fail
      refine bodyPost_ret (rdg_ret rfl (by rw [dl_len, HZO.out.len]) HPc.out HQc.out _ rfl rfl rfl) rfl ?_
      rw [HDD.out]
      exact ⟨_, rfl, HR4.out.below (HEc.out.mono HBB.out), HBc.out⟩
  · have hen : (s2.err != 0) = true := by simpa using he
    have HDD : Hid (D = ((s2, zeroD), s2.err)) := by show _ = _; rw [HDE.out]; exact if_neg he
    clear HDE he HBW
    go_upto_region 4 with fail
    clear cz hen
    refine wp_region_held_drew (S := fun w' => Bk w' z 117 (rvC A2 n2 c2 k2 s2.err) ∧ Bk w' gd 22 (dl zeroD)) (by kernel_rfl) ⟨Bk.drew HV4.out, Bk.drew HD4.out⟩ (fun hHeld => ?_)
    have hbd : Below w4.heap.size w4 w4.drew := below_draws w4 w4.heap.size 1
    obtain ⟨wa, hwa⟩ : ∃ wa, w4.drew = wa := ⟨_, rfl⟩
    rw [hwa] at hbd hHeld ⊢
    have HVa := Lib.hid (HV4.out.later hbd); have HDa := Lib.hid (HD4.out.later hbd); have HPa := Lib.hid (HP4.out.later hbd); have HQa := Lib.hid (HQ4.out.later hbd); have HBa := Lib.hid (below_then HB4.out hbd); have HEa := Lib.hid (hbd.mono HB4.out.size)
    clear hwa hbd
    refine wpAnyH_take (i := 0) (v := .agg (List.toArray (rvC A2 n2 c2 k2 s2.err))) rfl (by kernel_rfl) (by kernel_rfl) (by kernel_rfl) (fun _ _ _ h => h) (yieldsIf_load_mid (by rfl) _ _ rfl _ _ rfl (rvC A2 n2 c2 k2 s2.err) _ (fun w hSw => (Bk.range (pre := []) (post := []) (by simpa using hSw.1) rfl)) Try.underlying117 rfl (rv_size)) (by assumption) ?_
    try simp only [Act.put, List.setIfInBounds_toArray, List.set_cons_zero, List.set_cons_succ, List.getElem_toArray, List.getElem_cons_zero, List.getElem_cons_succ]
    refine wpAnyH_take (i := 1) (v := .agg (List.toArray (dl zeroD))) rfl (by kernel_rfl) (by kernel_rfl) (by kernel_rfl) (fun _ _ _ h => h) (yieldsIf_load_mid (by rfl) _ _ rfl _ _ rfl (dl zeroD) _ (fun w hSw => (Bk.range (pre := []) (post := []) (by simpa using hSw.2) rfl)) Try.underlying22 rfl ((by rw [dl_len, HZO.out.len]; kernel_rfl))) (by assumption) ?_
    try simp only [Act.put, List.setIfInBounds_toArray, List.set_cons_zero, List.set_cons_succ, List.getElem_toArray, List.getElem_cons_zero, List.getElem_cons_succ]
    refine wpAnyH_take (i := 2) (v := ?_) rfl (by kernel_rfl) (by kernel_rfl) (by kernel_rfl) (fun _ _ _ h => h) (Or.inl ⟨by rfl, ?_⟩) (by assumption) ?_
    rotate_left
    · intro w hSw
      (try dsimp only at hSw)
      go_simp
      try with_reducible rfl
    try simp only [Act.put, List.setIfInBounds_toArray, List.set_cons_zero, List.set_cons_succ, List.getElem_toArray, List.getElem_cons_zero, List.getElem_cons_succ]
    refine wpAnyH_take (i := 3) (v := ?_) rfl (by kernel_rfl) (by kernel_rfl) (by kernel_rfl) (fun _ _ _ h => h) (Or.inl ⟨by rfl, ?_⟩) (by assumption) ?_
    rotate_left
    · intro w hSw
      have hcell := (show w.cell? ⟨z, 2, none⟩ = some (.int .i64 s2.err) by rw [hSw.1.cell]; rfl)
      clear hSw
      go_simp
      try with_reducible rfl
    try simp only [Act.put, List.setIfInBounds_toArray, List.set_cons_zero, List.set_cons_succ, List.getElem_toArray, List.getElem_cons_zero, List.getElem_cons_succ]
    refine wpAnyH_ready (rs := [4]) (by kernel_rfl) (by simp) ?_
    refine AllReadyH.cons rfl (fun K hK => ?_) AllReadyH.nil
    rw [if_pos (by rfl)]
    refine wp_store_part _ _ _ rfl (z + 1) 0 _ (rvC A2 n2 c2 k2 s2.err) rfl rfl rfl _ ([]) (zRv) ([]) (by simpa using HPa.out) rfl rfl rv_size (rv_one _ _ _ _ _) ?_
    intro wb hp
    refine hK.out _ _ ⟨HVa.out.grown hp.only (by intro e; injection e with e; omega), HDa.out.grown hp.only (by intro e; injection e with e; omega)⟩ (fun hHeld => ?_)
    clear hK K
    try simp only [Act.put, List.setIfInBounds_toArray, List.set_cons_zero, List.set_cons_succ, List.getElem_toArray, List.getElem_cons_zero, List.getElem_cons_succ]
    have HPb : Hid (Bk wb (z + 1) 117 (rvC A2 n2 c2 k2 s2.err)) := by show Bk _ _ _ _; have := hp.bk; simpa using this
    have HVb := Lib.hid (HVa.out.grown hp.only (by intro e; injection e with e; omega)); have HDb := Lib.hid (HDa.out.grown hp.only (by intro e; injection e with e; omega)); have HQb := Lib.hid (HQa.out.grown hp.only (by intro e; injection e with e; omega)); have HBb := Lib.hid (below_only HBa.out hp.only HBa.out.size (by have := HZ.out; omega)); have HEb := Lib.hid (below_only HEa.out hp.only HBa.out.size (by have := HZ.out; omega))
    clear hp HPa HVa HDa HQa HBa HEa
    refine wpAnyH_ready (rs := [5]) (by kernel_rfl) (by simp) ?_
    refine AllReadyH.cons rfl (fun K hK => ?_) AllReadyH.nil
    rw [if_pos (by rfl)]
    refine wp_store_part _ _ _ rfl (z + 1 + 1) 0 _ (dl zeroD) rfl rfl rfl _ ([]) (dl zeroD) ([]) (by simpa using HQb.out) rfl (by rw [show (dl zeroD).length = 8 by rw [dl_len, HZO.out.len]] <;> rfl) (by rw [dl_len, HZO.out.len]; kernel_rfl) (dl_one' _) ?_
    intro wc hp
    refine hK.out _ _ ⟨HVb.out.grown hp.only (by intro e; injection e with e; omega), HDb.out.grown hp.only (by intro e; injection e with e; omega)⟩ (fun hHeld => ?_)
    clear hK K
    try simp only [Act.put, List.setIfInBounds_toArray, List.set_cons_zero, List.set_cons_succ, List.getElem_toArray, List.getElem_cons_zero, List.getElem_cons_succ]
    have HQc : Hid (Bk wc (z + 1 + 1) 22 (dl zeroD)) := by show Bk _ _ _ _; have := hp.bk; simpa using this
    have HPc := Lib.hid (HPb.out.grown hp.only (by intro e; injection e with e; omega)); have HBc := Lib.hid (below_only HBb.out hp.only HBb.out.size (by have := HZ.out; omega)); have HEc := Lib.hid (below_only HEb.out hp.only HBb.out.size (by have := HZ.out; omega))
    clear hp HPb HQb HBb HEb
    refine wpAnyH_take (i := 6) (v := ?_) rfl (by kernel_rfl) (by kernel_rfl) (by kernel_rfl) (fun _ _ _ h => h) (Or.inl ⟨by rfl, ?_⟩) (by assumption) ?_
    rotate_left
    · intro w hSw
      (try dsimp only at hSw)
      go_simp
      try with_reducible rfl
    try simp only [Act.put, List.setIfInBounds_toArray, List.set_cons_zero, List.set_cons_succ, List.getElem_toArray, List.getElem_cons_zero, List.getElem_cons_succ]
    refine wpAnyH_done (by kernel_rfl) ?_ _
    clear hHeld
    go_wp2_with fail
    refine bodyPost_ret (rdg_ret rfl (by rw [dl_len, HZO.out.len]) HPc.out HQc.out _ rfl rfl rfl) rfl ?_
    rw [HDD.out]
    exact ⟨_, rfl, HR4.out.below (HEc.out.mono HBB.out), HBc.out⟩
end Go.Proofs.Ytbclfjdamklbpaa
