/- A block's root, name, and one above another; the example. -/
import Derived.Test.YtbpmomedhdmloaaDoorB9
namespace Go.Proofs.YtbpmomedhdmloaaDoor
set_option linter.unusedSimpArgs false
set_option linter.unusedVariables false
open Go.RowKit Go.Maps

theorem dg_eqb (t t' : List Int) (ht : DgOk t) (ht' : DgOk t') (W : World) : (Op.equalIn 10000 28 (.agg (dl t).toArray) (.agg (dl t').toArray)).run Tryd.prog W = .ok (eqL t t') W := by
  obtain ⟨j, hj, hjs⟩ := Option.map_eq_some_iff.1 (show (Tryd.prog.info? 5).map (·.size) = some 1 by kernel_rfl)
  exact run_equalIn_ints 9998 28 5 8 Tryd.underlying28 Tryd.underlying5 hj hjs t t' ht.len ht'.len W
theorem rdg_eqb (t t' : List Int) (ht : DgOk t) (ht' : DgOk t') (W : World) : (Op.equalIn 10000 22 (.agg (dl t).toArray) (.agg (dl t').toArray)).run Tryd.prog W = .ok (eqL t t') W := by
  obtain ⟨j, hj, hjs⟩ := Option.map_eq_some_iff.1 (show (Tryd.prog.info? 5).map (·.size) = some 1 by kernel_rfl)
  exact run_equalIn_ints 9998 22 5 8 Tryd.underlying22 Tryd.underlying5 hj hjs t t' ht.len ht'.len W
theorem dg_lens {d : List Int} (h : DgOk d) : (dl zeroD).length = (dl d).length := by rw [dl_len, dl_len, h.len]; rfl
theorem root_ret {w : World} {g : Nat} {d : List Int} (hd : DgOk d) (h : Bk w g 28 (dl d)) (tmps : Array Value) (h2 : tmps.getD 2 undef = .pointer (some ⟨g, 0, none⟩)) {e : Value} (h3 : tmps.getD 3 undef = e) :
    (results Tryd.f22 tmps).run Tryd.prog w = .ok (.tuple #[.agg (dl d).toArray, e]) w := by
  have r1 : w.rangeAt g 0 (dl d) := Bk.range (pre := []) (post := []) (by simpa using h) rfl
  have l1 := run_loadVar_mid (P := Tryd.prog) w g 0 28 (dl d) _ r1 Tryd.underlying28 rfl (hdg_size _ hd)
  rw [Array.getD_eq_getD_getElem?] at h2 h3
  simp [results, Tryd.results22, h2, h3, asAddr, l1]
theorem name_ret {w : World} {g : Nat} {d : List Int} (hd : DgOk d) (h : Bk w g 28 (dl d)) (tmps : Array Value) (h2 : tmps.getD 2 undef = .pointer (some ⟨g, 0, none⟩)) {e : Value} (h3 : tmps.getD 3 undef = e) :
    (results Tryd.f11 tmps).run Tryd.prog w = .ok (.tuple #[.agg (dl d).toArray, e]) w := by
  have r1 : w.rangeAt g 0 (dl d) := Bk.range (pre := []) (post := []) (by simpa using h) rfl
  have l1 := run_loadVar_mid (P := Tryd.prog) w g 0 28 (dl d) _ r1 Tryd.underlying28 rfl (hdg_size _ hd)
  rw [Array.getD_eq_getD_getElem?] at h2 h3
  simp [results, Tryd.results11, h2, h3, asAddr, l1]
def txtNone : List Int := [110, 111, 110, 101]
theorem txtNone_is : bytesOf ⟨#[110, 111, 110, 101]⟩ = txtNone := by decide
def txtBlock : List Int := [98, 108, 111, 99, 107]
theorem txtBlock_is : bytesOf ⟨#[98, 108, 111, 99, 107]⟩ = txtBlock := by decide
/-- The root of a block that is wrong, and of one that is empty. -/
def root0 (h : Int) (L : List TxT) : List Int := if blkE h L = 0 then wordI zeroD txtNone else zeroD
theorem root0_ok (h : Int) (L : List TxT) : DgOk (root0 h L) := by unfold root0; split <;> first | exact wordI_ok _ _ | exact zero_ok
set_option maxRecDepth 20000 in
set_option maxHeartbeats 4000000 in
theorem root0_any (w : World) (p : List Int) (h : Int) (m : List Int) (hp : DgOk p) (hm : DgOk m) (A : Option Addr) (N C : Nat) (xs : List (List Value × TxT)) (hx : Txs w A N xs) (h0 : blkE h (xs.map (·.2)) = 0 → N = 0) :
    Calls Tryd.prog 22 #[.agg (bkC p h m (.slice A N C)).toArray] w fun e w' => e = .returned (.tuple #[.agg (dl (root0 h (xs.map (·.2)))).toArray, .int .i64 (blkE h (xs.map (·.2)))]) ∧ Below w.heap.size w w' := by
  have HRE := Lib.hid (fun (w' : World) (hx' : Txs w' A N xs) => right_b w' p h m hp hm A N C xs hx')
  have HBS := Lib.hid (blk_sz (h := h) (s := .slice A N C) hp hm)
  obtain ⟨l, hl⟩ : ∃ x, bkC p h m (.slice A N C) = x := ⟨_, rfl⟩
  obtain ⟨X, hX⟩ : ∃ X, l.toArray = X := ⟨_, rfl⟩
  obtain ⟨z, hz⟩ : ∃ z, w.heap.size = z := ⟨_, rfl⟩
  obtain ⟨w1, hw1⟩ : ∃ w1, (w.alloc (.cells X 31)).alloc (.cells #[.int .u8 0, .int .u8 0, .int .u8 0, .int .u8 0, .int .u8 0, .int .u8 0, .int .u8 0, .int .u8 0] 28) = w1 := ⟨_, rfl⟩
  have hb1 : Below w.heap.size w w1 := hw1 ▸ (below_new w _).alloc (by simp) _
  have kx : Bk w1 z 31 l := hw1 ▸ (Bk.at_ w _ X hz (by rw [← hX])).alloc _
  have kr : Bk w1 (z + 1) 28 ([] ++ (dl zeroD ++ [])) := hw1 ▸ Bk.at_ _ _ #[.int .u8 0, .int .u8 0, .int .u8 0, .int .u8 0, .int .u8 0, .int .u8 0, .int .u8 0, .int .u8 0] (by simp [hz]) rfl
  have HM : Hid (∀ w' g', Bk w' g' 31 l → BkcM w' g' p h m (.slice A N C)) := fun w' g' h' => by rw [← hl] at h'; exact bkc_mem hp hm h'
  have HW := Lib.hid hw1; have HB1 := Lib.hid hb1; have HZ := Lib.hid hz; have HK1 := Lib.hid kx; have HR1 := Lib.hid kr; have HPO := Lib.hid hp; have HMO := Lib.hid hm; have HXE := Lib.hid hX; have HLE := Lib.hid hl
  have HX1 := Lib.hid (hx.later hb1); have HLN := Lib.hid hx.length
  rw [hl, hX]
  clear hl hX hw1 hb1 kx kr hz hp hm hx
  rw [HLE.out] at HBS HRE
  rw [HXE.out] at HRE
  obtain ⟨L, hL⟩ : ∃ L, xs.map (·.2) = L := ⟨_, rfl⟩
  rw [hL] at HRE h0 ⊢
  obtain ⟨E, hE⟩ : ∃ E, blkE h L = E := ⟨_, rfl⟩
  have HRO := Lib.hid (root0_ok h L)
  have HRT : Hid (root0 h L = if E = 0 then wordI zeroD txtNone else zeroD) := by show _ = _; rw [root0, hE]
  obtain ⟨T, hT⟩ : ∃ T, root0 h L = T := ⟨_, rfl⟩
  rw [hE] at HRE h0 ⊢
  rw [hT] at HRT HRO ⊢
  clear hL hE hT
  go_enter Tryd.func22, Tryd.ntmps22
  go_upto_region 1 with fail
  rw [HW.out, HZ.out]
  go_wp2_with (with_reducible refine wpList_load_bk rfl 31 _ rfl z rfl l 31 HK1.out _ Tryd.underlying31 rfl HBS.out ?_)
  rw [HXE.out]
  refine (HRE.out w1 HX1.out).mono ?_
  rintro e w2 ⟨rfl, hbn⟩
  have HB2 := Lib.hid (below_then HB1.out hbn); have HK2 := Lib.hid (HK1.out.later hbn); have HR2 := Lib.hid (HR1.out.later hbn)
  clear hbn HK1 HR1
  by_cases hE0 : E = 0
  · obtain rfl := h0 hE0
    subst hE0
    have hTT : T = wordI zeroD txtNone := by have := HRT.out; rwa [if_pos rfl] at this
    have c17 := (HM.out _ _ HK2.out).c17
    go_wp2_with ((with_reducible refine wpList_build rfl 28 _ rfl #[] ?_ _ (build_d0 _) ?_); focus (simp [Act.eval, Act.put]; done))
    have hwd := word_anyb w2 zeroD zero_ok ⟨#[110, 111, 110, 101]⟩ (by decide)
    rw [txtNone_is, ← hTT] at hwd
    refine hwd.mono ?_
    rintro e w3 ⟨rfl, hbn⟩
    have HB3 := Lib.hid (below_then HB2.out hbn); have HR3 := Lib.hid (HR2.out.later hbn)
    clear hbn hwd hTT c17
    go_wp2_with (with_reducible refine stop_store 28 _ _ rfl ?_)
    refine StopD.go ?_
    refine wpList_store_part rfl 28 _ _ rfl (z + 1) 0 (.agg (dl T).toArray) (dl T) rfl rfl rfl 28 [] (dl zeroD) [] HR3.out rfl (dg_lens HRO.out) (hdg_size _ HRO.out) (dl_one' _) ?_
    intro wz hp
    have HTz : Hid (Bk wz ((z + 1)) 28 (dl T)) := by show Bk _ _ _ _; have := hp.bk; simpa using this
    have HBz := Lib.hid (below_only HB3.out hp.only HB3.out.size (by have := HZ.out; omega))
    clear hp
    go_wp2_with fail
    refine bodyPost_ret (root_ret HRO.out HTz.out _ rfl rfl) rfl ?_
    exact ⟨rfl, HBz.out⟩
  · have hd1 : (E != 0) = true := by simp [hE0]
    have hTT : T = zeroD := by have := HRT.out; rwa [if_neg hE0] at this
    clear hE0 h0
    subst hTT
    go_wp2_with (first
      | ((with_reducible refine wpList_build rfl 28 _ rfl #[] ?_ _ (build_d0 _) ?_); focus (simp [Act.eval, Act.put]; done))
      | (with_reducible refine stop_store 28 _ _ rfl ?_))
    refine StopD.go ?_
    refine wpList_store_part rfl 28 _ _ rfl (z + 1) 0 (.agg (dl zeroD).toArray) (dl zeroD) rfl rfl rfl 28 [] (dl zeroD) [] HR2.out rfl (dg_lens zero_ok) (hdg_size _ zero_ok) (dl_one' _) ?_
    intro wz hp
    have HTz : Hid (Bk wz ((z + 1)) 28 (dl zeroD)) := by show Bk _ _ _ _; have := hp.bk; simpa using this
    have HBz := Lib.hid (below_only HB2.out hp.only HB2.out.size (by have := HZ.out; omega))
    clear hp
    go_wp2_with fail
    refine bodyPost_ret (root_ret zero_ok HTz.out _ rfl rfl) rfl ?_
    exact ⟨rfl, HBz.out⟩
/-- A block's name out of its root. -/
def nameI (p : List Int) (h : Int) (m : List Int) (N : Nat) (R : List Int) (E : Int) : List Int := if E = 0 then wordI (ofI (headB p h m N ++ numB (numN R))) txtBlock else zeroD
theorem nameI_ok (p : List Int) (h : Int) (m : List Int) (N : Nat) (R : List Int) (E : Int) : DgOk (nameI p h m N R E) := by unfold nameI; split <;> first | exact wordI_ok _ _ | exact zero_ok
set_option maxRecDepth 20000 in
set_option maxHeartbeats 4000000 in
theorem bname_any (w : World) (p : List Int) (h : Int) (m : List Int) (hp : DgOk p) (hm : DgOk m) (A : Option Addr) (N C : Nat) (xs : List (List Value × TxT)) (hx : Txs w A N xs) (R : List Int) (hR : DgOk R)
    (hroot : ∀ w', Txs w' A N xs → Calls Tryd.prog 22 #[.agg (bkC p h m (.slice A N C)).toArray] w' fun e w'' => e = .returned (.tuple #[.agg (dl R).toArray, .int .i64 (blkE h (xs.map (·.2)))]) ∧ Below w'.heap.size w' w'') :
    Calls Tryd.prog 11 #[.agg (bkC p h m (.slice A N C)).toArray] w fun e w' => e = .returned (.tuple #[.agg (dl (nameI p h m N R (blkE h (xs.map (·.2))))).toArray, .int .i64 (blkE h (xs.map (·.2)))]) ∧ Below w.heap.size w w' := by
  have HRE := Lib.hid hroot
  have HBS := Lib.hid (blk_sz (h := h) (s := .slice A N C) hp hm)
  have HHD := Lib.hid (fun (w' : World) (h0 : 0 ≤ h) (h1 : h ≤ 1099511627776) (hN : N ≤ 1000) => head_any w' p h m hp hm A N C h0 h1 hN)
  have HHO := Lib.hid (fun (hh : h ≤ 1099511627776) (hN : N ≤ 1000) => headB_ok (h := h) (N := N) hp hm hh hN)
  have HNO := Lib.hid (nameI_ok p h m N R (blkE h (xs.map (·.2))))
  obtain ⟨l, hl⟩ : ∃ x, bkC p h m (.slice A N C) = x := ⟨_, rfl⟩
  obtain ⟨X, hX⟩ : ∃ X, l.toArray = X := ⟨_, rfl⟩
  obtain ⟨z, hz⟩ : ∃ z, w.heap.size = z := ⟨_, rfl⟩
  obtain ⟨w1, hw1⟩ : ∃ w1, (w.alloc (.cells X 31)).alloc (.cells #[.int .u8 0, .int .u8 0, .int .u8 0, .int .u8 0, .int .u8 0, .int .u8 0, .int .u8 0, .int .u8 0] 28) = w1 := ⟨_, rfl⟩
  have hb1 : Below w.heap.size w w1 := hw1 ▸ (below_new w _).alloc (by simp) _
  have kx : Bk w1 z 31 l := hw1 ▸ (Bk.at_ w _ X hz (by rw [← hX])).alloc _
  have kr : Bk w1 (z + 1) 28 ([] ++ (dl zeroD ++ [])) := hw1 ▸ Bk.at_ _ _ #[.int .u8 0, .int .u8 0, .int .u8 0, .int .u8 0, .int .u8 0, .int .u8 0, .int .u8 0, .int .u8 0] (by simp [hz]) rfl
  have HM : Hid (∀ w' g', Bk w' g' 31 l → BkcM w' g' p h m (.slice A N C)) := fun w' g' h' => by rw [← hl] at h'; exact bkc_mem hp hm h'
  have HW := Lib.hid hw1; have HB1 := Lib.hid hb1; have HZ := Lib.hid hz; have HK1 := Lib.hid kx; have HR1 := Lib.hid kr; have HPO := Lib.hid hp; have HMO := Lib.hid hm; have HXE := Lib.hid hX; have HLE := Lib.hid hl
  have HX1 := Lib.hid (hx.later hb1); have HLN := Lib.hid hx.length
  rw [hl, hX]
  clear hl hX hw1 hb1 kx kr hz hp hm hx
  rw [HLE.out] at HBS HRE HHD
  rw [HXE.out] at HRE HHD
  obtain ⟨L, hL⟩ : ∃ L, xs.map (·.2) = L := ⟨_, rfl⟩
  rw [hL] at HRE HNO ⊢
  obtain ⟨E, hE⟩ : ∃ E, blkE h L = E := ⟨_, rfl⟩
  rw [hE] at HRE HNO ⊢
  have HE := Lib.hid hE; have HL := Lib.hid hL; have HRO := Lib.hid hR
  have HT0 : Hid (nameI p h m N R E = if E = 0 then wordI (ofI (headB p h m N ++ numB (numN R))) txtBlock else zeroD) := by show _ = _; rfl
  obtain ⟨T, hT⟩ : ∃ T, nameI p h m N R E = T := ⟨_, rfl⟩
  rw [hT] at HNO HT0 ⊢
  clear hL hE hT hroot hR
  go_enter Tryd.func11, Tryd.ntmps11
  go_upto_region 1 with fail
  rw [HW.out, HZ.out]
  go_wp2_with (with_reducible refine wpList_load_bk rfl 31 _ rfl z rfl l 31 HK1.out _ Tryd.underlying31 rfl HBS.out ?_)
  rw [HXE.out]
  refine (HRE.out w1 HX1.out).mono ?_
  rintro e w2 ⟨rfl, hbn⟩
  have HB2 := Lib.hid (below_then HB1.out hbn); have HK2 := Lib.hid (HK1.out.later hbn); have HR2 := Lib.hid (HR1.out.later hbn)
  clear hbn HK1 HR1
  go_wp2_with (with_reducible refine stop_store 28 _ _ rfl ?_)
  have hz2 := HR2.out.lt
  refine StopD.go ?_
  obtain ⟨g4, hg4⟩ : ∃ g, w2.heap.size = g := ⟨_, rfl⟩
  have hbn : Below w2.heap.size w2 (w2.alloc (.cells #[.int .u8 0, .int .u8 0, .int .u8 0, .int .u8 0, .int .u8 0, .int .u8 0, .int .u8 0, .int .u8 0] 28)) := below_new w2 _
  have kt : Bk (w2.alloc (.cells #[.int .u8 0, .int .u8 0, .int .u8 0, .int .u8 0, .int .u8 0, .int .u8 0, .int .u8 0, .int .u8 0] 28)) g4 28 ([] ++ (dl zeroD ++ [])) := by rw [← hg4]; exact Bk.new' w2 _ #[.int .u8 0, .int .u8 0, .int .u8 0, .int .u8 0, .int .u8 0, .int .u8 0, .int .u8 0, .int .u8 0] rfl
  rw [hg4]
  refine wpList_store_part rfl 28 _ _ rfl g4 0 (.agg (dl R).toArray) (dl R) rfl rfl rfl 28 [] (dl zeroD) [] kt rfl (by rw [dl_len, dl_len, HRO.out.len]; rfl) (hdg_size _ HRO.out) (dl_one' _) ?_
  intro w4 hp
  have hbn : Below w2.heap.size w2 w4 := hbn.grown hp.only hbn.size (fun q hq => by injection hq with hq; omega)
  have HT4 : Hid (Bk w4 g4 28 (dl R)) := by show Bk _ _ _ _; have := hp.bk; simpa using this
  clear hp kt
  have HGR : Hid (z + 1 < g4) := by show z + 1 < g4; omega
  clear hg4 hz2
  have HB4 := Lib.hid (below_then HB2.out hbn); have HK4 := Lib.hid (HK2.out.later hbn); have HR4 := Lib.hid (HR2.out.later hbn)
  clear hbn HK2 HR2
  by_cases hE0 : E = 0
  · subst hE0
    have hz := blkE_zero HE.out
    have hN : N ≤ 1000 := by have := hz.2.1; rw [← HL.out, List.length_map, HLN.out] at this; omega
    have hh0 : 0 ≤ h := by have := hz.1; omega
    have hh1 : h ≤ 1099511627776 := by have := hz.1; omega
    have HHC := Lib.hid (fun w' => HHD.out w' hh0 hh1 hN)
    have HHB := Lib.hid (HHO.out hh1 hN)
    have hTT : T = wordI (ofI (headB p h m N ++ numB (numN R))) txtBlock := by have := HT0.out; rwa [if_pos rfl] at this
    have HBL := Lib.hid (headB_len p h m N)
    obtain ⟨H, hH⟩ : ∃ H, headB p h m N = H := ⟨_, rfl⟩
    rw [hH] at HHC HHB hTT HBL
    have HTT := Lib.hid hTT
    clear hz hh0 hh1 hTT hH HHD HHO HT0
    go_wp2_with fail
    refine wp_region_held_drew (S := fun w' => Bk w' z 31 l ∧ Bk w' g4 28 (dl R)) (by kernel_rfl) ⟨Bk.drew HK4.out, Bk.drew HT4.out⟩ (fun hHeld => ?_)
    have hbd : Below w4.heap.size w4 w4.drew := below_draws w4 w4.heap.size 1
    obtain ⟨wa, hwa⟩ : ∃ wa, w4.drew = wa := ⟨_, rfl⟩
    rw [hwa] at hbd hHeld ⊢
    have HKa := Lib.hid (HK4.out.later hbd); have HRa := Lib.hid (HR4.out.later hbd); have HBa := Lib.hid (below_then HB4.out hbd); have HTa := Lib.hid (HT4.out.later hbd)
    clear hwa hbd HK4 HR4 HB4 HT4
    refine wpAnyH_take (i := 0) (v := .agg (List.toArray (l))) rfl (by kernel_rfl) (by kernel_rfl) (by kernel_rfl) (fun _ _ _ h => h) (yieldsIf_load_mid (by rfl) _ _ rfl _ _ rfl (l) _ (fun w hSw => (Bk.range (pre := []) (post := []) (by simpa using hSw.1) rfl)) Tryd.underlying31 rfl (HBS.out)) (by assumption) ?_
    try simp only [Act.put, List.setIfInBounds_toArray, List.set_cons_zero, List.set_cons_succ, List.getElem_toArray, List.getElem_cons_zero, List.getElem_cons_succ]
    refine wpAnyH_take (i := 2) (v := .agg (List.toArray (dl R))) rfl (by kernel_rfl) (by kernel_rfl) (by kernel_rfl) (fun _ _ _ h => h) (yieldsIf_load_mid (by rfl) _ _ rfl _ _ rfl (dl R) _ (fun w hSw => (Bk.range (pre := []) (post := []) (by simpa using hSw.2) rfl)) Tryd.underlying28 rfl (hdg_size _ HRO.out)) (by assumption) ?_
    try simp only [Act.put, List.setIfInBounds_toArray, List.set_cons_zero, List.set_cons_succ, List.getElem_toArray, List.getElem_cons_zero, List.getElem_cons_succ]
    refine wpAnyH_ready (rs := [1]) (by kernel_rfl) (by simp) ?_
    refine AllReadyH.cons rfl (fun K hK => ?_) AllReadyH.nil
    go_simp
    (rw [HXE.out]; refine (HHC.out wa).mono ?_; rintro e wb ⟨v1, rfl, hown⟩; obtain ⟨A1, c1, rfl⟩ := hown.form; have HO1 := Lib.hid (Sl.of_own hown.1); have HKb := Lib.hid (HKa.out.later hown.2); have HTb := Lib.hid (HTa.out.later hown.2); have HRb := Lib.hid (HRa.out.later hown.2); have HBb := Lib.hid (below_then HBa.out hown.2); clear hown)
    refine hK.out _ _ (⟨HKb.out, HTb.out⟩) (fun hHeld => ?_)
    clear hK K
    try simp only [Act.put, List.setIfInBounds_toArray, List.set_cons_zero, List.set_cons_succ, List.getElem_toArray, List.getElem_cons_zero, List.getElem_cons_succ]
    clear HKa HTa HRa HBa
    refine wpAnyH_ready (rs := [3]) (by kernel_rfl) (by simp) ?_
    refine AllReadyH.cons rfl (fun K hK => ?_) AllReadyH.nil
    go_simp
    (refine (num_anyb HRO.out wb).mono ?_; rintro e wc ⟨rfl, hbn⟩; have HO2 := Lib.hid (HO1.out.later hbn); have HKc := Lib.hid (HKb.out.later hbn); have HTc := Lib.hid (HTb.out.later hbn); have HRc := Lib.hid (HRb.out.later hbn); have HBc := Lib.hid (below_then HBb.out hbn); clear hbn)
    refine hK.out _ _ (⟨HKc.out, HTc.out⟩) (fun hHeld => ?_)
    clear hK K
    try simp only [Act.put, List.setIfInBounds_toArray, List.set_cons_zero, List.set_cons_succ, List.getElem_toArray, List.getElem_cons_zero, List.getElem_cons_succ]
    clear HKb HTb HRb HBb HO1
    obtain ⟨t5, ht5⟩ : ∃ t, H ++ numB (numN R) = t := ⟨_, rfl⟩
    have HT5L : Hid (t5.length ≤ 50) := by show _ ≤ 50; rw [← ht5, List.length_append]; have := numB_le (numN R); have := HBL.out; omega
    have HT5B : Hid (ByOk t5) := by show ByOk _; rw [← ht5]; exact byOk_app HHB.out (numB_ok (numN_lt HRO.out))
    have hpn := putNum_any wc A1 H.length c1 H HO2.out (numN R) (numN_lt HRO.out) (by have := HBL.out; omega)
    have htt := HTT.out
    rw [ht5] at hpn htt
    have HPN := Lib.hid hpn; have HTT := Lib.hid htt
    clear hpn htt ht5
    refine wpAnyH_ready (rs := [4]) (by kernel_rfl) (by simp) ?_
    refine AllReadyH.cons rfl (fun K hK => ?_) AllReadyH.nil
    go_simp
    (refine HPN.out.mono ?_; rintro e wd ⟨v3, rfl, hown⟩; obtain ⟨A3, c3, rfl, hsl, hcc, had⟩ := own_facts hown; have HSL := Lib.hid hsl; have HCC := Lib.hid hcc; have HAD := Lib.hid had; clear hsl hcc had; have HKd := Lib.hid (HKc.out.later hown.2); have HTd := Lib.hid (HTc.out.later hown.2); have HRd := Lib.hid (HRc.out.later hown.2); have HBd := Lib.hid (below_then HBc.out hown.2); clear hown)
    refine hK.out _ _ (⟨HKd.out, HTd.out⟩) (fun hHeld => ?_)
    clear hK K
    try simp only [Act.put, List.setIfInBounds_toArray, List.set_cons_zero, List.set_cons_succ, List.getElem_toArray, List.getElem_cons_zero, List.getElem_cons_succ]
    clear HKc HTc HRc HBc HO2 HPN
    refine wpAnyH_ready (rs := [5]) (by kernel_rfl) (by simp) ?_
    refine AllReadyH.cons rfl (fun K hK => ?_) AllReadyH.nil
    go_simp
    (refine (hof_any wd A3 t5.length c3 t5 HSL.out HT5B.out HCC.out HAD.out).mono ?_; rintro e we ⟨rfl, hbn⟩; have HKe := Lib.hid (HKd.out.later hbn); have HTe := Lib.hid (HTd.out.later hbn); have HRe := Lib.hid (HRd.out.later hbn); have HBe := Lib.hid (below_then HBd.out hbn); clear hbn)
    refine hK.out _ _ (⟨HKe.out, HTe.out⟩) (fun hHeld => ?_)
    clear hK K
    try simp only [Act.put, List.setIfInBounds_toArray, List.set_cons_zero, List.set_cons_succ, List.getElem_toArray, List.getElem_cons_zero, List.getElem_cons_succ]
    clear HKd HTd HRd HBd HSL
    have hwd := word_anyb we (ofI t5) (ofI_ok t5) ⟨#[98, 108, 111, 99, 107]⟩ (by decide)
    rw [txtBlock_is, ← HTT.out] at hwd
    have HWD := Lib.hid hwd
    clear hwd
    refine wpAnyH_ready (rs := [6]) (by kernel_rfl) (by simp) ?_
    refine AllReadyH.cons rfl (fun K hK => ?_) AllReadyH.nil
    go_simp
    (refine HWD.out.mono ?_; rintro e wf ⟨rfl, hbn⟩; have HKf := Lib.hid (HKe.out.later hbn); have HTf := Lib.hid (HTe.out.later hbn); have HRf := Lib.hid (HRe.out.later hbn); have HBf := Lib.hid (below_then HBe.out hbn); clear hbn)
    refine hK.out _ _ (⟨HKf.out, HTf.out⟩) (fun hHeld => ?_)
    clear hK K
    try simp only [Act.put, List.setIfInBounds_toArray, List.set_cons_zero, List.set_cons_succ, List.getElem_toArray, List.getElem_cons_zero, List.getElem_cons_succ]
    clear HKe HTe HRe HBe HWD
    refine wpAnyH_ready (rs := [7]) (by kernel_rfl) (by simp) ?_
    refine AllReadyH.cons rfl (fun K hK => ?_) AllReadyH.nil
    rw [if_pos (by rfl)]
    refine wp_store_part _ _ _ rfl (z + 1) 0 _ (dl T) rfl rfl rfl _ ([]) (dl zeroD) ([]) (by simpa using HRf.out) rfl (dg_lens HNO.out) (hdg_size _ HNO.out) (dl_one' _) ?_
    intro wg hp
    refine hK.out _ _ ⟨HKf.out.grown hp.only (by intro h; injection h with h; omega), HTf.out.grown hp.only (by intro h; injection h with h; have := HGR.out; omega)⟩ (fun hHeld => ?_)
    clear hK K
    try simp only [Act.put, List.setIfInBounds_toArray, List.set_cons_zero, List.set_cons_succ, List.getElem_toArray, List.getElem_cons_zero, List.getElem_cons_succ]
    clear HKf HTf HBL HTT
    refine wpAnyH_take (i := 8) (v := ?_) rfl (by kernel_rfl) (by kernel_rfl) (by kernel_rfl) (fun _ _ _ h => h) (Or.inl ⟨by rfl, ?_⟩) (by assumption) ?_
    rotate_left
    · intro w hSw
      (try dsimp only at hSw)
      go_simp
      try with_reducible rfl
    try simp only [Act.put, List.setIfInBounds_toArray, List.set_cons_zero, List.set_cons_succ, List.getElem_toArray, List.getElem_cons_zero, List.getElem_cons_succ]
    refine wpAnyH_done rfl ?_ _
    have HTz : Hid (Bk wg (z + 1) 28 (dl T)) := by show Bk _ _ _ _; have := hp.bk; simpa using this
    have HBz := Lib.hid (below_only HBf.out hp.only HBf.out.size (by have := HZ.out; omega))
    clear hp
    go_wp2_with fail
    refine bodyPost_ret (name_ret HNO.out HTz.out _ rfl rfl) rfl ?_
    exact ⟨rfl, HBz.out⟩
  · have hd1 : (E != 0) = true := by simp [hE0]
    have hTT : T = zeroD := by have := HT0.out; rwa [if_neg hE0] at this
    clear hE0
    subst hTT
    go_wp2_with (first
      | ((with_reducible refine wpList_build rfl 28 _ rfl #[] ?_ _ (build_d0 _) ?_); focus (simp [Act.eval, Act.put]; done))
      | (with_reducible refine stop_store 28 _ _ rfl ?_))
    refine StopD.go ?_
    refine wpList_store_part rfl 28 _ _ rfl (z + 1) 0 (.agg (dl zeroD).toArray) (dl zeroD) rfl rfl rfl 28 [] (dl zeroD) [] HR4.out rfl (dg_lens zero_ok) (hdg_size _ zero_ok) (dl_one' _) ?_
    intro wz hp
    have HTz : Hid (Bk wz ((z + 1)) 28 (dl zeroD)) := by show Bk _ _ _ _; have := hp.bk; simpa using this
    have HBz := Lib.hid (below_only HB4.out hp.only HB4.out.size (by have := HZ.out; omega))
    clear hp
    go_wp2_with fail
    refine bodyPost_ret (name_ret zero_ok HTz.out _ rfl rfl) rfl ?_
    exact ⟨rfl, HBz.out⟩
end Go.Proofs.YtbpmomedhdmloaaDoor
