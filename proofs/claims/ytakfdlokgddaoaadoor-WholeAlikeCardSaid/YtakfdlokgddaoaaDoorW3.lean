/- A secret's chains, their ends together, a key. -/
import Derived.Test.YtakfdlokgddaoaaDoorW2
import Derived.Test.YtakfdlokgddaoaaDoorTE
namespace Go.Proofs.YtakfdlokgddaoaaDoor
set_option linter.unusedSimpArgs false
set_option linter.unusedVariables false
open Go.RowKit

/-- A row of digests that is being filled. -/
def fillD (xs : List (List Int)) (k : Nat) : List (List Int) := xs.take k ++ List.replicate (xs.length - k) zeroD
theorem fillD_zero (xs : List (List Int)) : fillD xs 0 = List.replicate xs.length zeroD := by simp [fillD]
theorem fillD_all (xs : List (List Int)) : fillD xs xs.length = xs := by simp [fillD]
theorem cellsD_app (a b : List (List Int)) : cellsD (a ++ b) = cellsD a ++ cellsD b := by simp [cellsD, List.flatMap_append]
theorem cellsD_one (d : List Int) (b : List (List Int)) : cellsD (d :: b) = dl d ++ cellsD b := by simp [cellsD, dl]
theorem fillD_old {xs : List (List Int)} {k : Nat} (hk : k < xs.length) : cellsD (fillD xs k) = cellsD (xs.take k) ++ (dl zeroD ++ cellsD (List.replicate (xs.length - (k + 1)) zeroD)) := by
  rw [fillD, cellsD_app, show xs.length - k = (xs.length - (k + 1)) + 1 by omega, List.replicate_succ, cellsD_one]
theorem fillD_new {xs : List (List Int)} {k : Nat} {d : List Int} (hd : xs[k]? = some d) : cellsD (xs.take k) ++ (dl d ++ cellsD (List.replicate (xs.length - (k + 1)) zeroD)) = cellsD (fillD xs (k + 1)) := by
  rw [fillD, cellsD_app, take_snoc hd, cellsD_app, cellsD_one, List.append_assoc]
  simp [cellsD]
theorem take_lenD {xs : List (List Int)} (ho : DsOk xs) {k : Nat} (hk : k ≤ xs.length) : (cellsD (xs.take k)).length = k * 8 := by
  rw [cellsD_len (fun d hd => ho d (List.mem_of_mem_take hd)), List.length_take]; omega
theorem made_bk (w : World) (n : Nat) : Bk (w.alloc (.cells (madeCells zeroC (n * 8)) 23)) w.heap.size 23 (cellsD (List.replicate n zeroD)) := Bk.at_ w _ (madeCells zeroC (n * 8)) rfl (made8 n)
set_option maxRecDepth 20000 in
set_option maxHeartbeats 2000000 in
theorem start_any (w : World) (a : List Int) (ha : DgOk a) (c : Nat) (hc : c ≤ 1000) :
    Calls Tryd.prog 48 #[.agg (dl a).toArray, .int .i64 c] w fun e w' => e = .returned (.agg (dl (startI a c)).toArray) ∧ Below w.heap.size w w' := by
  obtain ⟨X, hX⟩ : ∃ X, (dl a).toArray = X := ⟨_, rfl⟩
  obtain ⟨z, hz⟩ : ∃ z, w.heap.size = z := ⟨_, rfl⟩
  obtain ⟨w1, hw1⟩ : ∃ w1, (w.alloc (.cells X 23)).alloc (.cells #[.int .u8 0, .int .u8 0, .int .u8 0, .int .u8 0, .int .u8 0, .int .u8 0, .int .u8 0, .int .u8 0] 23) = w1 := ⟨_, rfl⟩
  have hb1 : Below w.heap.size w w1 := hw1 ▸ (below_new w _).alloc (by simp) _
  have kx : Bk w1 z 23 (dl a) := hw1 ▸ (Bk.at_ w _ X hz (by rw [← hX])).alloc _
  have kr : Bk w1 (z + 1) 23 ([] ++ (dl zeroD ++ [])) := hw1 ▸ Bk.at_ _ _ #[.int .u8 0, .int .u8 0, .int .u8 0, .int .u8 0, .int .u8 0, .int .u8 0, .int .u8 0, .int .u8 0] (by simp [hz]) rfl
  have HW := Lib.hid hw1; have HB1 := Lib.hid hb1; have HZ := Lib.hid hz; have HK1 := Lib.hid kx; have HR1 := Lib.hid kr; have HAO := Lib.hid ha
  have hcw : IntKind.u64.wrap (c : Int) = c := by rw [IntKind.wrap_u64]; omega
  have HTO := Lib.hid (startI_ok a c)
  have HST : Hid (twoI a (fromG c) = startI a c) := rfl
  have HFO := Lib.hid (fromG_ok (c : Int))
  obtain ⟨T, hT⟩ : ∃ T, startI a c = T := ⟨_, rfl⟩
  obtain ⟨G, hG⟩ : ∃ T, fromG (c : Int) = T := ⟨_, rfl⟩
  have hfr := fun w' => from_anyw (c : Int) w'
  rw [hG] at HFO HST hfr
  rw [hT] at HTO HST ⊢
  have HFR := Lib.hid hfr
  rw [hX]
  clear hX hw1 hb1 kx kr hz ha hT hG hfr
  go_enter Tryd.func48, Tryd.ntmps48
  go_upto_region 1 with fail
  rw [HW.out, HZ.out]
  refine wp_region_held_drew (S := fun w' => Bk w' z 23 (dl a)) (by kernel_rfl) (Bk.drew HK1.out) (fun hHeld => ?_)
  have hbd : Below w1.heap.size w1 w1.drew := below_draws w1 w1.heap.size 1
  obtain ⟨wa, hwa⟩ : ∃ wa, w1.drew = wa := ⟨_, rfl⟩
  rw [hwa] at hbd hHeld ⊢
  have HKa := Lib.hid (HK1.out.later hbd); have HRa := Lib.hid (HR1.out.later hbd); have HBa := Lib.hid (below_then HB1.out hbd)
  clear hwa hbd HK1 HR1 HB1
  refine wpAnyH_take (i := 0) (v := .agg (List.toArray (dl a))) rfl (by kernel_rfl) (by kernel_rfl) (by kernel_rfl) (fun _ _ _ h => h) (yieldsIf_load_mid (by rfl) _ _ rfl _ _ rfl (dl a) _ (fun w hSw => (Bk.range (pre := []) (post := []) (by simpa using hSw) rfl)) Tryd.underlying23 rfl (hdg_size _ HAO.out)) (by assumption) ?_
  try simp only [Act.put, List.setIfInBounds_toArray, List.set_cons_zero, List.set_cons_succ, List.getElem_toArray, List.getElem_cons_zero, List.getElem_cons_succ]
  refine wpAnyH_take (i := 1) (v := ?_) rfl (by kernel_rfl) (by kernel_rfl) (by kernel_rfl) (fun _ _ _ h => h) (Or.inl ⟨by rfl, ?_⟩) (by assumption) ?_
  rotate_left
  · intro w hSw
    (try dsimp only at hSw)
    go_simp
    try with_reducible rfl
  try simp only [Act.put, List.setIfInBounds_toArray, List.set_cons_zero, List.set_cons_succ, List.getElem_toArray, List.getElem_cons_zero, List.getElem_cons_succ]
  refine wpAnyH_take (i := 2) (v := ?_) rfl (by kernel_rfl) (by kernel_rfl) (by kernel_rfl) (fun _ _ _ h => h) (Or.inl ⟨by rfl, ?_⟩) (by assumption) ?_
  rotate_left
  · intro w hSw
    (try dsimp only at hSw)
    go_simp
    try with_reducible rfl
  try simp only [Act.put, List.setIfInBounds_toArray, List.set_cons_zero, List.set_cons_succ, List.getElem_toArray, List.getElem_cons_zero, List.getElem_cons_succ]
  refine wpAnyH_ready (rs := [3]) (by kernel_rfl) (by simp) ?_
  refine AllReadyH.cons rfl (fun K hK => ?_) AllReadyH.nil
  go_simp
  (refine (HFR.out wa).mono ?_; rintro e wb ⟨rfl, hbn⟩; have HKb := Lib.hid (HKa.out.later hbn); have HRb := Lib.hid (HRa.out.later hbn); have HBb := Lib.hid (below_then HBa.out hbn); clear hbn HKa HRa HBa)
  refine hK.out _ _ (HKb.out) (fun hHeld => ?_)
  clear hK K
  try simp only [Act.put, List.setIfInBounds_toArray, List.set_cons_zero, List.set_cons_succ, List.getElem_toArray, List.getElem_cons_zero, List.getElem_cons_succ]
  refine wpAnyH_ready (rs := [4]) (by kernel_rfl) (by simp) ?_
  refine AllReadyH.cons rfl (fun K hK => ?_) AllReadyH.nil
  go_simp
  (refine (two_anyw wb a G HAO.out HFO.out).mono ?_; rintro e wc ⟨rfl, hbn⟩; rw [HST.out]; have HKc := Lib.hid (HKb.out.later hbn); have HRc := Lib.hid (HRb.out.later hbn); have HBc := Lib.hid (below_then HBb.out hbn); clear hbn HKb HRb HBb)
  refine hK.out _ _ (HKc.out) (fun hHeld => ?_)
  clear hK K
  try simp only [Act.put, List.setIfInBounds_toArray, List.set_cons_zero, List.set_cons_succ, List.getElem_toArray, List.getElem_cons_zero, List.getElem_cons_succ]
  refine wpAnyH_ready (rs := [5]) (by kernel_rfl) (by simp) ?_
  refine AllReadyH.cons rfl (fun K hK => ?_) AllReadyH.nil
  rw [if_pos (by rfl)]
  refine wp_store_part _ _ _ rfl (z + 1) 0 _ (dl T) rfl rfl rfl _ ([]) (dl zeroD) ([]) HRc.out rfl (dg_lensw HTO.out) (hdg_size _ HTO.out) (dl_one' _) ?_
  intro wd hp
  refine hK.out _ _ (HKc.out.grown hp.only (by intro h; injection h with h; omega)) (fun hHeld => ?_)
  clear hK K
  try simp only [Act.put, List.setIfInBounds_toArray, List.set_cons_zero, List.set_cons_succ, List.getElem_toArray, List.getElem_cons_zero, List.getElem_cons_succ]
  refine wpAnyH_done rfl ?_ _
  have HTz : Hid (Bk wd (z + 1) 23 (dl T)) := by show Bk _ _ _ _; have := hp.bk; simpa using this
  have HBz := Lib.hid (below_only HBc.out hp.only HBc.out.size (by have := HZ.out; omega))
  clear hp
  go_wp2_with fail
  refine bodyPost_ret (results_cell_bk rfl _ _ (z + 1) 23 (dl T) _ rfl HTz.out Tryd.underlying23 rfl (hdg_size _ HTO.out)) rfl ?_
  exact ⟨rfl, HBz.out⟩
set_option maxRecDepth 20000 in
set_option maxHeartbeats 2000000 in
/-- The ends of all chains together, whatever gives them. -/
theorem key_any (i : Nat) (cap : Array Value) (w : World) (hcf : ∀ (c : Int) w, (callFunc i (#[.int .i64 c] ++ cap)).run Tryd.prog w = .ok (.enter i (#[.int .i64 c] ++ cap)) w) (F : Nat → List Int) (hF : ∀ c, DgOk (F c))
    (hC : ∀ (c : Nat) w', c < 18 → Below w.heap.size w w' → Calls Tryd.prog i (#[.int .i64 c] ++ cap) w' (fun e w'' => e = .returned (.agg (dl (F c)).toArray) ∧ Below w'.heap.size w' w'')) :
    Calls Tryd.prog 45 #[.func (.func i) #[] cap] w fun e w' => e = .returned (.agg (dl (manyI (chainsI.map F))).toArray) ∧ Below w.heap.size w w' := by
  obtain ⟨z, hz⟩ : ∃ z, w.heap.size = z := ⟨_, rfl⟩
  obtain ⟨w1, hw1⟩ : ∃ w1, w.alloc (.cells #[.int .u8 0, .int .u8 0, .int .u8 0, .int .u8 0, .int .u8 0, .int .u8 0, .int .u8 0, .int .u8 0] 23) = w1 := ⟨_, rfl⟩
  have hb1 : Below w.heap.size w w1 := hw1 ▸ below_new w _
  have kr : Bk w1 z 23 ([] ++ (dl zeroD ++ [])) := hw1 ▸ Bk.at_ w _ #[.int .u8 0, .int .u8 0, .int .u8 0, .int .u8 0, .int .u8 0, .int .u8 0, .int .u8 0, .int .u8 0] hz rfl
  have HW := Lib.hid hw1; have HB1 := Lib.hid hb1; have HZ := Lib.hid hz; have HR1 := Lib.hid kr; have HCC := Lib.hid hC; have HCF := Lib.hid hcf; have HFO := Lib.hid hF
  obtain ⟨xs, hxs⟩ : ∃ xs, chainsI.map F = xs := ⟨_, rfl⟩
  have HXO : Hid (DsOk xs) := by show DsOk xs; rw [← hxs]; intro d hd; obtain ⟨c, _, rfl⟩ := List.mem_map.1 hd; exact hF c
  have HXL : Hid (xs.length = 18) := by show _ = _; rw [← hxs]; simp [chainsI]
  have HXA : Hid (∀ c, c < 18 → xs[c]? = some (F c)) := fun c hc => by rw [← hxs, List.getElem?_map]; simp [chainsI, hc]
  rw [hxs]
  have hmk : ∀ W, (Instr.makeSlice 32 (.int .i64 18) (.int .i64 18)).run Tryd.prog W = .ok (.slice (some ⟨W.heap.size, 0, none⟩) 18 18) (W.alloc (.cells (madeCells zeroC (18 * 8)) 23)) := fun W => make_dg 18 (by omega) W
  obtain ⟨ge, hge⟩ : ∃ g, w1.heap.size = g := ⟨_, rfl⟩
  obtain ⟨w2, hw2⟩ : ∃ x, w1.alloc (.cells (madeCells zeroC (18 * 8)) 23) = x := ⟨_, rfl⟩
  have hE2 : Bk w2 ge 23 (cellsD (fillD xs 0)) := by rw [← hw2, ← hge, fillD_zero, HXL.out]; exact made_bk w1 18
  have hbn : Below w1.heap.size w1 w2 := hw2 ▸ below_new w1 _
  have HE2 := Lib.hid hE2; have HB2 := Lib.hid (below_then HB1.out hbn); have HR2 := Lib.hid (HR1.out.later hbn); have HGE : Hid (z < ge) := by have := HR1.out.lt; show z < ge; omega
  have HGW := Lib.hid hge; have HW2 := Lib.hid hw2
  clear hw1 hb1 kr hz hcf hF hC hxs hge hw2 hE2 hbn
  go_enter Tryd.func45, Tryd.ntmps45
  go_upto_region 1 with fail
  rw [HW.out, HZ.out]
  go_upto_region 2 with fail
  rw [HW2.out, HGW.out]
  clear hmk
  go_wp2_with fail
  go_loopw [4, 8] (fun _ kv wr => ∃ k : Nat, k ≤ 18 ∧ kv = .int .i64 k ∧ Hid (Bk wr ge 23 (cellsD (fillD xs k))) ∧ Hid (Bk wr z 23 ([] ++ (dl zeroD ++ []))) ∧ Hid (Below w.heap.size w wr)) (fun _ kv _ => 18 - (intOf kv).toNat)
  case atStart => exact ⟨0, Nat.zero_le _, rfl, HE2, HR2, HB2⟩
  case round =>
    obtain ⟨k, hk, rfl, HE, HR, HB⟩ := hrel
    by_cases hlt : k < 18
    · have hki : (k : Int) < 18 := by omega
      have hk0 : (0 : Int) ≤ k := by omega
      have hcf := HCF.out
      have HC' := Lib.hid (HCC.out k wr hlt HB.out)
      have HDO := Lib.hid (HFO.out k)
      have HXK := Lib.hid (HXA.out k hlt)
      obtain ⟨d, hd⟩ : ∃ d, F k = d := ⟨_, rfl⟩
      rw [hd] at HC' HDO HXK
      clear hd
      go_wp2_with fail
      clear hcf
      refine HC'.out.mono ?_
      rintro e w5 ⟨rfl, hbn⟩
      have HE5 := Lib.hid (HE.out.later hbn); have HR5 := Lib.hid (HR.out.later hbn); have HB5 := Lib.hid (below_then HB.out hbn)
      clear hbn HC' HE HR HB
      go_wp2_with (with_reducible refine stop_store 23 _ _ rfl ?_)
      refine StopD.go ?_
      refine wpList_store_part rfl 23 _ _ rfl ge (k * 8) (.agg (dl d).toArray) (dl d) rfl rfl rfl 23 (cellsD (xs.take k)) (dl zeroD) (cellsD (List.replicate (xs.length - (k + 1)) zeroD)) (by rw [← fillD_old (by rw [HXL.out]; exact hlt)]; exact HE5.out) (take_lenD HXO.out (by rw [HXL.out]; omega)) (dg_lensw HDO.out) (hdg_size _ HDO.out) (dl_one' _) ?_
      intro w6 hp
      have HE6 : Hid (Bk w6 ge 23 (cellsD (fillD xs (k + 1)))) := by show Bk _ _ _ _; rw [← fillD_new HXK.out]; exact hp.bk
      have HR6 := Lib.hid (HR5.out.grown hp.only (by intro e; injection e with e; have := HGE.out; omega)); have HB6 := Lib.hid (below_only HB5.out hp.only HB5.out.size (by have := HGE.out; have := HZ.out; omega))
      clear hp HE5 HR5 HB5
      go_wp2_with fail
      go_roundw
      case rel => exact ⟨k + 1, hlt, by go_num, HE6, HR6, HB6⟩
      case measure => simp [intOf]; omega
    · have hki : ¬ ((k : Int) < 18) := by omega
      obtain rfl : k = 18 := by omega
      have hE : Bk wr ge 23 (cellsD xs) := by have := HE.out; rwa [show fillD xs 18 = xs by have := fillD_all xs; rwa [HXL.out] at this] at this
      have hsl : Sl wr wr.heap.size 8 (some ⟨ge, 0, none⟩) 18 (cellsD xs) := hE.sl (by rw [cellsD_len HXO.out, HXL.out]) (by omega) (fun j u h => h)
      have HSL := Lib.hid hsl
      have HDO := Lib.hid (manyI_ok xs)
      have hmn := many_any wr (some ⟨ge, 0, none⟩) 18 18 xs HXO.out hsl
      obtain ⟨T, hT⟩ : ∃ T, manyI xs = T := ⟨_, rfl⟩
      have HTE := Lib.hid hT
      rw [hT] at HDO hmn
      have HMN := Lib.hid hmn
      clear hE hsl hT hmn HE
      go_wp2_with fail
      refine HMN.out.mono ?_
      rintro e w5 ⟨rfl, hbn⟩
      have HR5 := Lib.hid (HR.out.later hbn); have HB5 := Lib.hid (below_then HB.out hbn)
      clear hbn HMN HR HB HSL
      go_wp2_with (with_reducible refine stop_store 23 _ _ rfl ?_)
      refine StopD.go ?_
      refine wpList_store_part rfl 23 _ _ rfl z 0 (.agg (dl T).toArray) (dl T) rfl rfl rfl 23 [] (dl zeroD) [] HR5.out rfl (dg_lensw HDO.out) (hdg_size _ HDO.out) (dl_one' _) ?_
      intro wz hp
      have HTz : Hid (Bk wz z 23 (dl T)) := by show Bk _ _ _ _; have := hp.bk; simpa using this
      have HBz := Lib.hid (below_only HB5.out hp.only HB5.out.size (Nat.le_of_eq HZ.out))
      clear hp
      go_wp2_with fail
      refine bodyPost_ret (results_cell_bk rfl _ _ z 23 (dl T) _ rfl HTz.out Tryd.underlying23 rfl (hdg_size _ HDO.out)) rfl ?_
      exact ⟨by rw [HTE.out], HBz.out⟩
end Go.Proofs.YtakfdlokgddaoaaDoor
