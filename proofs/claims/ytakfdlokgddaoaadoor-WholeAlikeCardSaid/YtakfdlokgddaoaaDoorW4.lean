/- The key of a secret. -/
import Derived.Test.YtakfdlokgddaoaaDoorW3
namespace Go.Proofs.YtakfdlokgddaoaaDoor
set_option linter.unusedSimpArgs false
set_option linter.unusedVariables false
open Go.RowKit

set_option maxRecDepth 20000 in
theorem pub1_any (w : World) (z : Nat) (sec : List Int) (hs : DgOk sec) (hk : Bk w z 23 (dl sec)) (c : Nat) (hc : c < 18) :
    Calls Tryd.prog 46 (#[.int .i64 c] ++ #[.pointer (some ⟨z, 0, none⟩)]) w (fun e w' => e = .returned (.agg (dl (chainI 15 (startI sec c))).toArray) ∧ Below w.heap.size w w') := by
  obtain ⟨y, hy⟩ : ∃ z, w.heap.size = z := ⟨_, rfl⟩
  obtain ⟨w1, hw1⟩ : ∃ w1, w.alloc (.cells #[.int .u8 0, .int .u8 0, .int .u8 0, .int .u8 0, .int .u8 0, .int .u8 0, .int .u8 0, .int .u8 0] 23) = w1 := ⟨_, rfl⟩
  have hb1 : Below w.heap.size w w1 := hw1 ▸ below_new w _
  have kr : Bk w1 y 23 ([] ++ (dl zeroD ++ [])) := hw1 ▸ Bk.at_ w _ #[.int .u8 0, .int .u8 0, .int .u8 0, .int .u8 0, .int .u8 0, .int .u8 0, .int .u8 0, .int .u8 0] hy rfl
  have HW := Lib.hid hw1; have HB1 := Lib.hid hb1; have HY := Lib.hid hy; have HR1 := Lib.hid kr; have HK1 := Lib.hid (hk.later hb1); have HSO := Lib.hid hs
  have HST := Lib.hid (fun w' => start_any w' sec hs c (by omega))
  have HSK := Lib.hid (startI_ok sec c)
  obtain ⟨S, hS⟩ : ∃ S, startI sec c = S := ⟨_, rfl⟩
  rw [hS] at HST HSK ⊢
  have HCH := Lib.hid (fun w' => chain_any w' S HSK.out 15 (by omega))
  have HDO := Lib.hid (chainI_ok HSK.out 15)
  obtain ⟨T, hT⟩ : ∃ T, chainI 15 S = T := ⟨_, rfl⟩
  rw [hT] at HCH HDO ⊢
  clear hw1 hb1 kr hy hk hs hS hT
  show Calls _ _ #[.int .i64 c, .pointer (some ⟨z, 0, none⟩)] _ _
  go_enter Tryd.func46, Tryd.ntmps46
  go_upto_region 1 with fail
  rw [HW.out, HY.out]
  go_wp2_with (with_reducible refine wpList_load_bk rfl 23 _ rfl z rfl (dl sec) 23 HK1.out _ Tryd.underlying23 rfl (hdg_size _ HSO.out) ?_)
  refine (HST.out w1).mono ?_
  rintro e w2 ⟨rfl, hbn⟩
  have HR2 := Lib.hid (HR1.out.later hbn); have HB2 := Lib.hid (below_then HB1.out hbn)
  clear hbn HST HR1
  go_wp2_with fail
  refine (HCH.out w2).mono ?_
  rintro e w3 ⟨rfl, hbn⟩
  have HR3 := Lib.hid (HR2.out.later hbn); have HB3 := Lib.hid (below_then HB2.out hbn)
  clear hbn HCH HR2
  go_wp2_with (with_reducible refine stop_store 23 _ _ rfl ?_)
  refine StopD.go ?_
  refine wpList_store_part rfl 23 _ _ rfl y 0 (.agg (dl T).toArray) (dl T) rfl rfl rfl 23 [] (dl zeroD) [] HR3.out rfl (dg_lensw HDO.out) (hdg_size _ HDO.out) (dl_one' _) ?_
  intro wz hp
  have HTz : Hid (Bk wz y 23 (dl T)) := by show Bk _ _ _ _; have := hp.bk; simpa using this
  have HBz := Lib.hid (below_only HB3.out hp.only HB3.out.size (Nat.le_of_eq HY.out))
  clear hp
  go_wp2_with fail
  refine bodyPost_ret (results_cell_bk rfl _ _ y 23 (dl T) _ rfl HTz.out Tryd.underlying23 rfl (hdg_size _ HDO.out)) rfl ?_
  exact ⟨rfl, HBz.out⟩
set_option maxRecDepth 20000 in
theorem public_any (w : World) (sec : List Int) (hs : DgOk sec) :
    Calls Tryd.prog 24 #[.agg (dl sec).toArray] w fun e w' => e = .returned (.agg (dl (pubI sec)).toArray) ∧ Below w.heap.size w w' := by
  obtain ⟨X, hX⟩ : ∃ X, (dl sec).toArray = X := ⟨_, rfl⟩
  obtain ⟨z, hz⟩ : ∃ z, w.heap.size = z := ⟨_, rfl⟩
  obtain ⟨w1, hw1⟩ : ∃ w1, (w.alloc (.cells X 23)).alloc (.cells #[.int .u8 0, .int .u8 0, .int .u8 0, .int .u8 0, .int .u8 0, .int .u8 0, .int .u8 0, .int .u8 0] 23) = w1 := ⟨_, rfl⟩
  have hb1 : Below w.heap.size w w1 := hw1 ▸ (below_new w _).alloc (by simp) _
  have kx : Bk w1 z 23 (dl sec) := hw1 ▸ (Bk.at_ w _ X hz (by rw [← hX])).alloc _
  have kr : Bk w1 (z + 1) 23 ([] ++ (dl zeroD ++ [])) := hw1 ▸ Bk.at_ _ _ #[.int .u8 0, .int .u8 0, .int .u8 0, .int .u8 0, .int .u8 0, .int .u8 0, .int .u8 0, .int .u8 0] (by simp [hz]) rfl
  have HW := Lib.hid hw1; have HB1 := Lib.hid hb1; have HZ := Lib.hid hz; have HR1 := Lib.hid kr
  have hky := key_any 46 #[.pointer (some ⟨z, 0, none⟩)] w1 (fun c w => by kernel_rfl) (fun c => chainI 15 (startI sec c)) (fun c => chainI_ok (startI_ok sec c) 15)
    (fun c w' hc hb => pub1_any w' z sec hs (kx.later hb) c hc)
  have HDO := Lib.hid (pubI_ok sec)
  rw [show manyI (chainsI.map fun c => chainI 15 (startI sec c)) = pubI sec from rfl] at hky
  obtain ⟨T, hT⟩ : ∃ T, pubI sec = T := ⟨_, rfl⟩
  rw [hT] at HDO hky ⊢
  have HKY := Lib.hid hky
  rw [hX]
  clear hX hw1 hb1 kx kr hz hs hT hky
  go_enter Tryd.func24, Tryd.ntmps24
  go_upto_region 1 with fail
  rw [HW.out, HZ.out]
  go_wp2_with fail
  refine HKY.out.mono ?_
  rintro e w3 ⟨rfl, hbn⟩
  have HR3 := Lib.hid (HR1.out.later hbn); have HB3 := Lib.hid (below_then HB1.out hbn)
  clear hbn HKY HR1
  go_wp2_with (with_reducible refine stop_store 23 _ _ rfl ?_)
  refine StopD.go ?_
  refine wpList_store_part rfl 23 _ _ rfl (z + 1) 0 (.agg (dl T).toArray) (dl T) rfl rfl rfl 23 [] (dl zeroD) [] HR3.out rfl (dg_lensw HDO.out) (hdg_size _ HDO.out) (dl_one' _) ?_
  intro wz hp
  have HTz : Hid (Bk wz (z + 1) 23 (dl T)) := by show Bk _ _ _ _; have := hp.bk; simpa using this
  have HBz := Lib.hid (below_only HB3.out hp.only HB3.out.size (by have := HZ.out; omega))
  clear hp
  go_wp2_with fail
  refine bodyPost_ret (results_cell_bk rfl _ _ (z + 1) 23 (dl T) _ rfl HTz.out Tryd.underlying23 rfl (hdg_size _ HDO.out)) rfl ?_
  exact ⟨rfl, HBz.out⟩
end Go.Proofs.YtakfdlokgddaoaaDoor
