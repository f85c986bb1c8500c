/- A key's signature; a ring's cells, and the secret of a key. -/
import Derived.Test.YtakfdlokgddaoaaDoorW7
namespace Go.Proofs.YtakfdlokgddaoaaDoor
set_option linter.unusedSimpArgs false
set_option linter.unusedVariables false
open Go.RowKit

theorem ends_at (sec msg : List Int) {c : Nat} (hc : c < 18) : (ends sec msg)[c]? = some (chainI (reachI msg c) (startI sec c)) := by simp [ends, chainsI, hc]
theorem ends_snoc (sec msg : List Int) {k : Nat} {d : List Int} (hk : k < 18) (hd : chainI (reachI msg k) (startI sec k) = d) : ((ends sec msg).take (k + 1)).flatten.map (Value.int .u8) = ((ends sec msg).take k).flatten.map (Value.int .u8) ++ dl d := by
  rw [take_snoc (ends_at sec msg hk), List.flatten_append, List.map_append, hd]; simp [dl]
theorem wr64 {k : Int} (h0 : 0 ≤ k) (h1 : k < 1000) : wrap64 (k + 1) = k + 1 := IntWalk.wrap64_in _ (by omega)
set_option maxRecDepth 20000 in
set_option maxHeartbeats 2000000 in
theorem osign_any (w : World) (sec msg : List Int) (hs : DgOk sec) (hm : DgOk msg) :
    Calls Tryd.prog 39 #[.agg (dl sec).toArray, .agg (dl msg).toArray] w (RetB w.heap.size (osignI sec msg) w) := by
  have hidx : ∀ (k : Nat), k < 18 → ∀ w, (Instr.index 124 (.agg (rchC msg).toArray) (.int .i64 (k : Int))).run Tryd.prog w = .ok (.int .i64 (reachI msg k : Int)) w := fun k hk w =>
    run_index_row 124 3 18 _ .i64 k _ Tryd.underlying124 (by kernel_rfl) hk (by rw [List.getElem?_toArray]; simp [rchC, hk]) (fun w => by simp [isAgg, run_underlying Tryd.underlying3]) w
  obtain ⟨X, hX⟩ : ∃ X, (dl sec).toArray = X := ⟨_, rfl⟩
  obtain ⟨Y, hY⟩ : ∃ X, (dl msg).toArray = X := ⟨_, rfl⟩
  obtain ⟨z, hz⟩ : ∃ z, w.heap.size = z := ⟨_, rfl⟩
  obtain ⟨w1, hw1⟩ : ∃ w1, (w.alloc (.cells X 23)).alloc (.cells Y 23) = w1 := ⟨_, rfl⟩
  have hb1 : Below w.heap.size w w1 := hw1 ▸ (below_new w _).alloc (by simp) _
  have kx : Bk w1 z 23 (dl sec) := hw1 ▸ (Bk.at_ w _ X hz (by rw [← hX])).alloc _
  have ky : Bk w1 (z + 1) 23 (dl msg) := hw1 ▸ Bk.at_ _ _ Y (by simp [hz]) (by rw [← hY])
  have HW := Lib.hid hw1; have HB1 := Lib.hid hb1; have HZ := Lib.hid hz; have HK1 := Lib.hid kx; have HM1 := Lib.hid ky; have HSO := Lib.hid hs; have HMO := Lib.hid hm; have HXE := Lib.hid hX; have HYE := Lib.hid hY
  obtain ⟨i0, hi, hi0, hi1, hi2⟩ := info_parts Tryd.infoU8
  have HRC := Lib.hid (fun w' => reach_any w' msg hm)
  obtain ⟨R, hR⟩ : ∃ R, rchC msg = R := ⟨_, rfl⟩
  rw [hR] at HRC hidx
  have HIX := Lib.hid hidx
  rw [hX, hY]
  rw [hY] at HRC
  clear hX hY hw1 hb1 kx ky hz hs hm hR hidx
  go_enter Tryd.func39, Tryd.ntmps39
  go_upto_region 1 with fail
  rw [HW.out, HZ.out]
  go_wp2_with (at_make; refine stop_here2 ?_)
  refine StopD.go ?_
  refine wpList_make_own _ rfl _ _ 29 rfl w1.heap.size 5 i0 (.int .u8 0) 1 Tryd.underlying29 hi hi0 hi1 .i64 .i64 _ 144 rfl rfl (by omega) (by rw [hi2]; omega) (by unfold maxLen; omega) (Nat.le_refl _) ?_
  intro w2 hown2 hg2
  have hbn := below_grow hg2
  have HL2 := Lib.hid hown2; have HB2 := Lib.hid hbn; have HM2 := Lib.hid (HM1.out.later hbn)
  clear hown2 hg2 hbn
  go_wp2_with (with_reducible refine wpList_load_bk rfl 23 _ rfl (z + 1) rfl (dl msg) 23 HM2.out _ Tryd.underlying23 rfl (hdg_size _ HMO.out) ?_)
  rw [HYE.out]
  refine (HRC.out w2).mono ?_
  rintro e w3 ⟨rfl, hbn⟩
  have HL3 := Lib.hid (own_keep HL2.out hbn); have HB3 := Lib.hid (below_then HB2.out hbn)
  clear hbn HL2 HB2 HM2 HRC
  go_wp2_with fail
  go_loopw [5, 6, 7, 8, 12] (fun lv _ _ _ kv wr => ∃ k : Nat, k ≤ 18 ∧ kv = .int .i64 k ∧ Hid (wr.ownsRow w1.heap.size 5 1 lv (k * 8) (((ends sec msg).take k).flatten.map (.int .u8))) ∧ Hid (Below w1.heap.size w1 wr)) (fun _ _ _ _ kv _ => 18 - (intOf kv).toNat)
  case atStart => exact ⟨0, Nat.zero_le _, rfl, HL3, HB3⟩
  case round =>
    obtain ⟨k, hk, rfl, HJ, HB⟩ := hrel
    by_cases hlt : k < 18
    · have hki : (k : Int) < 18 := by omega
      have hk0 : (0 : Int) ≤ k := by omega
      have hx := HIX.out k hlt
      have HRL : Hid (reachI msg k ≤ 15) := reachI_le HMO.out k
      have HST := Lib.hid (fun w' => start_any w' sec HSO.out k (by omega))
      have HSK := Lib.hid (startI_ok sec k)
      have HES := Lib.hid (fun d => ends_snoc sec msg (d := d) hlt)
      obtain ⟨q, hq⟩ : ∃ q, reachI msg k = q := ⟨_, rfl⟩
      obtain ⟨S, hS⟩ : ∃ S, startI sec k = S := ⟨_, rfl⟩
      rw [hq] at hx HRL HES
      rw [hS] at HST HSK HES
      have HCH := Lib.hid (fun w' => chain_any w' S HSK.out q (by have := HRL.out; omega))
      have HDO := Lib.hid (chainI_ok HSK.out q)
      obtain ⟨T, hT⟩ : ∃ T, chainI q S = T := ⟨_, rfl⟩
      have HFS := Lib.hid (HES.out T hT)
      rw [hT] at HCH HDO
      obtain ⟨J, hJ⟩ : ∃ J, ((ends sec msg).take k).flatten.map (Value.int .u8) = J := ⟨_, rfl⟩
      rw [hJ] at HJ HFS
      have HKr := Lib.hid (HK1.out.later HB.out)
      clear hq hS hT HES hJ
      go_wp2_with (with_reducible refine wpList_load_bk rfl 23 _ rfl z rfl (dl sec) 23 HKr.out _ Tryd.underlying23 rfl (hdg_size _ HSO.out) ?_)
      refine (HST.out wr).mono ?_
      rintro e w5 ⟨rfl, hbn⟩
      have HJ5 := Lib.hid (own_keep HJ.out hbn); have HB5 := Lib.hid (below_then HB.out hbn)
      clear hbn HJ HB HKr HST hx
      go_wp2_with fail
      refine (HCH.out w5).mono ?_
      rintro e w6 ⟨rfl, hbn⟩
      have HJ6 := Lib.hid (own_keep HJ5.out hbn); have HB6 := Lib.hid (below_then HB5.out hbn)
      clear hbn HJ5 HB5 HCH
      go_wp2_with (with_reducible refine stop_store 23 _ _ rfl ?_)
      refine StopD.go ?_
      obtain ⟨g7, hg7⟩ : ∃ g, w6.heap.size = g := ⟨_, rfl⟩
      have hbn : Below w6.heap.size w6 (w6.alloc (.cells #[.int .u8 0, .int .u8 0, .int .u8 0, .int .u8 0, .int .u8 0, .int .u8 0, .int .u8 0, .int .u8 0] 23)) := below_new w6 _
      have kt : Bk (w6.alloc (.cells #[.int .u8 0, .int .u8 0, .int .u8 0, .int .u8 0, .int .u8 0, .int .u8 0, .int .u8 0, .int .u8 0] 23)) g7 23 ([] ++ (dl zeroD ++ [])) := by rw [← hg7]; exact Bk.new' w6 _ #[.int .u8 0, .int .u8 0, .int .u8 0, .int .u8 0, .int .u8 0, .int .u8 0, .int .u8 0, .int .u8 0] rfl
      rw [hg7]
      refine wpList_store_part rfl 23 _ _ rfl g7 0 (.agg (dl T).toArray) (dl T) rfl rfl rfl 23 [] (dl zeroD) [] kt rfl (by rw [dl_len, dl_len, HDO.out.len]; rfl) (hdg_size _ HDO.out) (dl_one' _) ?_
      intro w7 hp
      have hbn : Below w6.heap.size w6 w7 := hbn.grown hp.only hbn.size (fun q hq => by injection hq with hq; omega)
      have HD7 : Hid (Bk w7 g7 23 (dl T)) := by show Bk _ _ _ _; have := hp.bk; simpa using this
      clear hp kt hg7
      have HJ7 := Lib.hid (own_keep HJ6.out hbn); have HB7 := Lib.hid (below_then HB6.out hbn)
      clear hbn HJ6 HB6
      have HS7 : Hid (Sl w7 w7.heap.size 1 (some ⟨g7, 0, none⟩) 8 (dl T)) := HD7.out.sl (by rw [dl_len, HDO.out.len]) (by omega) (fun j u h => h)
      go_wp2_with (at_builtin; refine stop_here2 ?_)
      refine StopD.go ?_
      refine wpList_app _ rfl (.tmp 21) (.tmp 22) 29 rfl w1.heap.size 5 i0 (.int .u8 0) 1 1 Tryd.underlying29 hi hi0 hi1 hi2 rfl (by decide) _ _ _ rfl HJ7.out _ _ _ _ _ rfl HS7.out (dl_one' _) (by unfold maxLen; omega) (by omega) HB7.out.size ?_
      intro v9 w9 hown hgr hat
      have HB9 := Lib.hid (grown_below HB7.out HJ7.out hgr (Nat.le_refl _) HB7.out.size)
      have HJ9 : Hid (w9.ownsRow w1.heap.size 5 1 v9 ((k + 1) * 8) (((ends sec msg).take (k + 1)).flatten.map (.int .u8))) := by
        show World.ownsRow _ _ _ _ _ _ _
        rw [HFS.out, show (k + 1) * 8 = k * 8 + 8 by omega]; exact hown
      clear hown hgr hat HJ7 HB7 HS7 HD7
      go_wp2_with fail
      go_roundw
      case rel => exact ⟨k + 1, hlt, by go_num, HJ9, HB9⟩
      case measure => simp [intOf]; omega
    · have hki : ¬ ((k : Int) < 18) := by omega
      obtain rfl : k = 18 := by omega
      go_wp2_with fail
      go_ret
      refine ⟨_, rfl, ?_, below_then HB1.out HB.out⟩
      have hh := HJ.out
      rw [List.take_of_length_le (by rw [ends_len]; exact Nat.le_refl _)] at hh
      rw [osignI_len]
      exact own_base hh HB1.out.size
end Go.Proofs.YtakfdlokgddaoaaDoor
