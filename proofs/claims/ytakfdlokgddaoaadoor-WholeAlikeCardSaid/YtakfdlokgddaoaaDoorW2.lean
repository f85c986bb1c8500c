/- Digests of one, of many, done so often; a secret's chains. -/
import Derived.Test.YtakfdlokgddaoaaDoorW1
import Derived.Test.YtakfdlokgddaoaaDoorS2
import Derived.Test.YtakfdlokgddaoaaDoorG1
namespace Go.Proofs.YtakfdlokgddaoaaDoor
set_option linter.unusedSimpArgs false
set_option linter.unusedVariables false
open Go.RowKit

theorem dg_lensw {d : List Int} (h : DgOk d) : (dl zeroD).length = (dl d).length := by rw [dl_len, dl_len, h.len]; rfl
theorem zero_okw : DgOk zeroD := ⟨rfl, fun b hb => by have := List.eq_of_mem_replicate hb; omega⟩
set_option maxRecDepth 20000 in
theorem one_any (w : World) (a : List Int) (ha : DgOk a) :
    Calls Tryd.prog 70 #[.agg (dl a).toArray] w fun e w' => e = .returned (.agg (dl (oneI a)).toArray) ∧ Below w.heap.size w w' := by
  obtain ⟨X, hX⟩ : ∃ X, (dl a).toArray = X := ⟨_, rfl⟩
  obtain ⟨z, hz⟩ : ∃ z, w.heap.size = z := ⟨_, rfl⟩
  obtain ⟨w1, hw1⟩ : ∃ w1, (w.alloc (.cells X 23)).alloc (.cells #[.int .u8 0, .int .u8 0, .int .u8 0, .int .u8 0, .int .u8 0, .int .u8 0, .int .u8 0, .int .u8 0] 23) = w1 := ⟨_, rfl⟩
  have hb1 : Below w.heap.size w w1 := hw1 ▸ (below_new w _).alloc (by simp) _
  have kx : Bk w1 z 23 (dl a) := hw1 ▸ (Bk.at_ w _ X hz (by rw [← hX])).alloc _
  have kr : Bk w1 (z + 1) 23 ([] ++ (dl zeroD ++ [])) := hw1 ▸ Bk.at_ _ _ #[.int .u8 0, .int .u8 0, .int .u8 0, .int .u8 0, .int .u8 0, .int .u8 0, .int .u8 0, .int .u8 0] (by simp [hz]) rfl
  have HW := Lib.hid hw1; have HB1 := Lib.hid hb1; have HZ := Lib.hid hz; have HK1 := Lib.hid kx; have HR1 := Lib.hid kr; have HAO := Lib.hid ha; have HXE := Lib.hid hX
  rw [hX]
  clear hX hw1 hb1 kx kr hz ha
  go_enter Tryd.func70, Tryd.ntmps70
  go_upto_region 1 with fail
  rw [HW.out, HZ.out]
  go_wp2_with fail
  refine (begin_any w1 2).mono ?_
  rintro e w2 ⟨rfl, hb2⟩
  obtain ⟨s0, hs0⟩ : ∃ s0, beginI 2 = s0 := ⟨_, rfl⟩
  rw [hs0]
  have HS0 := Lib.hid hs0; clear hs0
  obtain ⟨w3, hw3⟩ : ∃ w3, w2.alloc (.cells #[.int .u64 s0.a, .int .u64 s0.b, .int .u64 s0.c, .int .u64 s0.d] 130) = w3 := ⟨_, rfl⟩
  obtain ⟨g, hg⟩ : ∃ g, w2.heap.size = g := ⟨_, rfl⟩
  have hs3 : StAt w3 g 130 s0 := hw3 ▸ Bk.at_ _ _ #[.int .u64 s0.a, .int .u64 s0.b, .int .u64 s0.c, .int .u64 s0.d] hg rfl
  have hb3 : Below w1.heap.size w1 w3 := hw3 ▸ hb2.trans ((below_new _ _).mono hb2.size)
  have hg1 : w1.heap.size ≤ g := by rw [← hg]; exact hb2.size
  have HW3 := Lib.hid hw3; have HS3 := Lib.hid hs3; have HB3 := Lib.hid hb3; have HG := Lib.hid hg; have HG1 := Lib.hid hg1
  clear hb2 hw3 hs3 hb3 hg hg1
  go_upto_region 2 with fail
  rw [HW3.out, HG.out]
  have HK3 := Lib.hid (HK1.out.later HB3.out)
  go_wp2_with (with_reducible refine wpList_load_bk rfl 23 _ rfl z rfl (dl a) 23 HK3.out _ Tryd.underlying23 rfl (hdg_size _ HAO.out) ?_)
  refine (num_any a HAO.out w3).mono ?_
  rintro e w4 ⟨rfl, hb4⟩
  have HB4 := Lib.hid (HB3.out.trans (hb4.mono HB3.out.size)); have HS4 := Lib.hid (HS3.out.later hb4)
  clear hb4 HK3
  go_wp2_with fail
  refine (take_any _ _ _ HS4.out _).mono ?_
  rintro e w5 ⟨rfl, hs5, hg5⟩
  have HB5 := Lib.hid (below_only HB4.out hg5 HB4.out.size HG1.out); have HS5 := Lib.hid hs5
  clear hs5 hg5
  go_wp2_with fail
  refine (gives_any _ _ _ HS5.out).mono ?_
  rintro e w6 ⟨rfl, hb6⟩
  have hoo : outI (takeI s0 (numG a)) = oneI a := by rw [← HS0.out]; rfl
  rw [hoo, show (dgA (oneI a)) = (dl (oneI a)).toArray from rfl]
  have HB6 := Lib.hid (HB5.out.trans (hb6.mono HB5.out.size))
  have HR6 := Lib.hid (HR1.out.later HB6.out)
  have HBT := Lib.hid (below_then HB1.out HB6.out)
  have HDO := Lib.hid (oneI_ok a)
  obtain ⟨T, hT⟩ : ∃ T, oneI a = T := ⟨_, rfl⟩
  have HTE := Lib.hid hT
  rw [hT] at HDO ⊢
  clear hb6 hoo hT
  go_wp2_with (with_reducible refine stop_store 23 _ _ rfl ?_)
  refine StopD.go ?_
  refine wpList_store_part rfl 23 _ _ rfl (z + 1) 0 (.agg (dl T).toArray) (dl T) rfl rfl rfl 23 [] (dl zeroD) [] HR6.out rfl (dg_lensw HDO.out) (hdg_size _ HDO.out) (dl_one' _) ?_
  intro wz hp
  have HTz : Hid (Bk wz (z + 1) 23 (dl T)) := by show Bk _ _ _ _; have := hp.bk; simpa using this
  have HBz := Lib.hid (below_only HBT.out hp.only HBT.out.size (by have := HZ.out; omega))
  clear hp
  go_wp2_with fail
  refine bodyPost_ret (results_cell_bk rfl _ _ (z + 1) 23 (dl T) _ rfl HTz.out Tryd.underlying23 rfl (hdg_size _ HDO.out)) rfl ?_
  exact ⟨by rw [HTE.out], HBz.out⟩
set_option maxRecDepth 20000 in
set_option maxHeartbeats 1000000 in
theorem chain_any (w : World) (a : List Int) (ha : DgOk a) (n : Nat) (hn : n ≤ 1000) :
    Calls Tryd.prog 47 #[.agg (dl a).toArray, .int .i64 n] w fun e w' => e = .returned (.agg (dl (chainI n a)).toArray) ∧ Below w.heap.size w w' := by
  obtain ⟨X, hX⟩ : ∃ X, (dl a).toArray = X := ⟨_, rfl⟩
  obtain ⟨z, hz⟩ : ∃ z, w.heap.size = z := ⟨_, rfl⟩
  obtain ⟨w1, hw1⟩ : ∃ w1, (w.alloc (.cells X 23)).alloc (.cells #[.int .u8 0, .int .u8 0, .int .u8 0, .int .u8 0, .int .u8 0, .int .u8 0, .int .u8 0, .int .u8 0] 23) = w1 := ⟨_, rfl⟩
  have hb1 : Below w.heap.size w w1 := hw1 ▸ (below_new w _).alloc (by simp) _
  have kx : Bk w1 z 23 (dl a) := hw1 ▸ (Bk.at_ w _ X hz (by rw [← hX])).alloc _
  have kr : Bk w1 (z + 1) 23 ([] ++ (dl zeroD ++ [])) := hw1 ▸ Bk.at_ _ _ #[.int .u8 0, .int .u8 0, .int .u8 0, .int .u8 0, .int .u8 0, .int .u8 0, .int .u8 0, .int .u8 0] (by simp [hz]) rfl
  have HW := Lib.hid hw1; have HB1 := Lib.hid hb1; have HZ := Lib.hid hz; have HK1 := Lib.hid kx; have HR1 := Lib.hid kr; have HAO := Lib.hid ha; have HNN := Lib.hid hn
  rw [hX]
  clear hX hw1 hb1 kx kr hz ha
  go_enter Tryd.func47, Tryd.ntmps47
  go_upto_region 1 with fail
  rw [HW.out, HZ.out]
  by_cases h1 : n < 1
  · have hd1 : decide ((n : Int) < 1) = true := by simp; omega
    obtain rfl : n = 0 := by omega
    clear h1 hn
    go_wp2_with (first
      | (with_reducible refine wpList_load_bk rfl 23 _ rfl z rfl (dl a) 23 HK1.out _ Tryd.underlying23 rfl (hdg_size _ HAO.out) ?_)
      | (with_reducible refine stop_store 23 _ _ rfl ?_))
    refine StopD.go ?_
    refine wpList_store_part rfl 23 _ _ rfl (z + 1) 0 (.agg (dl a).toArray) (dl a) rfl rfl rfl 23 [] (dl zeroD) [] HR1.out rfl (by rw [dl_len, dl_len, HAO.out.len, zero_okw.len]) (hdg_size _ HAO.out) (dl_one' _) ?_
    intro wz hp
    have HTz : Hid (Bk wz (z + 1) 23 (dl a)) := by show Bk _ _ _ _; have := hp.bk; simpa using this
    have HBz := Lib.hid (below_only HB1.out hp.only HB1.out.size (by have := HZ.out; omega))
    clear hp
    go_wp2_with fail
    refine bodyPost_ret (results_cell_bk rfl _ _ (z + 1) 23 (dl a) _ rfl HTz.out Tryd.underlying23 rfl (hdg_size _ HAO.out)) rfl ?_
    exact ⟨rfl, HBz.out⟩
  · have hd1 : decide ((n : Int) < 1) = false := by simp; omega
    have hd2 : decide ((1048576 : Int) < n) = false := by simp; omega
    go_wp2_with fail
    clear hd1 hd2 h1
    go_loopw [13] (fun kv wr => ∃ k : Nat, k ≤ n ∧ kv = .int .i64 k ∧ Hid (Bk wr z 23 (dl (chainI k a))) ∧ Hid (Bk wr (z + 1) 23 ([] ++ (dl zeroD ++ []))) ∧ Hid (Below w.heap.size w wr)) (fun kv _ => n - (intOf kv).toNat)
    case atStart => exact ⟨0, Nat.zero_le _, rfl, HK1, HR1, HB1⟩
    case round =>
      obtain ⟨k, hk, rfl, HK, HR, HB⟩ := hrel
      have HDO := Lib.hid (chainI_ok HAO.out k)
      by_cases hlt : k < n
      · have hki : (k : Int) < n := by omega
        have hk0 : (0 : Int) ≤ k := by omega
        have HDN := Lib.hid (chainI_ok HAO.out (k + 1))
        have hone := one_any wr (chainI k a) HDO.out
        rw [show oneI (chainI k a) = chainI (k + 1) a from rfl] at hone
        obtain ⟨c, hc⟩ : ∃ c, chainI k a = c := ⟨_, rfl⟩
        obtain ⟨d, hd⟩ : ∃ c, chainI (k + 1) a = c := ⟨_, rfl⟩
        have HDE := Lib.hid hd
        rw [hc, hd] at hone
        rw [hc] at HK HDO
        rw [hd] at HDN
        have HON := Lib.hid hone
        clear hone hc hd
        go_wp2_with (with_reducible refine wpList_load_bk rfl 23 _ rfl z rfl (dl c) 23 HK.out _ Tryd.underlying23 rfl (hdg_size _ HDO.out) ?_)
        refine HON.out.mono ?_
        rintro e w2 ⟨rfl, hbn⟩
        have HK2 : Hid (Bk w2 z 23 ([] ++ (dl c ++ []))) := by show Bk _ _ _ _; simpa using HK.out.later hbn
        have HR2 := Lib.hid (HR.out.later hbn); have HB2 := Lib.hid (below_then HB.out hbn)
        clear hbn HON HK HR HB
        go_wp2_with (with_reducible refine stop_store 23 _ _ rfl ?_)
        refine StopD.go ?_
        refine wpList_store_part rfl 23 _ _ rfl z 0 (.agg (dl d).toArray) (dl d) rfl rfl rfl 23 [] (dl c) [] HK2.out rfl (by rw [dl_len, dl_len, HDN.out.len, HDO.out.len]) (hdg_size _ HDN.out) (dl_one' _) ?_
        intro w3 hp
        have HK3 : Hid (Bk w3 z 23 (dl (chainI (k + 1) a))) := by show Bk _ _ _ _; rw [HDE.out]; have := hp.bk; simpa using this
        have HR3 := Lib.hid (HR2.out.grown hp.only (by intro e; injection e with e; omega))
        have HB3 := Lib.hid (below_only HB2.out hp.only HB2.out.size (Nat.le_of_eq HZ.out))
        clear hp HK2 HR2 HB2
        go_wp2_with fail
        go_roundw
        case rel => exact ⟨k + 1, hlt, by go_num, HK3, HR3, HB3⟩
        case measure => simp [intOf]; omega
      · have hki : ¬ ((k : Int) < n) := by omega
        obtain rfl : k = n := by omega
        obtain ⟨c, hc⟩ : ∃ c, chainI k a = c := ⟨_, rfl⟩
        have HCE := Lib.hid hc
        rw [hc] at HK HDO
        clear hc
        go_wp2_with (first
          | (with_reducible refine wpList_load_bk rfl 23 _ rfl z rfl (dl c) 23 HK.out _ Tryd.underlying23 rfl (hdg_size _ HDO.out) ?_)
          | (with_reducible refine stop_store 23 _ _ rfl ?_))
        refine StopD.go ?_
        refine wpList_store_part rfl 23 _ _ rfl (z + 1) 0 (.agg (dl c).toArray) (dl c) rfl rfl rfl 23 [] (dl zeroD) [] HR.out rfl (by rw [dl_len, dl_len, HDO.out.len, zero_okw.len]) (hdg_size _ HDO.out) (dl_one' _) ?_
        intro wz hp
        have HTz : Hid (Bk wz (z + 1) 23 (dl c)) := by show Bk _ _ _ _; have := hp.bk; simpa using this
        have HBz := Lib.hid (below_only HB.out hp.only HB.out.size (by have := HZ.out; omega))
        clear hp
        go_wp2_with fail
        refine bodyPost_ret (results_cell_bk rfl _ _ (z + 1) 23 (dl c) _ rfl HTz.out Tryd.underlying23 rfl (hdg_size _ HDO.out)) rfl ?_
        exact ⟨by rw [HCE.out], HBz.out⟩
set_option maxRecDepth 20000 in
set_option maxHeartbeats 2000000 in
theorem many_any (w : World) (A : Option Addr) (n c : Nat) (ls : List (List Int)) (ho : DsOk ls) (hs : Sl w w.heap.size 8 A n (cellsD ls)) :
    Calls Tryd.prog 69 #[.slice A n c] w fun e w' => e = .returned (.agg (dl (manyI ls)).toArray) ∧ Below w.heap.size w w' := by
  have hlen := hs.dgs ho
  have hnl := hs.le
  obtain ⟨z, hz⟩ : ∃ z, w.heap.size = z := ⟨_, rfl⟩
  obtain ⟨w1, hw1⟩ : ∃ w1, w.alloc (.cells #[.int .u8 0, .int .u8 0, .int .u8 0, .int .u8 0, .int .u8 0, .int .u8 0, .int .u8 0, .int .u8 0] 23) = w1 := ⟨_, rfl⟩
  have hb1 : Below w.heap.size w w1 := hw1 ▸ below_new w _
  have kr : Bk w1 z 23 ([] ++ (dl zeroD ++ [])) := hw1 ▸ Bk.at_ w _ #[.int .u8 0, .int .u8 0, .int .u8 0, .int .u8 0, .int .u8 0, .int .u8 0, .int .u8 0, .int .u8 0] hz rfl
  have HW := Lib.hid hw1; have HB1 := Lib.hid hb1; have HZ := Lib.hid hz; have HR1 := Lib.hid kr; have HS1 := Lib.hid (hs.later hb1); have HOO := Lib.hid ho; have HLN := Lib.hid hlen; have HNL := Lib.hid hnl
  clear hw1 hb1 kr hz hs ho hlen
  go_enter Tryd.func69, Tryd.ntmps69
  go_upto_region 1 with fail
  rw [HW.out, HZ.out]
  go_wp2_with fail
  refine (begin_any w1 5).mono ?_
  rintro e w2 ⟨rfl, hb2⟩
  obtain ⟨s0, hs0⟩ : ∃ s0, beginI 5 = s0 := ⟨_, rfl⟩
  rw [hs0]
  have HS0 := Lib.hid hs0; clear hs0
  obtain ⟨w3, hw3⟩ : ∃ w3, w2.alloc (.cells #[.int .u64 s0.a, .int .u64 s0.b, .int .u64 s0.c, .int .u64 s0.d] 130) = w3 := ⟨_, rfl⟩
  obtain ⟨g, hg⟩ : ∃ g, w2.heap.size = g := ⟨_, rfl⟩
  have hs3 : StAt w3 g 130 s0 := hw3 ▸ Bk.at_ _ _ #[.int .u64 s0.a, .int .u64 s0.b, .int .u64 s0.c, .int .u64 s0.d] hg rfl
  have hb3 : Below w1.heap.size w1 w3 := hw3 ▸ hb2.trans ((below_new _ _).mono hb2.size)
  have hg1 : w1.heap.size ≤ g := by rw [← hg]; exact hb2.size
  have HW3 := Lib.hid hw3; have HS3 := Lib.hid hs3; have HB3 := Lib.hid hb3; have HG := Lib.hid hg; have HG1 := Lib.hid hg1
  clear hb2 hw3 hs3 hb3 hg hg1
  go_upto_region 2 with fail
  rw [HW3.out, HG.out]
  go_wp2_with fail
  go_loopw [5, 9] (fun _ kv wr => ∃ k : Nat, k ≤ n ∧ kv = .int .i64 k ∧ Hid (StAt wr g 130 (manyS (ls.take k))) ∧ Hid (Below w1.heap.size w1 wr)) (fun _ kv _ => n - (intOf kv).toNat)
  case atStart => exact ⟨0, Nat.zero_le _, rfl, by show StAt _ _ _ _; rw [show manyS (ls.take 0) = s0 by rw [← HS0.out]; rfl]; exact HS3.out, HB3⟩
  case round =>
    obtain ⟨k, hk, rfl, HS, HB⟩ := hrel
    have hnn := HNL.out
    by_cases hlt : k < n
    · have hki : (k : Int) < n := by omega
      have hk0 : (0 : Int) ≤ k := by omega
      obtain ⟨T, hT⟩ : ∃ T, ls[k]? = some T := ⟨ls[k]'(by rw [HLN.out]; omega), List.getElem?_eq_getElem _⟩
      obtain ⟨b, o, rfl, _, _⟩ := (HS1.out.later HB.out).spot (by omega) (by omega)
      have hr : wr.rangeAt b (o + k * 8) (dl T) := sl_dgl (HS1.out.later HB.out) HOO.out hT
      have HTO : Hid (DgOk T) := HOO.out T (List.mem_of_getElem? hT)
      have HR := Lib.hid hr
      have HSN : Hid (manyS (ls.take (k + 1)) = takeI (manyS (ls.take k)) (numG T)) := by show _ = _; rw [take_snoc hT, manyS_snoc]
      obtain ⟨s, hse⟩ : ∃ s, manyS (ls.take k) = s := ⟨_, rfl⟩
      rw [hse] at HS HSN
      clear hr hT hse
      go_wp2_with (first
        | (with_reducible refine wpList_load_mid rfl 23 _ rfl b (o + k * 8) rfl (dl T) _ HR.out Tryd.underlying23 rfl (hdg_size _ HTO.out) ?_)
        | (with_reducible refine stop_store 23 _ _ rfl ?_))
      refine StopD.go ?_
      obtain ⟨g5, hg5⟩ : ∃ g, wr.heap.size = g := ⟨_, rfl⟩
      have hbn : Below wr.heap.size wr (wr.alloc (.cells #[.int .u8 0, .int .u8 0, .int .u8 0, .int .u8 0, .int .u8 0, .int .u8 0, .int .u8 0, .int .u8 0] 23)) := below_new wr _
      have kt : Bk (wr.alloc (.cells #[.int .u8 0, .int .u8 0, .int .u8 0, .int .u8 0, .int .u8 0, .int .u8 0, .int .u8 0, .int .u8 0] 23)) g5 23 ([] ++ (dl zeroD ++ [])) := by rw [← hg5]; exact Bk.new' wr _ #[.int .u8 0, .int .u8 0, .int .u8 0, .int .u8 0, .int .u8 0, .int .u8 0, .int .u8 0, .int .u8 0] rfl
      rw [hg5]
      refine wpList_store_part rfl 23 _ _ rfl g5 0 (.agg (dl T).toArray) (dl T) rfl rfl rfl 23 [] (dl zeroD) [] kt rfl (by rw [dl_len, dl_len, HTO.out.len]; rfl) (hdg_size _ HTO.out) (dl_one' _) ?_
      intro w5 hp
      have hbn : Below wr.heap.size wr w5 := hbn.grown hp.only hbn.size (fun q hq => by injection hq with hq; omega)
      have HT5 : Hid (Bk w5 g5 23 (dl T)) := by show Bk _ _ _ _; have := hp.bk; simpa using this
      clear hp kt
      clear hg5
      have HB5 := Lib.hid (HB.out.trans (hbn.mono HB.out.size)); have HS5 := Lib.hid (HS.out.later hbn)
      clear hbn HB HS HR
      go_wp2_with (with_reducible refine wpList_load_bk rfl 23 _ rfl g5 rfl (dl T) 23 HT5.out _ Tryd.underlying23 rfl (hdg_size _ HTO.out) ?_)
      refine (num_any T HTO.out w5).mono ?_
      rintro e w6 ⟨rfl, hb6⟩
      have HB6 := Lib.hid (HB5.out.trans (hb6.mono HB5.out.size)); have HS6 := Lib.hid (HS5.out.later hb6)
      clear hb6 HB5 HS5 HT5
      go_wp2_with fail
      refine (take_any _ _ _ HS6.out _).mono ?_
      rintro e w7 ⟨rfl, hs7, hg7⟩
      have HB7 := Lib.hid (below_only HB6.out hg7 HB6.out.size HG1.out)
      have HS7 : Hid (StAt w7 g 130 (manyS (ls.take (k + 1)))) := by show StAt _ _ _ _; rw [HSN.out]; exact hs7
      clear hs7 hg7 HB6 HS6
      go_wp2_with fail
      go_roundw
      case rel => exact ⟨k + 1, hlt, by go_num, HS7, HB7⟩
      case measure => simp [intOf]; omega
    · have hki : ¬ ((k : Int) < n) := by omega
      obtain rfl : k = n := by omega
      have hcw : IntKind.u64.wrap (k : Int) = k := by rw [IntKind.wrap_u64]; omega
      rw [List.take_of_length_le (by rw [HLN.out]; exact Nat.le_refl _)] at HS
      have HMI : Hid (outI (takeI (manyS ls) (k : Int)) = manyI ls) := by show _ = _; rw [manyI, HLN.out]
      have HDO := Lib.hid (manyI_ok ls)
      obtain ⟨T, hT⟩ : ∃ T, manyI ls = T := ⟨_, rfl⟩
      obtain ⟨s, hse⟩ : ∃ s, manyS ls = s := ⟨_, rfl⟩
      have HTE := Lib.hid hT
      rw [hT, hse] at HMI
      rw [hse] at HS
      rw [hT] at HDO
      clear hT hse
      go_wp2_with fail
      refine (take_any _ _ _ HS.out _).mono ?_
      rintro e w7 ⟨rfl, hs7, hg7⟩
      have HB7 := Lib.hid (below_only HB.out hg7 HB.out.size HG1.out); have HS7 := Lib.hid hs7
      clear hs7 hg7 HB HS hcw
      go_wp2_with fail
      refine (gives_any _ _ _ HS7.out).mono ?_
      rintro e w8 ⟨rfl, hb8⟩
      rw [HMI.out, show (dgA T) = (dl T).toArray from rfl]
      have HB8 := Lib.hid (HB7.out.trans (hb8.mono HB7.out.size))
      have HR8 := Lib.hid (HR1.out.later HB8.out)
      have HBT := Lib.hid (below_then HB1.out HB8.out)
      clear hb8 HB7 HS7
      go_wp2_with (with_reducible refine stop_store 23 _ _ rfl ?_)
      refine StopD.go ?_
      refine wpList_store_part rfl 23 _ _ rfl z 0 (.agg (dl T).toArray) (dl T) rfl rfl rfl 23 [] (dl zeroD) [] HR8.out rfl (by rw [dl_len, dl_len, HDO.out.len, zero_okw.len]) (hdg_size _ HDO.out) (dl_one' _) ?_
      intro wz hp
      have HTz : Hid (Bk wz z 23 (dl T)) := by show Bk _ _ _ _; have := hp.bk; simpa using this
      have HBz := Lib.hid (below_only HBT.out hp.only HBT.out.size (Nat.le_of_eq HZ.out))
      clear hp
      go_wp2_with fail
      refine bodyPost_ret (results_cell_bk rfl _ _ z 23 (dl T) _ rfl HTz.out Tryd.underlying23 rfl (hdg_size _ HDO.out)) rfl ?_
      exact ⟨by rw [HTE.out], HBz.out⟩
theorem from_anyw (n : Int) (w : World) : Calls Tryd.prog 18 #[.int .u64 n] w fun e w' => e = .returned (.agg (dl (fromG n)).toArray) ∧ Below w.heap.size w w' := from_any n w
theorem two_anyw (w : World) (a b : List Int) (ha : DgOk a) (hb : DgOk b) :
    Calls Tryd.prog 49 #[.agg (dl a).toArray, .agg (dl b).toArray] w fun e w' => e = .returned (.agg (dl (twoI a b)).toArray) ∧ Below w.heap.size w w' := two_any w a b ha hb
end Go.Proofs.YtakfdlokgddaoaaDoor
