/- How the document reads a lock: the walk itself. -/
import Derived.Test.YtbclfjdamklbpaaLY
namespace Go.Proofs.Ytbclfjdamklbpaa
set_option linter.unusedSimpArgs false
set_option linter.unusedVariables false
open Go.RowKit Go.Maps

set_option maxRecDepth 20000 in
set_option maxHeartbeats 8000000 in
theorem rldec_any (w : World) (A : Option Addr) (n c : Nat) (bs : List Int) (ho : ByOk bs) (hs : Sl w w.heap.size 1 A n (bs.map (.int .u8))) (hn : n ≤ 1073741824) (hc : n ≤ c) :
    Calls Try.prog 29 #[.slice A n c] w (RetRl (decR bs) w) := by
  obtain ⟨z, hz⟩ : ∃ z, w.heap.size = z := ⟨_, rfl⟩
  obtain ⟨w1, hw1⟩ : ∃ w1, w.alloc (.cells #[.int .i64 0, .int .u8 0, .int .u8 0, .int .u8 0, .int .u8 0, .int .u8 0, .int .u8 0, .int .u8 0, .int .u8 0, .slice none 0 0, .int .i64 0, .int .i64 0, .int .i64 0] 44) = w1 := ⟨_, rfl⟩
  have hb1 : Below w.heap.size w w1 := hw1 ▸ below_new w _
  have kz : Bk w1 z 44 zLk' := hw1 ▸ Bk.at_ w _ _ hz rfl
  have HW := Lib.hid hw1; have HB1 := Lib.hid hb1; have HZ1 := Lib.hid kz; have HZ := Lib.hid hz
  have HRV0 := Lib.hid (RvAt.new hs ho hn hc)
  obtain ⟨D, hD⟩ : ∃ D, decR bs = D := ⟨_, rfl⟩
  have HDL := Lib.hid hD
  rw [hD]
  clear hw1 hb1 kz hz hs ho hD hn hc
  go_enter Try.func29, Try.ntmps29
  go_upto_region 1 with fail
  rw [HW.out, HZ.out]
  have hbr := build_rv A n c
  go_wp2_with (first
    | ((with_reducible refine wpList_build rfl 117 _ rfl #[(0, .slice A n c)] ?_ _ (hbr _) ?_); focus (simp [Act.eval, Act.put]; done))
    | (with_reducible refine stop_store 117 _ _ rfl ?_))
  clear hbr
  refine StopD.go ?_
  obtain ⟨g4, hg4⟩ : ∃ q, w1.heap.size = q := ⟨_, rfl⟩
  obtain ⟨wq, hwq⟩ : ∃ w', w1.alloc (.cells #[.slice none 0 0, .int .i64 0, .int .i64 0] 117) = w' := ⟨_, rfl⟩
  have hbn : Below w1.heap.size w1 wq := hwq ▸ below_new w1 _
  have kt : Bk wq g4 117 ([] ++ (zRv ++ [])) := by rw [← hwq]; exact Bk.at_ w1 _ _ hg4 rfl
  rw [hg4, hwq]
  refine wpList_store_part rfl 117 _ _ rfl g4 0 (.agg (rvC A n c 0 0).toArray) (rvC A n c 0 0) rfl rfl rfl 117 [] _ [] kt rfl rfl rv_size (rv_one _ _ _ _ _) ?_
  intro w2 hp
  have hbn : Below w1.heap.size w1 w2 := hbn.grown hp.only hbn.size (fun q' hq' => by injection hq' with hq'; omega)
  obtain ⟨s0, hs0⟩ : ∃ s : Rd, ⟨bs, 0⟩ = s := ⟨_, rfl⟩
  have HS0 := Lib.hid hs0
  have HM2 : Hid (RdM w w2 z g4 s0) := by
    have hz1 := HZ1.out.lt
    have hb2 := below_then HB1.out hbn
    refine ⟨⟨A, n, c, 0, ?_, ?_⟩, HZ1.out.later hbn, hb2, Nat.le_of_eq HZ.out, by omega⟩
    · rw [← hs0]; have := hp.bk; simpa using this
    · rw [← hs0]; exact HRV0.out.below hb2
  clear hp hbn kt hg4 hwq hs0 HZ1 HB1 HRV0
  obtain ⟨A4, n4, c4, k4, hk4, hr4⟩ := HM2.out.rv
  obtain ⟨z0, z1, z2⟩ := rv_cells hk4
  obtain ⟨⟨s1, v1⟩, hR⟩ : ∃ R, numR s0 1 = R := ⟨_, rfl⟩
  have HR3 := Lib.hid hR
  have hnn := rRead_any w2 w.heap.size HM2.out.hb.size _ s0 hr4 1
  have hrg := lnum_rng hr4.ok (most := 1) (by decide)
  rw [hR] at hnn hrg
  have HN := Lib.hid hnn; have HG3 := Lib.hid hrg
  clear hk4 hr4 hnn hR hrg
  go_wp2_with fail
  clear z0 z1 z2
  refine HN.out.mono ?_
  rintro e wx ⟨v, rfl, hrv, hbn⟩
  obtain ⟨A5, n5, c5, k5, hv5⟩ := hrv.form
  subst hv5
  have HMx := Lib.hid (HM2.out.later hbn); have HRV := Lib.hid hrv
  clear hrv hbn HM2 HN
  go_wp2_with (with_reducible refine stop_store 117 _ _ rfl ?_)
  refine StopD.go ?_
  obtain ⟨A6, n6, c6, k6, hk6, _⟩ := HMx.out.rv
  refine wpList_store_part rfl 117 _ _ rfl g4 0 (.agg (rvC A5 n5 c5 k5 (s1).err).toArray) (rvC A5 n5 c5 k5 (s1).err) rfl rfl rfl 117 [] (rvC A6 n6 c6 k6 (s0).err) [] (by simpa using hk6) rfl rfl rv_size (rv_one _ _ _ _ _) ?_
  intro w3 hp
  have HM3 := Lib.hid (HMx.out.put (s' := s1) HRV.out (by simpa using hp))
  clear hp hk6 HMx HRV
  obtain ⟨A4, n4, c4, k4, hk4, hr4⟩ := HM3.out.rv
  obtain ⟨z0, z1, z2⟩ := rv_cells hk4
  obtain ⟨⟨⟨s2, hd⟩, x2⟩, hR⟩ : ∃ R, docDg s1 = R := ⟨_, rfl⟩
  have HR4 := Lib.hid hR
  have hnn := rdg_any w3 w.heap.size HM3.out.hb.size _ s1 hr4
  have hdo := docDg_ok hr4.ok
  rw [hR] at hnn hdo
  have HN := Lib.hid hnn; have HHO : Hid (DgOk hd) := hdo
  clear hk4 hr4 hnn hR hdo
  go_wp2_with fail
  clear z0 z1 z2
  refine HN.out.mono ?_
  rintro e w4 ⟨v, rfl, hrv, hbn⟩
  obtain ⟨A5, n5, c5, k5, hv5⟩ := hrv.form
  subst hv5
  have HM4 := Lib.hid (HM3.out.later hbn); have HRV := Lib.hid hrv
  clear hrv hbn HM3 HN
  go_wp2_with (with_reducible refine stop_store 117 _ _ rfl ?_)
  refine StopD.go ?_
  obtain ⟨g6, hg6⟩ : ∃ q, w4.heap.size = q := ⟨_, rfl⟩
  obtain ⟨wq, hwq⟩ : ∃ w', w4.alloc (.cells #[.int .u8 0, .int .u8 0, .int .u8 0, .int .u8 0, .int .u8 0, .int .u8 0, .int .u8 0, .int .u8 0] 22) = w' := ⟨_, rfl⟩
  have hbn : Below w4.heap.size w4 wq := hwq ▸ below_new w4 _
  have HD5 : Hid (Bk wq g6 22 (dl zeroD)) := by show Bk _ _ _ _; rw [← hwq]; exact Bk.at_ w4 _ _ hg6 rfl
  have HM5 := Lib.hid (HM4.out.later hbn)
  have HRV5 := Lib.hid (HRV.out.below (hbn.mono HM4.out.hb.size))
  have HG6 : Hid (g4 < g6) := by obtain ⟨_, _, _, _, hk, _⟩ := HM4.out.rv; have := hk.lt; show g4 < g6; omega
  rw [hg6, hwq]
  clear hbn hg6 hwq HM4 HRV
  obtain ⟨A6, n6, c6, k6, hk6, _⟩ := HM5.out.rv
  refine wpList_store_part rfl 117 _ _ rfl g4 0 (.agg (rvC A5 n5 c5 k5 s2.err).toArray) (rvC A5 n5 c5 k5 s2.err) rfl rfl rfl 117 [] (rvC A6 n6 c6 k6 s1.err) [] (by simpa using hk6) rfl rfl rv_size (rv_one _ _ _ _ _) ?_
  intro w6 hp
  have HM6 := Lib.hid (HM5.out.put (s' := s2) HRV5.out (by simpa using hp))
  have HD6 := Lib.hid (HD5.out.grown hp.only (by intro e; injection e with e; have := HG6.out; omega))
  clear hp hk6 HM5 HRV5 HD5
  have HDS : Hid ((Try.prog.info? 22).map (·.size) = some (dl hd).length) := by show _ = _; rw [dl_len, HHO.out.len]; kernel_rfl
  go_wp2_with (with_reducible refine stop_store 22 _ _ rfl ?_)
  refine StopD.go ?_
  refine wpList_store_part rfl 22 _ _ rfl g6 0 (.agg (dl hd).toArray) (dl hd) rfl rfl rfl 22 [] (dl zeroD) [] (by simpa using HD6.out) rfl (by rw [show (dl hd).length = 8 by rw [dl_len, HHO.out.len]] <;> rfl) HDS.out (dl_one' _) ?_
  intro w7 hp
  have HD7 : Hid (Bk w7 g6 22 (dl hd)) := by show Bk _ _ _ _; have := hp.bk; simpa using this
  have HM7 : Hid (RdM w w7 z g4 s2) := by
    have h1 := HG6.out; have h2 := HM6.out.z0; have h3 := HM6.out.zg
    obtain ⟨a1, a2, a3, a4, a5, a6⟩ := HM6.out.rv
    exact ⟨⟨a1, a2, a3, a4, a5.grown hp.only (by intro e; injection e with e; omega), a6.below (HM6.out.bel hp.only (by omega))⟩, HM6.out.rs.grown hp.only (by intro e; injection e with e; omega), below_only HM6.out.hb hp.only HM6.out.hb.size (by omega), h2, h3⟩
  clear hp HM6 HD6
  have HD1 : Hid (D = if x2 = 0 then decRK v1 hd s2 else (lk0, x2)) := by
    show _ = _
    rw [← HDL.out, decR, HS0.out, HR3.out]
    show (if (docDg s1).2 = 0 then decRK v1 (docDg s1).1.2 (docDg s1).1.1 else (lk0, (docDg s1).2)) = _
    rw [HR4.out]
  clear HDL HS0 HR3 HR4
  by_cases hx : x2 = 0
  · subst hx
    have HD2 : Hid (D = decRK v1 hd s2) := by show _ = _; rw [HD1.out]; exact if_pos rfl
    clear HD1
    have hv1 := HG3.out
    have hw1 : IntKind.i64.wrap v1 = v1 := IntWalk.i64_in _ (by omega)
    have hbl := build_drl v1 hd HHO.out
    go_wp2_with (first
      | (with_reducible refine wpList_load_bk rfl 22 _ rfl g6 rfl (dl hd) 22 HD7.out _ Try.underlying22 rfl HDS.out ?_)
      | ((with_reducible refine wpList_build rfl 44 _ rfl #[(0, .int .i64 v1), (1, .agg (dl hd).toArray)] ?_ _ (hbl _) ?_); focus (simp [Act.eval, Act.put]; done))
      | (with_reducible refine stop_store 44 _ _ rfl ?_))
    clear hbl hw1 hv1
    refine StopD.go ?_
    obtain ⟨g8, hg8⟩ : ∃ q, w7.heap.size = q := ⟨_, rfl⟩
    obtain ⟨wq, hwq⟩ : ∃ w', w7.alloc (.cells #[.int .i64 0, .int .u8 0, .int .u8 0, .int .u8 0, .int .u8 0, .int .u8 0, .int .u8 0, .int .u8 0, .int .u8 0, .slice none 0 0, .int .i64 0, .int .i64 0, .int .i64 0] 44) = w' := ⟨_, rfl⟩
    have hbn : Below w7.heap.size w7 wq := hwq ▸ below_new w7 _
    have kt : Bk wq g8 44 ([] ++ (zLk' ++ [])) := by rw [← hwq]; exact Bk.at_ w7 _ _ hg8 rfl
    rw [hg8, hwq]
    refine wpList_store_part rfl 44 _ _ rfl g8 0 (.agg (lkC ⟨v1, hd, [], 0, 0, 0⟩ (.slice none 0 0)).toArray) (lkC ⟨v1, hd, [], 0, 0, 0⟩ (.slice none 0 0)) rfl rfl rfl 44 [] zLk' [] kt rfl (by rw [lkC_len (L := ⟨v1, hd, [], 0, 0, 0⟩) HHO.out]; rfl) (rlk_sz (L := ⟨v1, hd, [], 0, 0, 0⟩) HHO.out _) (lk_one _ _ _ _) ?_
    intro w8 hp
    have hbn : Below w7.heap.size w7 w8 := hbn.grown hp.only hbn.size (fun q' hq' => by injection hq' with hq'; omega)
    have HM8 : Hid (RcS w w8 z g4 g8 s2 ⟨v1, hd, [], 0, 0, 0⟩ (.slice none 0 0) []) := by
      have hgg : g4 < g8 := by obtain ⟨_, _, _, _, hk, _⟩ := HM7.out.rv; have := hk.lt; omega
      exact { HM7.out.later hbn with lk := by have := hp.bk; simpa using this, ro := World.ownsRow_nil _ _ _ _, ko := fun d hd => by simp at hd, lh := HHO.out, gg := hgg }
    clear hp hbn kt hg8 hwq HM7 HD7 HG6
    obtain ⟨A4, n4, c4, k4, hk4, hr4⟩ := HM8.out.rv
    obtain ⟨z0, z1, z2⟩ := rv_cells hk4
    obtain ⟨⟨s3, v3⟩, hR⟩ : ∃ R, numR s2 8 = R := ⟨_, rfl⟩
    have HR9 := Lib.hid hR
    have hnn := rRead_any w8 w.heap.size HM8.out.hb.size _ s2 hr4 8
    have hrg := lnum_rng hr4.ok (most := 8) (by decide)
    rw [hR] at hnn hrg
    have HN := Lib.hid hnn; have HG9 := Lib.hid hrg
    clear hk4 hr4 hnn hR hrg
    go_wp2_with fail
    clear z0 z1 z2
    refine HN.out.mono ?_
    rintro e wx ⟨v, rfl, hrv, hbn⟩
    obtain ⟨A5, n5, c5, k5, hv5⟩ := hrv.form
    subst hv5
    have HMx := Lib.hid (HM8.out.later hbn); have HRV := Lib.hid hrv
    clear hrv hbn HM8 HN
    go_wp2_with (with_reducible refine stop_store 117 _ _ rfl ?_)
    refine StopD.go ?_
    obtain ⟨A6, n6, c6, k6, hk6, _⟩ := HMx.out.rv
    refine wpList_store_part rfl 117 _ _ rfl g4 0 (.agg (rvC A5 n5 c5 k5 (s3).err).toArray) (rvC A5 n5 c5 k5 (s3).err) rfl rfl rfl 117 [] (rvC A6 n6 c6 k6 (s2).err) [] (by simpa using hk6) rfl rfl rv_size (rv_one _ _ _ _ _) ?_
    intro w9 hp
    have HM9 := Lib.hid (HMx.out.putR (s' := s3) HRV.out (by simpa using hp))
    clear hp hk6 HMx HRV
    obtain ⟨m, hm⟩ : ∃ m : Nat, v3 = m := ⟨v3.toNat, by have := HG9.out; omega⟩
    subst hm
    have HMM : Hid (m ≤ 8) := by have := HG9.out; show m ≤ 8; omega
    have hw3 : IntKind.i64.wrap (m : Int) = m := IntWalk.i64_in _ (by have := HMM.out; omega)
    have HD3 : Hid (D = if (rkeysN s3 m).2 = 0 then decRT v1 hd (rkeysN s3 m).1.2 (rkeysN s3 m).1.1 else (lk0, (rkeysN s3 m).2)) := by
      show _ = _
      rw [HD2.out, decRK, HR9.out]
      show (if (rkeysN s3 ((m : Nat) : Int).toNat).2 = 0 then _ else _) = _
      rw [Int.toNat_natCast]
    clear HD2 HR9 HG9
    go_wp2_with fail
    clear hw3
    go_loopw [10, 11, 12, 13] (fun iv _ _ _ wr => ∃ (j : Nat) (P : Option Addr) (pc : Nat), j ≤ m ∧ iv = .int .i64 j ∧ Hid ((rkeysN s3 j).2 = 0) ∧ Hid (RcS w wr z g4 g8 (rkeysN s3 j).1.1 ⟨v1, hd, [], 0, 0, 0⟩ (.slice P (rkeysN s3 j).1.2.length pc) (rkeysN s3 j).1.2)) (fun iv _ _ _ _ => m - (intOf iv).toNat)
    case atStart => exact ⟨0, none, 0, Nat.zero_le _, rfl, rfl, HM9⟩
    case round =>
      clear HM9
      obtain ⟨j, P, pc, hj, rfl, HK0, HMr⟩ := hrel
      have hw3 : IntKind.i64.wrap (m : Int) = m := IntWalk.i64_in _ (by have := HMM.out; omega)
      have hkl := rkeysN_len (s := s3) j
      obtain ⟨⟨⟨sj, kj⟩, ej⟩, hrk⟩ : ∃ R, rkeysN s3 j = R := ⟨_, rfl⟩
      have HRK := Lib.hid hrk
      rw [hrk] at HK0 HMr hkl
      have HK0 : Hid (ej = 0) := HK0
      have HMr : Hid (RcS w wr z g4 g8 sj ⟨v1, hd, [], 0, 0, 0⟩ (.slice P kj.length pc) kj) := HMr
      obtain ⟨q, hq⟩ : ∃ q, kj.length = q := ⟨_, rfl⟩
      have HQ := Lib.hid hq
      have HQ8 : Hid (q ≤ 8) := by have := HMM.out; have h1 : kj.length ≤ j := hkl; show q ≤ 8; omega
      rw [hq] at HMr
      clear hrk hkl hq
      by_cases hlt : j < m
      · have hji : (j : Int) < m := by omega
        have hj0 : (0 : Int) ≤ j := by omega
        obtain ⟨A4, n4, c4, k4, hk4, hr4⟩ := HMr.out.rv
        obtain ⟨z0, z1, z2⟩ := rv_cells hk4
        obtain ⟨⟨⟨s', x⟩, e'⟩, hR⟩ : ∃ R, docDg sj = R := ⟨_, rfl⟩
        have HRD := Lib.hid hR
        have hnn := rdg_any wr w.heap.size HMr.out.hb.size _ sj hr4
        have hdo := docDg_ok hr4.ok
        rw [hR] at hnn hdo
        have HN := Lib.hid hnn; have HXO : Hid (DgOk x) := hdo
        clear hk4 hr4 hnn hR hdo
        go_wp2_with fail
        clear z0 z1 z2
        refine HN.out.mono ?_
        rintro e wa ⟨v, rfl, hrv, hbn⟩
        obtain ⟨A5, n5, c5, k5, hv5⟩ := hrv.form
        subst hv5
        have HMa := Lib.hid (HMr.out.later hbn); have HRVa := Lib.hid hrv
        clear hrv hbn HMr HN
        go_wp2_with (with_reducible refine stop_store 117 _ _ rfl ?_)
        refine StopD.go ?_
        obtain ⟨g11, hg11⟩ : ∃ q, wa.heap.size = q := ⟨_, rfl⟩
        obtain ⟨wb, hwb⟩ : ∃ w', (wa.alloc (.cells #[.slice none 0 0, .int .i64 0, .int .i64 0] 117)).alloc (.cells #[.int .u8 0, .int .u8 0, .int .u8 0, .int .u8 0, .int .u8 0, .int .u8 0, .int .u8 0, .int .u8 0] 22) = w' := ⟨_, rfl⟩
        have hbn : Below wa.heap.size wa wb := hwb ▸ (below_new wa _).alloc (by simp) _
        have HRb : Hid (Bk wb g11 117 zRv) := by show Bk _ _ _ _; rw [← hwb]; exact (Bk.at_ wa _ _ hg11 rfl).alloc _
        have HNE : Hid ((Value.slice P q pc).ownBlock ≠ some (g11 + 1)) := by intro e; have := ownsLt HMa.out.ro _ e; omega
        have HXb : Hid (Bk wb (g11 + 1) 22 (dl zeroD)) := by show Bk _ _ _ _; rw [← hwb]; exact Bk.at_ _ _ _ (by simp [hg11]) rfl
        have HMb := Lib.hid (HMa.out.later hbn); have HRVb := Lib.hid (HRVa.out.below (hbn.mono HMa.out.hb.size))
        have HG11 : Hid (g8 < g11) := by have := HMa.out.lk.lt; show g8 < g11; omega
        rw [hg11, hwb]
        clear hbn hg11 hwb HMa HRVa
        refine wpList_store_part rfl 117 _ _ rfl g11 0 (.agg (rvC A5 n5 c5 k5 s'.err).toArray) (rvC A5 n5 c5 k5 s'.err) rfl rfl rfl 117 [] zRv [] (by simpa using HRb.out) rfl rfl rv_size (rv_one _ _ _ _ _) ?_
        intro w10 hp
        have hg := HG11.out; have hz0 := HMb.out.z0; have hzg := HMb.out.zg; have hgg := HMb.out.gg
        have HR10 : Hid (Bk w10 g11 117 (rvC A5 n5 c5 k5 s'.err)) := by show Bk _ _ _ _; have := hp.bk; simpa using this
        have HX10 := Lib.hid (HXb.out.grown hp.only (by intro e; injection e with e; omega))
        have HM10 := Lib.hid (HMb.out.other8 hp.only (by omega) (own_bk_ne HMb.out.ro HRb.out (by decide)))
        have HRV10 := Lib.hid (HRVb.out.below (HMb.out.toRdM.bel hp.only (by omega)))
        clear hp HRb HXb HMb HRVb
        have HXS : Hid ((Try.prog.info? 22).map (·.size) = some (dl x).length) := by show _ = _; rw [dl_len, HXO.out.len]; kernel_rfl
        go_wp2_with (with_reducible refine stop_store 22 _ _ rfl ?_)
        refine StopD.go ?_
        refine wpList_store_part rfl 22 _ _ rfl (g11 + 1) 0 (.agg (dl x).toArray) (dl x) rfl rfl rfl 22 [] (dl zeroD) [] (by simpa using HX10.out) rfl (by rw [show (dl x).length = 8 by rw [dl_len, HXO.out.len]] <;> rfl) HXS.out (dl_one' _) ?_
        intro w11 hp
        have HX11 : Hid (Bk w11 (g11 + 1) 22 (dl x)) := by show Bk _ _ _ _; have := hp.bk; simpa using this
        have HR11 := Lib.hid (HR10.out.grown hp.only (by intro e; injection e with e; omega))
        have HM11 := Lib.hid (HM10.out.other8 hp.only (by omega) HNE.out)
        have HRV11 := Lib.hid (HRV10.out.below (HM10.out.toRdM.bel hp.only (by omega)))
        clear hp HR10 HX10 HM10 HRV10
        by_cases he : e' = 0
        · subst he
          have HK1 : Hid (rkeysN s3 (j + 1) = ((s', kj ++ [x]), 0)) := by
            show _ = _
            rw [rkeysN, HRK.out, HK0.out, if_pos (show ((sj, kj), (0 : Int)).2 = 0 from rfl)]
            show (if (docDg sj).2 = 0 then _ else _) = _
            rw [HRD.out]
            exact if_pos rfl
          clear HK0 HRK HRD
          obtain ⟨z0, z1, z2⟩ := rv_cells HR11.out
          go_wp2_with (with_reducible refine stop_store 117 _ _ rfl ?_)
          clear z0 z1 z2
          refine StopD.go ?_
          obtain ⟨A6, n6, c6, k6, hk6, _⟩ := HM11.out.rv
          refine wpList_store_part rfl 117 _ _ rfl g4 0 (.agg (rvC A5 n5 c5 k5 s'.err).toArray) (rvC A5 n5 c5 k5 s'.err) rfl rfl rfl 117 [] (rvC A6 n6 c6 k6 sj.err) [] (by simpa using hk6) rfl rfl rv_size (rv_one _ _ _ _ _) ?_
          intro w12 hp
          have HM12 := Lib.hid (HM11.out.putR (s' := s') HRV11.out (by simpa using hp))
          have HX12 := Lib.hid (HX11.out.grown hp.only (by intro e; injection e with e; omega))
          clear hp hk6 HM11 HR11 HX11 HRV11
          have c9 := (lk_mem (L := ⟨v1, hd, [], 0, 0, 0⟩) HHO.out HM12.out.lk).c9
          go_wp2_with (first
            | (with_reducible refine wpList_load_bk rfl 22 _ rfl (g11 + 1) rfl (dl x) 22 HX12.out _ Try.underlying22 rfl HXS.out ?_)
            | (with_reducible refine stop_bs 42 _ _ rfl ?_))
          refine StopD.go ?_
          refine wpList_bsliceG rfl 42 1 _ rfl #[(0, .agg (dl x).toArray)] ?_ 22 (dl x) (fun w => bs_a1 HXO.out w) ?_
          · simp [Act.eval, Act.put]
          intro q8 w13 hq8 hb8 hbn
          have HM13 := Lib.hid (HM12.out.later hbn); have HB13 := Lib.hid hb8
          clear hq8 hb8 hbn HM12 HX12 c9
          go_wp2_with (at_builtin; refine stop_here ?_)
          refine StopD.go ?_
          obtain ⟨i0, z0', hi, hi0, hi1, hi2, hi3⟩ := a8_parts
          have hrow := HM13.out.ro
          rw [HQ.out] at hrow
          have hq8 := HQ8.out
          refine wpList_app _ rfl (.tmp 63) (.tmp 65) 42 rfl w.heap.size 22 i0 z0' 8 8 Try.underlying42 hi hi0 hi1 hi2 hi3 (by decide) _ _ _ rfl hrow _ _ _ _ _ rfl (Sl.of_own (HB13.out.own (base := 0) (size := 8) (cap := 1) (n := 1) (Nat.zero_le _) (Nat.le_refl _) (by omega) (by rw [dl_len, HXO.out.len]) (by rw [List.take_of_length_le (by rw [dl_len, HXO.out.len]; exact Nat.le_refl _)]))) (dl_one' _) (by unfold maxLen; omega) (by omega) HM13.out.hb.size ?_
          intro v9 w14 hown hg hat
          obtain ⟨P9, c9, h9⟩ := own_form hown
          subst h9
          have HL14 := Lib.hid (HM13.out.lk.grown hg (Ne.symm (own_bk_ne hrow HM13.out.lk (by decide))))
          have HOW := Lib.hid hown; have HGR := Lib.hid hg
          clear hown hg hat hi hi0 hi1 hi2 hi3 hrow HB13
          go_wp2_with (with_reducible refine stop_store 42 _ _ rfl ?_)
          refine StopD.go ?_
          refine wpList_store_part rfl 42 _ _ rfl g8 9 (.slice P9 (q + 1) c9) [.slice P9 (q + 1) c9] rfl rfl rfl 44 (.int .i64 v1 :: dl hd) [.slice P q pc] [.int .i64 0, .int .i64 0, .int .i64 0] (by have := HL14.out; simpa [lkC] using this) (by simp [dl_len, HHO.out.len]) rfl (by kernel_rfl) (by intro y hy; simp at hy; subst hy; rfl) ?_
          intro w15 hp
          have HM15 := Lib.hid (HM13.out.key (x := x) (p' := .slice P9 (q + 1) c9) HXO.out (by rw [HQ.out]; exact HOW.out) HGR.out (by simpa [lkC] using hp))
          clear hp HOW HGR HL14 HM13
          have hj8 : (j : Int) < 8 := by have := HMM.out; omega
          have HLT := Lib.hid hlt
          clear hw3
          go_wp2_with fail
          go_roundw
          case rel =>
            refine ⟨j + 1, P9, c9, HLT.out, by go_num, by rw [HK1.out]; rfl, ?_⟩
            rw [HK1.out]
            show Hid (RcS w _ z g4 g8 s' ⟨v1, hd, [], 0, 0, 0⟩ (.slice P9 (kj ++ [x]).length c9) (kj ++ [x]))
            rw [show (kj ++ [x]).length = q + 1 by rw [List.length_append, HQ.out]; rfl]
            exact HM15
          case measure => have := HLT.out; simp [intOf] <;> omega
        · have HK1 : Hid (rkeysN s3 m = ((sj, kj), e')) := by
            show _ = _
            have h1 : rkeysN s3 (j + 1) = ((sj, kj), e') := by
              rw [rkeysN, HRK.out, HK0.out, if_pos (show ((sj, kj), (0 : Int)).2 = 0 from rfl)]
              show (if (docDg sj).2 = 0 then _ else _) = _
              rw [HRD.out]
              exact if_neg he
            have h2 := rkeysN_stop (s := s3) (k := j + 1) (by rw [h1]; exact he) (m - (j + 1))
            rw [Nat.add_sub_cancel' (by omega)] at h2
            rw [h2, h1]
          have HDE : Hid (D = (lk0, e')) := by show _ = _; rw [HD3.out, HK1.out]; exact if_neg he
          have hen : (e' != 0) = true := by simpa using he
          clear HK1 HD3 HK0 HRK HRD he
          have hzl := rz_lk
          go_wp2_with (first
            | ((with_reducible refine wpList_build rfl 44 _ rfl #[] ?_ _ (hzl _) ?_); focus (simp [Act.eval, Act.put]; done))
            | (with_reducible refine stop_store 44 _ _ rfl ?_))
          clear hzl
          refine StopD.go ?_
          refine wpList_store_part rfl 44 _ _ rfl z 0 (.agg zLk'.toArray) zLk' rfl rfl rfl 44 [] zLk' [] (by simpa using HM11.out.rs) rfl rfl rzlk_size zlk_one ?_
          intro wz hp
          have HRz : Hid (Bk wz z 44 zLk') := by show Bk _ _ _ _; have := hp.bk; simpa using this
          have HBz := Lib.hid (below_only HM11.out.hb hp.only (HM11.out.hb).size (Nat.le_of_eq HZ.out))
          clear hp
          go_wp2_with fail
          refine bodyPost_ret (rldec_ret rfl HRz.out _ rfl rfl) rfl ?_
          rw [HDE.out]
          exact ⟨none, 0, rfl, World.ownsRow_nil _ _ _ _, fun d hd => by simp [lk0] at hd, zero_ok, HBz.out⟩
      · have hji : ¬ ((j : Int) < m) := by omega
        have hjm : j = m := by omega
        subst hjm
        have HD4 : Hid (D = decRT v1 hd kj sj) := by
          show _ = _
          rw [HD3.out, HRK.out]
          exact if_pos HK0.out
        clear HD3 HRK HK0 HMM
        go_upto_region 16 with fail
        clear hw3 hji
        obtain ⟨A4, n4, c4, k4, hk4, hr4⟩ := HMr.out.rv
        obtain ⟨z0, z1, z2⟩ := rv_cells hk4
        obtain ⟨⟨s5, v5⟩, hR⟩ : ∃ R, numR sj 7 = R := ⟨_, rfl⟩
        have HR21 := Lib.hid hR
        have hnn := rRead_any wr w.heap.size HMr.out.hb.size _ sj hr4 7
        have hrg := lnum_rng hr4.ok (most := 7) (by decide)
        rw [hR] at hnn hrg
        have HN := Lib.hid hnn; have HG21 := Lib.hid hrg
        clear hk4 hr4 hnn hR hrg
        go_wp2_with fail
        clear z0 z1 z2
        refine HN.out.mono ?_
        rintro e wx ⟨v, rfl, hrv, hbn⟩
        obtain ⟨A5, n5, c5, k5, hv5⟩ := hrv.form
        subst hv5
        have HMx := Lib.hid (HMr.out.later hbn); have HRV := Lib.hid hrv
        clear hrv hbn HMr HN
        go_wp2_with (with_reducible refine stop_store 117 _ _ rfl ?_)
        refine StopD.go ?_
        obtain ⟨A6, n6, c6, k6, hk6, _⟩ := HMx.out.rv
        refine wpList_store_part rfl 117 _ _ rfl g4 0 (.agg (rvC A5 n5 c5 k5 (s5).err).toArray) (rvC A5 n5 c5 k5 (s5).err) rfl rfl rfl 117 [] (rvC A6 n6 c6 k6 (sj).err) [] (by simpa using hk6) rfl rfl rv_size (rv_one _ _ _ _ _) ?_
        intro w21 hp
        have HM21 := Lib.hid (HMx.out.putR (s' := s5) HRV.out (by simpa using hp))
        clear hp hk6 HMx HRV
        obtain ⟨A4, n4, c4, k4, hk4, hr4⟩ := HM21.out.rv
        obtain ⟨z0, z1, z2⟩ := rv_cells hk4
        obtain ⟨⟨s6, v6⟩, hR⟩ : ∃ R, numR s5 1125899906842624 = R := ⟨_, rfl⟩
        have HR22 := Lib.hid hR
        have hnn := rRead_any w21 w.heap.size HM21.out.hb.size _ s5 hr4 1125899906842624
        have hrg := lnum_rng hr4.ok (most := 1125899906842624) (by decide)
        rw [hR] at hnn hrg
        have HN := Lib.hid hnn; have HG22 := Lib.hid hrg
        clear hk4 hr4 hnn hR hrg
        go_wp2_with fail
        clear z0 z1 z2
        refine HN.out.mono ?_
        rintro e wx ⟨v, rfl, hrv, hbn⟩
        obtain ⟨A5, n5, c5, k5, hv5⟩ := hrv.form
        subst hv5
        have HMx := Lib.hid (HM21.out.later hbn); have HRV := Lib.hid hrv
        clear hrv hbn HM21 HN
        go_wp2_with (with_reducible refine stop_store 117 _ _ rfl ?_)
        refine StopD.go ?_
        obtain ⟨A6, n6, c6, k6, hk6, _⟩ := HMx.out.rv
        refine wpList_store_part rfl 117 _ _ rfl g4 0 (.agg (rvC A5 n5 c5 k5 (s6).err).toArray) (rvC A5 n5 c5 k5 (s6).err) rfl rfl rfl 117 [] (rvC A6 n6 c6 k6 (s5).err) [] (by simpa using hk6) rfl rfl rv_size (rv_one _ _ _ _ _) ?_
        intro w22 hp
        have HM22 := Lib.hid (HMx.out.putR (s' := s6) HRV.out (by simpa using hp))
        clear hp hk6 HMx HRV
        obtain ⟨A4, n4, c4, k4, hk4, hr4⟩ := HM22.out.rv
        obtain ⟨z0, z1, z2⟩ := rv_cells hk4
        obtain ⟨⟨s7, v7⟩, hR⟩ : ∃ R, numR s6 1099511627776 = R := ⟨_, rfl⟩
        have HR23 := Lib.hid hR
        have hnn := rRead_any w22 w.heap.size HM22.out.hb.size _ s6 hr4 1099511627776
        have hrg := lnum_rng hr4.ok (most := 1099511627776) (by decide)
        rw [hR] at hnn hrg
        have HN := Lib.hid hnn; have HG23 := Lib.hid hrg
        clear hk4 hr4 hnn hR hrg
        go_wp2_with fail
        clear z0 z1 z2
        refine HN.out.mono ?_
        rintro e wx ⟨v, rfl, hrv, hbn⟩
        obtain ⟨A5, n5, c5, k5, hv5⟩ := hrv.form
        subst hv5
        have HMx := Lib.hid (HM22.out.later hbn); have HRV := Lib.hid hrv
        clear hrv hbn HM22 HN
        go_wp2_with (with_reducible refine stop_store 117 _ _ rfl ?_)
        refine StopD.go ?_
        obtain ⟨A6, n6, c6, k6, hk6, _⟩ := HMx.out.rv
        refine wpList_store_part rfl 117 _ _ rfl g4 0 (.agg (rvC A5 n5 c5 k5 (s7).err).toArray) (rvC A5 n5 c5 k5 (s7).err) rfl rfl rfl 117 [] (rvC A6 n6 c6 k6 (s6).err) [] (by simpa using hk6) rfl rfl rv_size (rv_one _ _ _ _ _) ?_
        intro w23 hp
        have HM23 := Lib.hid (HMx.out.putR (s' := s7) HRV.out (by simpa using hp))
        clear hp hk6 HMx HRV
        have hv5 := HG21.out; have hv6 := HG22.out; have hv7 := HG23.out
        have hw5 : IntKind.i64.wrap v5 = v5 := IntWalk.i64_in _ (by omega)
        have hw6 : IntKind.i64.wrap v6 = v6 := IntWalk.i64_in _ (by omega)
        have hw7 : IntKind.i64.wrap v7 = v7 := IntWalk.i64_in _ (by omega)
        have HD5 : Hid (D = decE (endR s7) ⟨v1, hd, kj, v5, v6, v7⟩) := by
          show _ = _
          rw [HD4.out, decRT, HR21.out]
          show decE (endR (numR (numR s5 1125899906842624).1 1099511627776).1) ⟨v1, hd, kj, v5, (numR s5 1125899906842624).2, (numR (numR s5 1125899906842624).1 1099511627776).2⟩ = _
          rw [HR22.out]
          show decE (endR (numR s6 1099511627776).1) ⟨v1, hd, kj, v5, v6, (numR s6 1099511627776).2⟩ = _
          rw [HR23.out]
        clear HD4 HR21 HR22 HR23 hv5 hv6 hv7
        go_wp2_with (with_reducible refine stop_store 3 _ _ rfl ?_)
        refine StopD.go ?_
        refine wpList_store_part rfl 3 _ _ rfl g8 10 (.int .i64 v5) [.int .i64 v5] rfl rfl rfl 44 (.int .i64 v1 :: dl hd ++ [.slice P q pc]) [.int .i64 0] ([.int .i64 0, .int .i64 0]) (by have := HM23.out.lk; simpa [lkC] using this) (by simp [dl_len, HHO.out.len]) rfl (by kernel_rfl) (by intro x hx; simp at hx; subst hx; rfl) ?_
        intro w24 hp
        have HM24 := Lib.hid (HM23.out.putL (L' := ⟨v1, hd, [], v5, 0, 0⟩) (by simpa [lkC] using hp) rfl)
        clear hp HM23
        go_wp2_with (with_reducible refine stop_store 3 _ _ rfl ?_)
        refine StopD.go ?_
        refine wpList_store_part rfl 3 _ _ rfl g8 11 (.int .i64 v6) [.int .i64 v6] rfl rfl rfl 44 (.int .i64 v1 :: dl hd ++ [.slice P q pc, .int .i64 v5]) [.int .i64 0] ([.int .i64 0]) (by have := HM24.out.lk; simpa [lkC] using this) (by simp [dl_len, HHO.out.len]) rfl (by kernel_rfl) (by intro x hx; simp at hx; subst hx; rfl) ?_
        intro w25 hp
        have HM25 := Lib.hid (HM24.out.putL (L' := ⟨v1, hd, [], v5, v6, 0⟩) (by simpa [lkC] using hp) rfl)
        clear hp HM24
        go_wp2_with (with_reducible refine stop_store 3 _ _ rfl ?_)
        refine StopD.go ?_
        refine wpList_store_part rfl 3 _ _ rfl g8 12 (.int .i64 v7) [.int .i64 v7] rfl rfl rfl 44 (.int .i64 v1 :: dl hd ++ [.slice P q pc, .int .i64 v5, .int .i64 v6]) [.int .i64 0] ([]) (by have := HM25.out.lk; simpa [lkC] using this) (by simp [dl_len, HHO.out.len]) rfl (by kernel_rfl) (by intro x hx; simp at hx; subst hx; rfl) ?_
        intro w26 hp
        have HM26 := Lib.hid (HM25.out.putL (L' := ⟨v1, hd, [], v5, v6, v7⟩) (by simpa [lkC] using hp) rfl)
        clear hp HM25
        clear hw5 hw6 hw7
        obtain ⟨A4, n4, c4, k4, hk4, hr4⟩ := HM26.out.rv
        obtain ⟨z0, z1, z2⟩ := rv_cells hk4
        have hnn := rEnd_any w26 w.heap.size _ s7 hr4
        obtain ⟨x, hx⟩ : ∃ x, endR s7 = x := ⟨_, rfl⟩
        rw [hx] at hnn HD5
        have HN := Lib.hid hnn
        clear hk4 hr4 hnn hx
        go_wp2_with fail
        clear z0 z1 z2
        refine HN.out.mono ?_
        rintro e w27 ⟨rfl, hbn⟩
        have HM27 := Lib.hid (HM26.out.later hbn)
        clear hbn HM26 HN
        by_cases hx0 : x = 0
        · subst hx0
          have HD6 : Hid (D = if checkL v1 v5 v6 v7 kj.length = 0 then (⟨v1, hd, kj, v5, v6, v7⟩, 0) else (lk0, checkL v1 v5 v6 v7 kj.length)) := by show _ = _; rw [HD5.out, decE, if_pos rfl]
          have HSL : Hid ((Try.prog.info? 44).map (·.size) = some (lkC ⟨v1, hd, [], v5, v6, v7⟩ (.slice P q pc)).length) := rlk_sz (L := ⟨v1, hd, [], v5, v6, v7⟩) HHO.out _
          have hck := fun w' => rlcheck_any w' ⟨v1, hd, [], v5, v6, v7⟩ HHO.out P q pc
          rw [HQ.out] at HD6
          obtain ⟨y, hy⟩ : ∃ y, checkL v1 v5 v6 v7 q = y := ⟨_, rfl⟩
          rw [show checkL (⟨v1, hd, [], v5, v6, v7⟩ : LkT).k (⟨v1, hd, [], v5, v6, v7⟩ : LkT).s (⟨v1, hd, [], v5, v6, v7⟩ : LkT).c (⟨v1, hd, [], v5, v6, v7⟩ : LkT).u q = y from hy] at hck
          rw [hy] at HD6
          have HCK := Lib.hid hck
          clear hck hy HD5
          go_wp2_with (with_reducible refine wpList_load_bk rfl 44 _ rfl g8 rfl (lkC ⟨v1, hd, [], v5, v6, v7⟩ (.slice P q pc)) 44 HM27.out.lk _ Try.underlying44 rfl HSL.out ?_)
          refine (HCK.out w27).mono ?_
          rintro e w28 ⟨rfl, hbn⟩
          have HM28 := Lib.hid (HM27.out.later hbn)
          clear hbn HM27
          by_cases hy0 : y = 0
          · subst hy0
            have HDE : Hid (D = (⟨v1, hd, kj, v5, v6, v7⟩, 0)) := by show _ = _; rw [HD6.out, if_pos rfl]
            clear HD6
            go_wp2_with (first
              | (with_reducible refine wpList_load_bk rfl 44 _ rfl g8 rfl (lkC ⟨v1, hd, [], v5, v6, v7⟩ (.slice P q pc)) 44 HM28.out.lk _ Try.underlying44 rfl HSL.out ?_)
              | (with_reducible refine stop_store 44 _ _ rfl ?_))
            refine StopD.go ?_
            refine wpList_store_part rfl 44 _ _ rfl z 0 (.agg (lkC ⟨v1, hd, [], v5, v6, v7⟩ (.slice P q pc)).toArray) (lkC ⟨v1, hd, [], v5, v6, v7⟩ (.slice P q pc)) rfl rfl rfl 44 [] zLk' [] (by simpa using HM28.out.rs) rfl (by rw [lkC_len (L := ⟨v1, hd, [], v5, v6, v7⟩) HHO.out]; rfl) HSL.out (lk_one _ _ _ _) ?_
            intro wz hp
            have HRz : Hid (Bk wz z 44 (lkC ⟨v1, hd, [], v5, v6, v7⟩ (.slice P q pc))) := by show Bk _ _ _ _; have := hp.bk; simpa using this
            have HBz := Lib.hid (below_only HM28.out.hb hp.only HM28.out.hb.size (Nat.le_of_eq HZ.out))
            have HOz := Lib.hid (own_only HM28.out.ro hp.only (own_bk_ne HM28.out.ro HM28.out.rs (by decide)))
            have HKZ := Lib.hid HM28.out.ko
            clear hp
            go_wp2_with fail
            refine bodyPost_ret (rldec_ret (lkC_len (L := ⟨v1, hd, [], v5, v6, v7⟩) HHO.out _) HRz.out _ rfl rfl) rfl ?_
            rw [HDE.out]
            refine ⟨P, pc, ?_, ?_, HKZ.out, HHO.out, HBz.out⟩
            · show _ = Ending.returned (.tuple #[.agg (lkC ⟨v1, hd, kj, v5, v6, v7⟩ (.slice P kj.length pc)).toArray, .int .i64 0])
              rw [HQ.out]; rfl
            · have := HOz.out; rw [HQ.out] at this; show wz.ownsRow w.heap.size 22 8 (.slice P kj.length pc) kj.length (cellsD kj); rw [HQ.out]; exact this
          · have HDE : Hid (D = (lk0, y)) := by show _ = _; rw [HD6.out, if_neg hy0]
            have hyn : (y != 0) = true := by simpa using hy0
            clear HD6 hy0
            have hzl := rz_lk
            go_wp2_with (first
              | ((with_reducible refine wpList_build rfl 44 _ rfl #[] ?_ _ (hzl _) ?_); focus (simp [Act.eval, Act.put]; done))
              | (with_reducible refine stop_store 44 _ _ rfl ?_))
            clear hzl
            refine StopD.go ?_
            refine wpList_store_part rfl 44 _ _ rfl z 0 (.agg zLk'.toArray) zLk' rfl rfl rfl 44 [] zLk' [] (by simpa using HM28.out.rs) rfl rfl rzlk_size zlk_one ?_
            intro wz hp
            have HRz : Hid (Bk wz z 44 zLk') := by show Bk _ _ _ _; have := hp.bk; simpa using this
            have HBz := Lib.hid (below_only HM28.out.hb hp.only (HM28.out.hb).size (Nat.le_of_eq HZ.out))
            clear hp
            go_wp2_with fail
            refine bodyPost_ret (rldec_ret rfl HRz.out _ rfl rfl) rfl ?_
            rw [HDE.out]
            exact ⟨none, 0, rfl, World.ownsRow_nil _ _ _ _, fun d hd => by simp [lk0] at hd, zero_ok, HBz.out⟩
        · have HDE : Hid (D = (lk0, x)) := by show _ = _; rw [HD5.out, decE, if_neg hx0]
          have hxn : (x != 0) = true := by simpa using hx0
          clear HD5 hx0
          have hzl := rz_lk
          go_wp2_with (first
            | ((with_reducible refine wpList_build rfl 44 _ rfl #[] ?_ _ (hzl _) ?_); focus (simp [Act.eval, Act.put]; done))
            | (with_reducible refine stop_store 44 _ _ rfl ?_))
          clear hzl
          refine StopD.go ?_
          refine wpList_store_part rfl 44 _ _ rfl z 0 (.agg zLk'.toArray) zLk' rfl rfl rfl 44 [] zLk' [] (by simpa using HM27.out.rs) rfl rfl rzlk_size zlk_one ?_
          intro wz hp
          have HRz : Hid (Bk wz z 44 zLk') := by show Bk _ _ _ _; have := hp.bk; simpa using this
          have HBz := Lib.hid (below_only HM27.out.hb hp.only (HM27.out.hb).size (Nat.le_of_eq HZ.out))
          clear hp
          go_wp2_with fail
          refine bodyPost_ret (rldec_ret rfl HRz.out _ rfl rfl) rfl ?_
          rw [HDE.out]
          exact ⟨none, 0, rfl, World.ownsRow_nil _ _ _ _, fun d hd => by simp [lk0] at hd, zero_ok, HBz.out⟩
  · have HDE : Hid (D = (lk0, x2)) := by show _ = _; rw [HD1.out, if_neg hx]
    have hxn : (x2 != 0) = true := by simpa using hx
    clear HD1 hx
    have hzl := rz_lk
    go_wp2_with (first
      | ((with_reducible refine wpList_build rfl 44 _ rfl #[] ?_ _ (hzl _) ?_); focus (simp [Act.eval, Act.put]; done))
      | (with_reducible refine stop_store 44 _ _ rfl ?_))
    clear hzl
    refine StopD.go ?_
    refine wpList_store_part rfl 44 _ _ rfl z 0 (.agg zLk'.toArray) zLk' rfl rfl rfl 44 [] zLk' [] (by simpa using HM7.out.rs) rfl rfl rzlk_size zlk_one ?_
    intro wz hp
    have HRz : Hid (Bk wz z 44 zLk') := by show Bk _ _ _ _; have := hp.bk; simpa using this
    have HBz := Lib.hid (below_only HM7.out.hb hp.only (HM7.out.hb).size (Nat.le_of_eq HZ.out))
    clear hp
    go_wp2_with fail
    refine bodyPost_ret (rldec_ret rfl HRz.out _ rfl rfl) rfl ?_
    rw [HDE.out]
    exact ⟨none, 0, rfl, World.ownsRow_nil _ _ _ _, fun d hd => by simp [lk0] at hd, zero_ok, HBz.out⟩
end Go.Proofs.Ytbclfjdamklbpaa
