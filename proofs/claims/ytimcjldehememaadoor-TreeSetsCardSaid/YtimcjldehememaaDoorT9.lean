/- Roots beside paths: the document's. -/
import Derived.Test.YtimcjldehememaaDoorT8
namespace Go.Proofs.YtimcjldehememaaDoor
open Go.RowKit

set_option maxRecDepth 20000 in
set_option maxHeartbeats 1000000 in
theorem rWith_any (w : World) (i : Int) (leaf : List Int) (hd : DgOk leaf) (A : Option Addr) (n c : Nat) (ls : List (List Int)) (ho : DsOk ls) (hs : Sl w w.heap.size 8 A n (cellsD ls)) :
    Calls Tryd.prog 22 #[.int .i64 i, .agg (dgA leaf), .slice A n c] w fun e w' => e = .returned (.tuple #[.agg (dgA (withI i leaf ls)), .bool (withB i n)]) ∧ Below w.heap.size w w' := by
  have hn := hs.le
  have hlen := hs.dgs ho
  obtain ⟨w1, hw1⟩ : ∃ w1, (w.alloc (.cells (dgA leaf) 25)).alloc (.cells (dgA zeroD) 25) = w1 := ⟨_, rfl⟩
  have kd : DgAt w1 w.heap.size 25 leaf := hw1 ▸ Bk.alloc (dg_new w _ _) _
  have kz : DgAt w1 (w.heap.size + 1) 25 zeroD := hw1 ▸ Bk.at_ _ _ _ (by simp) (dgA_list _)
  have hb1 : Below w.heap.size w w1 := hw1 ▸ (below_new w _).alloc (by simp) _
  have HKZ := Lib.hid kz; have HB1 := Lib.hid hb1; have HW := Lib.hid hw1; have HS := Lib.hid hs; have HL := Lib.hid hlen; have HDO := Lib.hid ho; have HD := Lib.hid hd
  have HC1 := Lib.hid kd.heap
  have HID := rdg_info leaf hd
  clear kd kz hb1 hw1 hs hlen ho hd
  have HIZ := rdg_info zeroD zeroD_ok
  have HOZ := Lib.hid (dgA_one zeroD)
  by_cases h12 : 12 < n
  · have h12' : (12 : Int) < n := by omega
    have HBF := Lib.hid (show withB i n = false by rw [withB]; simp; omega)
    have HWF := Lib.hid (show withI i leaf ls = zeroD by rw [withI, HL.out, HBF.out]; rfl)
    go_enter Tryd.func22, Tryd.ntmps22
    go_upto_region 1 with fail
    rw [zero8, show List.replicate 8 (0 : Int) = zeroD from rfl, HW.out]
    go_wp2_with (refine wpList_store_row rfl 25 _ _ rfl (w.heap.size + 1) (dgA zeroD) rfl rfl 25 (dgA zeroD) HKZ.out.heap HIZ.out rfl HOZ.out ?_)
    refine bodyPost_ret (results_row_tmp (p := 6) (u := 7) (ty := 25) rfl _ _ (w.heap.size + 1) 25 (dgA zeroD) (0, 0) _ rfl (setRow_heap _ _ _ _ _ _ HKZ.out.heap) Tryd.underlying25 rfl HIZ.out) rfl ?_
    rw [HBF.out, HWF.out]
    exact ⟨rfl, below_setRow HB1.out (by omega) _⟩
  have h12' : decide ((12 : Int) < n) = false := by simp; omega
  by_cases h0 : i < 0
  · skip
    have HBF := Lib.hid (show withB i n = false by rw [withB]; simp; omega)
    have HWF := Lib.hid (show withI i leaf ls = zeroD by rw [withI, HL.out, HBF.out]; rfl)
    go_enter Tryd.func22, Tryd.ntmps22
    go_upto_region 1 with fail
    rw [zero8, show List.replicate 8 (0 : Int) = zeroD from rfl, HW.out]
    go_wp2_with (refine wpList_store_row rfl 25 _ _ rfl (w.heap.size + 1) (dgA zeroD) rfl rfl 25 (dgA zeroD) HKZ.out.heap HIZ.out rfl HOZ.out ?_)
    refine bodyPost_ret (results_row_tmp (p := 6) (u := 7) (ty := 25) rfl _ _ (w.heap.size + 1) 25 (dgA zeroD) (0, 0) _ rfl (setRow_heap _ _ _ _ _ _ HKZ.out.heap) Tryd.underlying25 rfl HIZ.out) rfl ?_
    rw [HBF.out, HWF.out]
    exact ⟨rfl, below_setRow HB1.out (by omega) _⟩
  have h0' : decide (i < 0) = false := by simp; omega
  have HPW := Lib.hid (fun w => power_any n (by omega) w)
  have hpl := (shl_num n (by omega)).2
  obtain ⟨p2, hp2⟩ : ∃ p2, 2 ^ n = p2 := ⟨_, rfl⟩
  rw [hp2] at hpl HPW
  by_cases h2 : (p2 : Int) ≤ i
  · skip
    have HBF := Lib.hid (show withB i n = false by rw [withB, hp2]; simp; omega)
    have HWF := Lib.hid (show withI i leaf ls = zeroD by rw [withI, HL.out, HBF.out]; rfl)
    go_enter Tryd.func22, Tryd.ntmps22
    go_upto_region 1 with fail
    rw [zero8, show List.replicate 8 (0 : Int) = zeroD from rfl, HW.out]
    go_wp2_with (first
      | (go_at_call 38; refine (HPW.out _).mono ?_; rintro e w2 ⟨rfl, rfl⟩)
      | (refine wpList_store_row rfl 25 _ _ rfl (w.heap.size + 1) (dgA zeroD) rfl rfl 25 (dgA zeroD) HKZ.out.heap HIZ.out rfl HOZ.out ?_))
    refine bodyPost_ret (results_row_tmp (p := 6) (u := 7) (ty := 25) rfl _ _ (w.heap.size + 1) 25 (dgA zeroD) (0, 0) _ rfl (setRow_heap _ _ _ _ _ _ HKZ.out.heap) Tryd.underlying25 rfl HIZ.out) rfl ?_
    rw [HBF.out, HWF.out]
    exact ⟨rfl, below_setRow HB1.out (by omega) _⟩
  have h2' : decide ((p2 : Int) ≤ i) = false := by simp; omega
  obtain ⟨i0, rfl⟩ : ∃ i0 : Nat, i = i0 := ⟨i.toNat, by omega⟩
  have HBF := Lib.hid (show withB i0 n = true by rw [withB, hp2]; simp; omega)
  obtain ⟨R, hR⟩ : ∃ R, upI i0 (lowI leaf) ls = R := ⟨_, rfl⟩
  have HWF := Lib.hid (show withI i0 leaf ls = topI R n by rw [withI, HL.out, HBF.out, if_pos rfl, Int.toNat_natCast, hR])
  have HR := Lib.hid hR
  have hi0 : i0 ≤ 4096 := by omega
  clear hR hp2
  go_enter Tryd.func22, Tryd.ntmps22
  go_upto_region 1 with fail
  rw [zero8, show List.replicate 8 (0 : Int) = zeroD from rfl, HW.out]
  go_wp2_with (first
    | (go_at_call 38; refine (HPW.out _).mono ?_; rintro e w2 ⟨rfl, rfl⟩)
    | (refine wpList_load_row rfl 25 _ rfl w.heap.size rfl 25 (dgA leaf) (0, 0) _ HC1.out Tryd.underlying25 rfl HID.out ?_))
  refine (rlow_any _ leaf HD.out).mono ?_
  rintro e w2 ⟨rfl, hb2⟩
  have HB2 := Lib.hid (HB1.out.trans (hb2.mono HB1.out.size))
  have HZ2 := Lib.hid (HKZ.out.later hb2)
  have HIL := rdg_info (lowI leaf) (lowI_ok leaf)
  have HOL := Lib.hid (dgA_one (lowI leaf))
  have hgl : w.heap.size + 1 < w2.heap.size := Bk.lt HZ2.out
  have HSL : Hid ((dgA zeroD).size = (dgA (lowI leaf)).size) := by show _ = _; rw [dgA_size, dgA_size, (lowI_ok leaf).len]; rfl
  clear hb2
  go_wp2_with (refine wpList_store_row rfl 25 _ _ rfl w2.heap.size (dgA (lowI leaf)) rfl rfl 25 (dgA zeroD) (dg_new w2 _ zeroD).heap HIL.out HSL.out HOL.out ?_)
  have s1 : DgAt ((w2.alloc (.cells (dgA zeroD) 25)).setRow w2.heap.size (dgA (lowI leaf))) w2.heap.size 25 (lowI leaf) := DgAt.row (dg_new w2 _ zeroD) (lowI leaf)
  have s2 : DgAt ((w2.alloc (.cells (dgA zeroD) 25)).setRow w2.heap.size (dgA (lowI leaf))) (w.heap.size + 1) 25 zeroD := Bk.rowFar (Bk.alloc HZ2.out _) (by omega) _
  have s3 : Below w.heap.size w ((w2.alloc (.cells (dgA zeroD) 25)).setRow w2.heap.size (dgA (lowI leaf))) := below_setRow (HB2.out.alloc HB2.out.size _) (by omega) _
  have S1 := Lib.hid s1; have S2 := Lib.hid s2; have S3 := Lib.hid s3
  clear s1 s2 s3
  obtain ⟨g, hg⟩ : ∃ g, w2.heap.size = g := ⟨_, rfl⟩
  rw [hg] at S1 S2 S3 hgl ⊢
  clear HB2 HZ2 hg HIL HOL HSL HC1 HKZ HB1 HID
  go_loopw [9, 10] (fun is js wr => ∃ (j k : Nat) (d : List Int), j ≤ n ∧ is = .int .i64 k ∧ js = .int .i64 j ∧ k ≤ 4096 ∧ Hid (DgOk d) ∧ Hid (upI k d (ls.drop j) = R) ∧ Hid (DgAt wr g 25 d) ∧ Hid (DgAt wr (w.heap.size + 1) 25 zeroD) ∧ Hid (Below w.heap.size w wr)) (fun _ js _ => n - (intOf js).toNat)
  case atStart => exact ⟨0, i0, lowI leaf, by omega, rfl, rfl, hi0, lowI_ok leaf, HR.out, S1.out, S2.out, S3.out⟩
  case round =>
    obtain ⟨j, k, d, hj, rfl, rfl, hk, HDK, HUP, HG, HZ, HB⟩ := hrel
    have hgw : g < wr.heap.size := Bk.lt HG.out
    clear S1 S2 S3
    obtain ⟨a0, a1, a2, a3, a4, a5, a6, a7, rfl⟩ := list8 d HDK.out.len
    obtain ⟨c0, c1, c2, c3, c4, c5, c6, c7⟩ := cells8 HG.out
    by_cases hlt : j < n
    · obtain ⟨b, o, rfl, hbb, _⟩ := HS.out.spot (by omega) (by omega)
      obtain ⟨x, hx⟩ : ∃ x, ls[j]? = some x := ⟨ls[j]'(by rw [HL.out]; exact hlt), List.getElem?_eq_getElem _⟩
      have hxo := HDO.out x (List.mem_of_getElem? hx)
      have hr := sl_dg (HS.out.below HB.out) HDO.out hx
      have hup := HUP.out
      rw [drop_cons hx, upI] at hup
      obtain ⟨b0, b1, b2, b3, b4, b5, b6, b7, rfl⟩ := list8 x hxo.len
      obtain ⟨e0, e1, e2, e3, e4, e5, e6, e7⟩ := range8 hr
      have HUP2 := Lib.hid hup
      have HX := Lib.hid hxo
      obtain ⟨q, hq⟩ : ∃ q, k / 2 = q := ⟨_, rfl⟩
      have hdv : (k : Int) / 2 = (q : Int) := by omega
      have hq4 : q ≤ 4096 := by omega
      rw [hq] at HUP2
      have hj1 : (j : Int) < n := by omega
      have hj0 : (0 : Int) ≤ j := by omega
      clear hx hxo hr hup hq
      by_cases hpar : k % 2 = 0
      · have hm : (k : Int) % 2 = 0 := by omega
        have HST := Lib.hid (show stepW k [a0, a1, a2, a3, a4, a5, a6, a7] [b0, b1, b2, b3, b4, b5, b6, b7] = twoI [a0, a1, a2, a3, a4, a5, a6, a7] [b0, b1, b2, b3, b4, b5, b6, b7] by rw [stepW, if_pos hpar])
        go_wp2_with fail
        go_region_law (go_simp; go_at_call 40; refine (rtwo8 _ [a0, a1, a2, a3, a4, a5, a6, a7] [b0, b1, b2, b3, b4, b5, b6, b7] HDK.out HX.out).mono ?_; rintro e w5 ⟨o0, o1, o2, o3, o4, o5, o6, o7, rfl, ho, hb5⟩; have E5 : Hid (Below wr.heap.size wr w5) := ((below_draws wr _ 1).trans hb5); clear hb5; obtain ⟨z0, z1, z2, z3, z4, z5, z6, z7⟩ := cells8 (HG.out.later E5.out); have zf := Bk.frozen (HG.out.later E5.out); have zl := Bk.lt (HG.out.later E5.out))
        all_goals
          have G8 := Lib.hid (Bk.put8 (HG.out.later E5.out) rfl o0 o1 o2 o3 o4 o5 o6 o7)
          have Z8 := Lib.hid (show DgAt _ (w.heap.size + 1) _ _ from Bk.grown HZ.out (only_put8 (only_below (only_refl wr g) E5.out) o0 o1 o2 o3 o4 o5 o6 o7) (by simp; omega))
          have B8 := Lib.hid (below_put8 (B := w.heap.size) (g := g) (HB.out.trans (E5.out.mono HB.out.size)) (by omega) o0 o1 o2 o3 o4 o5 o6 o7)
          clear z0 z1 z2 z3 z4 z5 z6 z7 zf zl c0 c1 c2 c3 c4 c5 c6 c7 e0 e1 e2 e3 e4 e5 e6 e7
          go_wp2_with fail
          go_roundw
          case rel => exact ⟨j + 1, q, [o0, o1, o2, o3, o4, o5, o6, o7], by omega, rfl, by go_num, hq4, by show DgOk _; rw [← ho.out]; exact twoI_ok _ _, by show _ = _; rw [← ho.out, ← HST.out]; exact HUP2.out, G8.out, Z8.out, B8.out⟩
          case measure => simp [intOf]; omega
      · have hm : (k : Int) % 2 = 1 := by omega
        have HST := Lib.hid (show stepW k [a0, a1, a2, a3, a4, a5, a6, a7] [b0, b1, b2, b3, b4, b5, b6, b7] = twoI [b0, b1, b2, b3, b4, b5, b6, b7] [a0, a1, a2, a3, a4, a5, a6, a7] by rw [stepW, if_neg hpar])
        go_wp2_with fail
        go_region_law (go_simp; go_at_call 40; refine (rtwo8 _ [b0, b1, b2, b3, b4, b5, b6, b7] [a0, a1, a2, a3, a4, a5, a6, a7] HX.out HDK.out).mono ?_; rintro e w5 ⟨o0, o1, o2, o3, o4, o5, o6, o7, rfl, ho, hb5⟩; have E5 : Hid (Below wr.heap.size wr w5) := ((below_draws wr _ 1).trans hb5); clear hb5; obtain ⟨z0, z1, z2, z3, z4, z5, z6, z7⟩ := cells8 (HG.out.later E5.out); have zf := Bk.frozen (HG.out.later E5.out); have zl := Bk.lt (HG.out.later E5.out))
        all_goals
          have G8 := Lib.hid (Bk.put8 (HG.out.later E5.out) rfl o0 o1 o2 o3 o4 o5 o6 o7)
          have Z8 := Lib.hid (show DgAt _ (w.heap.size + 1) _ _ from Bk.grown HZ.out (only_put8 (only_below (only_refl wr g) E5.out) o0 o1 o2 o3 o4 o5 o6 o7) (by simp; omega))
          have B8 := Lib.hid (below_put8 (B := w.heap.size) (g := g) (HB.out.trans (E5.out.mono HB.out.size)) (by omega) o0 o1 o2 o3 o4 o5 o6 o7)
          clear z0 z1 z2 z3 z4 z5 z6 z7 zf zl c0 c1 c2 c3 c4 c5 c6 c7 e0 e1 e2 e3 e4 e5 e6 e7
          go_wp2_with fail
          go_roundw
          case rel => exact ⟨j + 1, q, [o0, o1, o2, o3, o4, o5, o6, o7], by omega, rfl, by go_num, hq4, by show DgOk _; rw [← ho.out]; exact twoI_ok _ _, by show _ = _; rw [← ho.out, ← HST.out]; exact HUP2.out, G8.out, Z8.out, B8.out⟩
          case measure => simp [intOf]; omega
    · obtain rfl : j = n := by omega
      have hup := HUP.out
      rw [List.drop_eq_nil_of_le (by rw [HL.out]; omega), upI] at hup
      have HUR := Lib.hid hup
      have hS := cells8 HG.out
      have hj12 : j ≤ 12 := by omega
      clear hup c0 c1 c2 c3 c4 c5 c6 c7
      go_wp2_with fail
      go_region_held3 (fun w' => w'.cell? ⟨g, 0, none⟩ = some (.int .u8 a0) ∧ w'.cell? ⟨g, 1, none⟩ = some (.int .u8 a1) ∧ w'.cell? ⟨g, 2, none⟩ = some (.int .u8 a2) ∧ w'.cell? ⟨g, 3, none⟩ = some (.int .u8 a3) ∧ w'.cell? ⟨g, 4, none⟩ = some (.int .u8 a4) ∧ w'.cell? ⟨g, 5, none⟩ = some (.int .u8 a5) ∧ w'.cell? ⟨g, 6, none⟩ = some (.int .u8 a6) ∧ w'.cell? ⟨g, 7, none⟩ = some (.int .u8 a7)) (first | (with_reducible exact hS3) | (with_reducible exact hS2) | (with_reducible exact hS1) | (with_reducible exact hS) | go_keep)
        (first
          | (go_at_call 34; refine (name_any (j : Int) (by omega) (by omega) _).mono ?_; rintro e w5 ⟨rfl, hb5⟩; have E5 : Hid (Below wr.heap.size wr w5) := ((below_draws wr _ 1).trans hb5); have hS1 := cells8 (HG.out.later E5.out); clear hb5)
          | (go_at_call 32; refine (rword8 _ [a0, a1, a2, a3, a4, a5, a6, a7] HDK.out (rootS j) (by have := root_size j; omega)).mono ?_; rintro e w6 ⟨o0, o1, o2, o3, o4, o5, o6, o7, rfl, ho, hb6⟩; have E6 : Hid (Below wr.heap.size wr w6) := E5.out.trans (hb6.mono E5.out.size); have hS2 := cells8 (HG.out.later E6.out); obtain ⟨⟨z0, z1, z2, z3, z4, z5, z6, z7⟩, zf, zl⟩ := zeros8 (HZ.out.later E6.out); have hS3 := cells8 (show DgAt _ g _ _ from Bk.grown HG.out (only_put8 (only_below (only_refl wr (w.heap.size + 1)) E6.out) o0 o1 o2 o3 o4 o5 o6 o7) (by simp; omega)); clear hb6))
      have HZ8 := Lib.hid (Bk.put8 (HZ.out.later E6.out) rfl o0 o1 o2 o3 o4 o5 o6 o7)
      have HBL := Lib.hid (below_put8 (B := w.heap.size) (g := w.heap.size + 1) (HB.out.trans (E6.out.mono HB.out.size)) (by omega) o0 o1 o2 o3 o4 o5 o6 o7)
      have HI := rdg_info [o0, o1, o2, o3, o4, o5, o6, o7] ⟨rfl, by rw [← ho.out]; exact (wordI_ok _ _).byt⟩
      clear z0 z1 z2 z3 z4 z5 z6 z7 zf zl hS hS1 hS2 hS3
      go_wp2_with fail
      refine bodyPost_ret (results_row_tmp (p := 6) (u := 7) (ty := 25) rfl _ _ (w.heap.size + 1) 25 (dgA [o0, o1, o2, o3, o4, o5, o6, o7]) (0, 0) _ rfl HZ8.out.heap Tryd.underlying25 rfl HI.out) rfl ?_
      rw [HBF.out, HWF.out, topI, ← ho.out, HUR.out]
      exact ⟨rfl, HBL.out⟩
end Go.Proofs.YtimcjldehememaaDoor
