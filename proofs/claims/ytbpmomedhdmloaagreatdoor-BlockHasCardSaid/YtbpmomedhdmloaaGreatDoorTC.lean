/- Roots beside paths: the document's. Roots and paths: the document's. -/
import Derived.Test.YtbpmomedhdmloaaGreatDoorTB
/-! Roots beside paths: the document's. -/
namespace Go.Proofs.YtbpmomedhdmloaaGreatDoor
open Go.RowKit

set_option maxRecDepth 20000 in
set_option maxHeartbeats 1000000 in
theorem rWith_any (w : World) (i : Int) (leaf : List Int) (hd : DgOk leaf) (A : Option Addr) (n c : Nat) (ls : List (List Int)) (ho : DsOk ls) (hs : Sl w w.heap.size 8 A n (cellsD ls)) :
    Calls Tryz.prog 55 #[.int .i64 i, .agg (dgA leaf), .slice A n c] w fun e w' => e = .returned (.tuple #[.agg (dgA (withI i leaf ls)), .bool (withB i n)]) ∧ Below w.heap.size w w' := by
  have hn := hs.le
  have hlen := hs.dgs ho
  obtain ⟨w1, hw1⟩ : ∃ w1, (w.alloc (.cells (dgA leaf) 22)).alloc (.cells (dgA zeroD) 22) = w1 := ⟨_, rfl⟩
  have kd : DgAt w1 w.heap.size 22 leaf := hw1 ▸ Bk.alloc (dg_new w _ _) _
  have kz : DgAt w1 (w.heap.size + 1) 22 zeroD := hw1 ▸ Bk.at_ _ _ _ (by simp) (dgA_list _)
  have hb1 : Below w.heap.size w w1 := hw1 ▸ (below_new w _).alloc (by simp) _
  have HKZ := Lib.hid kz; have HB1 := Lib.hid hb1; have HW := Lib.hid hw1; have HS := Lib.hid hs; have HL := Lib.hid hlen; have HDO := Lib.hid ho; have HD := Lib.hid hd
  have HC1 := Lib.hid kd.heap
  have HID := rdg_info leaf hd
  clear kd kz hb1 hw1 hs hlen ho hd
  have HIZ := rdg_info zeroD zeroD_ok
  have HOZ := Lib.hid (dgA_one zeroD)
  by_cases h12 : 12 < n
  · have h12' : (12 : Int) < n := by omega
    have HBF := Lib.hid (show withB i n = false by rw [withB]; simp; omega)
    have HWF := Lib.hid (show withI i leaf ls = zeroD by rw [withI, HL.out, HBF.out]; rfl)
    go_enter Tryz.func55, Tryz.ntmps55
    go_upto_region 1 with fail
    rw [zero8, show List.replicate 8 (0 : Int) = zeroD from rfl, HW.out]
    go_wp2_with (refine wpList_store_row rfl 22 _ _ rfl (w.heap.size + 1) (dgA zeroD) rfl rfl 22 (dgA zeroD) HKZ.out.heap HIZ.out rfl HOZ.out ?_)
    refine bodyPost_ret (results_row_tmp (p := 6) (u := 7) (ty := 22) rfl _ _ (w.heap.size + 1) 22 (dgA zeroD) (0, 0) _ rfl (setRow_heap _ _ _ _ _ _ HKZ.out.heap) Tryz.underlying22 rfl HIZ.out) rfl ?_
    rw [HBF.out, HWF.out]
    exact ⟨rfl, below_setRow HB1.out (by omega) _⟩
  have h12' : decide ((12 : Int) < n) = false := by simp; omega
  by_cases h0 : i < 0
  · skip
    have HBF := Lib.hid (show withB i n = false by rw [withB]; simp; omega)
    have HWF := Lib.hid (show withI i leaf ls = zeroD by rw [withI, HL.out, HBF.out]; rfl)
    go_enter Tryz.func55, Tryz.ntmps55
    go_upto_region 1 with fail
    rw [zero8, show List.replicate 8 (0 : Int) = zeroD from rfl, HW.out]
    go_wp2_with (refine wpList_store_row rfl 22 _ _ rfl (w.heap.size + 1) (dgA zeroD) rfl rfl 22 (dgA zeroD) HKZ.out.heap HIZ.out rfl HOZ.out ?_)
    refine bodyPost_ret (results_row_tmp (p := 6) (u := 7) (ty := 22) rfl _ _ (w.heap.size + 1) 22 (dgA zeroD) (0, 0) _ rfl (setRow_heap _ _ _ _ _ _ HKZ.out.heap) Tryz.underlying22 rfl HIZ.out) rfl ?_
    rw [HBF.out, HWF.out]
    exact ⟨rfl, below_setRow HB1.out (by omega) _⟩
  have h0' : decide (i < 0) = false := by simp; omega
  have HPW := Lib.hid (fun w => power_any n (by omega) w)
  have hpl := (shl_num n (by omega)).2
  obtain ⟨p2, hp2⟩ : ∃ p2, 2 ^ n = p2 := ⟨_, rfl⟩
  rw [hp2] at hpl HPW
  by_cases h2 : (p2 : Int) ≤ i
  · skip
    have HBF := Lib.hid (show withB i n = false by rw [withB, hp2]; simp; omega)
    have HWF := Lib.hid (show withI i leaf ls = zeroD by rw [withI, HL.out, HBF.out]; rfl)
    go_enter Tryz.func55, Tryz.ntmps55
    go_upto_region 1 with fail
    rw [zero8, show List.replicate 8 (0 : Int) = zeroD from rfl, HW.out]
    go_wp2_with (first
      | (go_at_call 96; refine (HPW.out _).mono ?_; rintro e w2 ⟨rfl, rfl⟩)
      | (refine wpList_store_row rfl 22 _ _ rfl (w.heap.size + 1) (dgA zeroD) rfl rfl 22 (dgA zeroD) HKZ.out.heap HIZ.out rfl HOZ.out ?_))
    refine bodyPost_ret (results_row_tmp (p := 6) (u := 7) (ty := 22) rfl _ _ (w.heap.size + 1) 22 (dgA zeroD) (0, 0) _ rfl (setRow_heap _ _ _ _ _ _ HKZ.out.heap) Tryz.underlying22 rfl HIZ.out) rfl ?_
    rw [HBF.out, HWF.out]
    exact ⟨rfl, below_setRow HB1.out (by omega) _⟩
  have h2' : decide ((p2 : Int) ≤ i) = false := by simp; omega
  obtain ⟨i0, rfl⟩ : ∃ i0 : Nat, i = i0 := ⟨i.toNat, by omega⟩
  have HBF := Lib.hid (show withB i0 n = true by rw [withB, hp2]; simp; omega)
  obtain ⟨R, hR⟩ : ∃ R, upI i0 (lowI leaf) ls = R := ⟨_, rfl⟩
  have HWF := Lib.hid (show withI i0 leaf ls = topI R n by rw [withI, HL.out, HBF.out, if_pos rfl, Int.toNat_natCast, hR])
  have HR := Lib.hid hR
  have hi0 : i0 ≤ 4096 := by omega
  clear hR hp2
  go_enter Tryz.func55, Tryz.ntmps55
  go_upto_region 1 with fail
  rw [zero8, show List.replicate 8 (0 : Int) = zeroD from rfl, HW.out]
  go_wp2_with (first
    | (go_at_call 96; refine (HPW.out _).mono ?_; rintro e w2 ⟨rfl, rfl⟩)
    | (refine wpList_load_row rfl 22 _ rfl w.heap.size rfl 22 (dgA leaf) (0, 0) _ HC1.out Tryz.underlying22 rfl HID.out ?_))
  refine (rlow_any _ leaf HD.out).mono ?_
  rintro e w2 ⟨rfl, hb2⟩
  have HB2 := Lib.hid (HB1.out.trans (hb2.mono HB1.out.size))
  have HZ2 := Lib.hid (HKZ.out.later hb2)
  have HIL := rdg_info (lowI leaf) (lowI_ok leaf)
  have HOL := Lib.hid (dgA_one (lowI leaf))
  have hgl : w.heap.size + 1 < w2.heap.size := Bk.lt HZ2.out
  have HSL : Hid ((dgA zeroD).size = (dgA (lowI leaf)).size) := by show _ = _; rw [dgA_size, dgA_size, (lowI_ok leaf).len]; rfl
  clear hb2
  go_wp2_with (refine wpList_store_row rfl 22 _ _ rfl w2.heap.size (dgA (lowI leaf)) rfl rfl 22 (dgA zeroD) (dg_new w2 _ zeroD).heap HIL.out HSL.out HOL.out ?_)
  have s1 : DgAt ((w2.alloc (.cells (dgA zeroD) 22)).setRow w2.heap.size (dgA (lowI leaf))) w2.heap.size 22 (lowI leaf) := DgAt.row (dg_new w2 _ zeroD) (lowI leaf)
  have s2 : DgAt ((w2.alloc (.cells (dgA zeroD) 22)).setRow w2.heap.size (dgA (lowI leaf))) (w.heap.size + 1) 22 zeroD := Bk.rowFar (Bk.alloc HZ2.out _) (by omega) _
  have s3 : Below w.heap.size w ((w2.alloc (.cells (dgA zeroD) 22)).setRow w2.heap.size (dgA (lowI leaf))) := below_setRow (HB2.out.alloc HB2.out.size _) (by omega) _
  have S1 := Lib.hid s1; have S2 := Lib.hid s2; have S3 := Lib.hid s3
  clear s1 s2 s3
  obtain ⟨g, hg⟩ : ∃ g, w2.heap.size = g := ⟨_, rfl⟩
  rw [hg] at S1 S2 S3 hgl ⊢
  clear HB2 HZ2 hg HIL HOL HSL HC1 HKZ HB1 HID
  go_loopw [9, 10] (fun is js wr => ∃ (j k : Nat) (d : List Int), j ≤ n ∧ is = .int .i64 k ∧ js = .int .i64 j ∧ k ≤ 4096 ∧ Hid (DgOk d) ∧ Hid (upI k d (ls.drop j) = R) ∧ Hid (DgAt wr g 22 d) ∧ Hid (DgAt wr (w.heap.size + 1) 22 zeroD) ∧ Hid (Below w.heap.size w wr)) (fun _ js _ => n - (intOf js).toNat)
  case atStart => exact ⟨0, i0, lowI leaf, by omega, rfl, rfl, hi0, lowI_ok leaf, HR.out, S1.out, S2.out, S3.out⟩
  case round =>
    obtain ⟨j, k, d, hj, rfl, rfl, hk, HDK, HUP, HG, HZ, HB⟩ := hrel
    have hgw : g < wr.heap.size := Bk.lt HG.out
    clear S1 S2 S3
    obtain ⟨a0, a1, a2, a3, a4, a5, a6, a7, rfl⟩ := list8 d HDK.out.len
    obtain ⟨c0, c1, c2, c3, c4, c5, c6, c7⟩ := cells8 HG.out
    by_cases hlt : j < n
    · obtain ⟨b, o, rfl, hbb, _⟩ := HS.out.spot (by omega) (by omega)
      obtain ⟨x, hx⟩ : ∃ x, ls[j]? = some x := ⟨ls[j]'(by rw [HL.out]; exact hlt), List.getElem?_eq_getElem _⟩
      have hxo := HDO.out x (List.mem_of_getElem? hx)
      have hr := sl_dg (HS.out.below HB.out) HDO.out hx
      have hup := HUP.out
      rw [drop_cons hx, upI] at hup
      obtain ⟨b0, b1, b2, b3, b4, b5, b6, b7, rfl⟩ := list8 x hxo.len
      obtain ⟨e0, e1, e2, e3, e4, e5, e6, e7⟩ := range8 hr
      have HUP2 := Lib.hid hup
      have HX := Lib.hid hxo
      obtain ⟨q, hq⟩ : ∃ q, k / 2 = q := ⟨_, rfl⟩
      have hdv : (k : Int) / 2 = (q : Int) := by omega
      have hq4 : q ≤ 4096 := by omega
      rw [hq] at HUP2
      have hj1 : (j : Int) < n := by omega
      have hj0 : (0 : Int) ≤ j := by omega
      clear hx hxo hr hup hq
      by_cases hpar : k % 2 = 0
      · have hm : (k : Int) % 2 = 0 := by omega
        have HST := Lib.hid (show stepW k [a0, a1, a2, a3, a4, a5, a6, a7] [b0, b1, b2, b3, b4, b5, b6, b7] = twoI [a0, a1, a2, a3, a4, a5, a6, a7] [b0, b1, b2, b3, b4, b5, b6, b7] by rw [stepW, if_pos hpar])
        go_wp2_with fail
        go_region_law (go_simp; go_at_call 98; refine (rtwo8 _ [a0, a1, a2, a3, a4, a5, a6, a7] [b0, b1, b2, b3, b4, b5, b6, b7] HDK.out HX.out).mono ?_; rintro e w5 ⟨o0, o1, o2, o3, o4, o5, o6, o7, rfl, ho, hb5⟩; have E5 : Hid (Below wr.heap.size wr w5) := ((below_draws wr _ 1).trans hb5); clear hb5; obtain ⟨z0, z1, z2, z3, z4, z5, z6, z7⟩ := cells8 (HG.out.later E5.out); have zf := Bk.frozen (HG.out.later E5.out); have zl := Bk.lt (HG.out.later E5.out))
        all_goals
          have G8 := Lib.hid (Bk.put8 (HG.out.later E5.out) rfl o0 o1 o2 o3 o4 o5 o6 o7)
          have Z8 := Lib.hid (show DgAt _ (w.heap.size + 1) _ _ from Bk.grown HZ.out (only_put8 (only_below (only_refl wr g) E5.out) o0 o1 o2 o3 o4 o5 o6 o7) (by simp; omega))
          have B8 := Lib.hid (below_put8 (B := w.heap.size) (g := g) (HB.out.trans (E5.out.mono HB.out.size)) (by omega) o0 o1 o2 o3 o4 o5 o6 o7)
          clear z0 z1 z2 z3 z4 z5 z6 z7 zf zl c0 c1 c2 c3 c4 c5 c6 c7 e0 e1 e2 e3 e4 e5 e6 e7
          go_wp2_with fail
          go_roundw
          case rel => exact ⟨j + 1, q, [o0, o1, o2, o3, o4, o5, o6, o7], by omega, rfl, by go_num, hq4, by show DgOk _; rw [← ho.out]; exact twoI_ok _ _, by show _ = _; rw [← ho.out, ← HST.out]; exact HUP2.out, G8.out, Z8.out, B8.out⟩
          case measure => simp [intOf]; omega
      · have hm : (k : Int) % 2 = 1 := by omega
        have HST := Lib.hid (show stepW k [a0, a1, a2, a3, a4, a5, a6, a7] [b0, b1, b2, b3, b4, b5, b6, b7] = twoI [b0, b1, b2, b3, b4, b5, b6, b7] [a0, a1, a2, a3, a4, a5, a6, a7] by rw [stepW, if_neg hpar])
        go_wp2_with fail
        go_region_law (go_simp; go_at_call 98; refine (rtwo8 _ [b0, b1, b2, b3, b4, b5, b6, b7] [a0, a1, a2, a3, a4, a5, a6, a7] HX.out HDK.out).mono ?_; rintro e w5 ⟨o0, o1, o2, o3, o4, o5, o6, o7, rfl, ho, hb5⟩; have E5 : Hid (Below wr.heap.size wr w5) := ((below_draws wr _ 1).trans hb5); clear hb5; obtain ⟨z0, z1, z2, z3, z4, z5, z6, z7⟩ := cells8 (HG.out.later E5.out); have zf := Bk.frozen (HG.out.later E5.out); have zl := Bk.lt (HG.out.later E5.out))
        all_goals
          have G8 := Lib.hid (Bk.put8 (HG.out.later E5.out) rfl o0 o1 o2 o3 o4 o5 o6 o7)
          have Z8 := Lib.hid (show DgAt _ (w.heap.size + 1) _ _ from Bk.grown HZ.out (only_put8 (only_below (only_refl wr g) E5.out) o0 o1 o2 o3 o4 o5 o6 o7) (by simp; omega))
          have B8 := Lib.hid (below_put8 (B := w.heap.size) (g := g) (HB.out.trans (E5.out.mono HB.out.size)) (by omega) o0 o1 o2 o3 o4 o5 o6 o7)
          clear z0 z1 z2 z3 z4 z5 z6 z7 zf zl c0 c1 c2 c3 c4 c5 c6 c7 e0 e1 e2 e3 e4 e5 e6 e7
          go_wp2_with fail
          go_roundw
          case rel => exact ⟨j + 1, q, [o0, o1, o2, o3, o4, o5, o6, o7], by omega, rfl, by go_num, hq4, by show DgOk _; rw [← ho.out]; exact twoI_ok _ _, by show _ = _; rw [← ho.out, ← HST.out]; exact HUP2.out, G8.out, Z8.out, B8.out⟩
          case measure => simp [intOf]; omega
    · obtain rfl : j = n := by omega
      have hup := HUP.out
      rw [List.drop_eq_nil_of_le (by rw [HL.out]; omega), upI] at hup
      have HUR := Lib.hid hup
      have hS := cells8 HG.out
      have hj12 : j ≤ 12 := by omega
      clear hup c0 c1 c2 c3 c4 c5 c6 c7
      go_wp2_with fail
      go_region_held3 (fun w' => w'.cell? ⟨g, 0, none⟩ = some (.int .u8 a0) ∧ w'.cell? ⟨g, 1, none⟩ = some (.int .u8 a1) ∧ w'.cell? ⟨g, 2, none⟩ = some (.int .u8 a2) ∧ w'.cell? ⟨g, 3, none⟩ = some (.int .u8 a3) ∧ w'.cell? ⟨g, 4, none⟩ = some (.int .u8 a4) ∧ w'.cell? ⟨g, 5, none⟩ = some (.int .u8 a5) ∧ w'.cell? ⟨g, 6, none⟩ = some (.int .u8 a6) ∧ w'.cell? ⟨g, 7, none⟩ = some (.int .u8 a7)) (first | (with_reducible exact hS3) | (with_reducible exact hS2) | (with_reducible exact hS1) | (with_reducible exact hS) | go_keep)
        (first
          | (go_at_call 87; refine (name_any (j : Int) (by omega) (by omega) _).mono ?_; rintro e w5 ⟨rfl, hb5⟩; have E5 : Hid (Below wr.heap.size wr w5) := ((below_draws wr _ 1).trans hb5); have hS1 := cells8 (HG.out.later E5.out); clear hb5)
          | (go_at_call 38; refine (rword8 _ [a0, a1, a2, a3, a4, a5, a6, a7] HDK.out (rootS j) (by have := root_size j; omega)).mono ?_; rintro e w6 ⟨o0, o1, o2, o3, o4, o5, o6, o7, rfl, ho, hb6⟩; have E6 : Hid (Below wr.heap.size wr w6) := E5.out.trans (hb6.mono E5.out.size); have hS2 := cells8 (HG.out.later E6.out); obtain ⟨⟨z0, z1, z2, z3, z4, z5, z6, z7⟩, zf, zl⟩ := zeros8 (HZ.out.later E6.out); have hS3 := cells8 (show DgAt _ g _ _ from Bk.grown HG.out (only_put8 (only_below (only_refl wr (w.heap.size + 1)) E6.out) o0 o1 o2 o3 o4 o5 o6 o7) (by simp; omega)); clear hb6))
      have HZ8 := Lib.hid (Bk.put8 (HZ.out.later E6.out) rfl o0 o1 o2 o3 o4 o5 o6 o7)
      have HBL := Lib.hid (below_put8 (B := w.heap.size) (g := w.heap.size + 1) (HB.out.trans (E6.out.mono HB.out.size)) (by omega) o0 o1 o2 o3 o4 o5 o6 o7)
      have HI := rdg_info [o0, o1, o2, o3, o4, o5, o6, o7] ⟨rfl, by rw [← ho.out]; exact (wordI_ok _ _).byt⟩
      clear z0 z1 z2 z3 z4 z5 z6 z7 zf zl hS hS1 hS2 hS3
      go_wp2_with fail
      refine bodyPost_ret (results_row_tmp (p := 6) (u := 7) (ty := 22) rfl _ _ (w.heap.size + 1) 22 (dgA [o0, o1, o2, o3, o4, o5, o6, o7]) (0, 0) _ rfl HZ8.out.heap Tryz.underlying22 rfl HI.out) rfl ?_
      rw [HBF.out, HWF.out, topI, ← ho.out, HUR.out]
      exact ⟨rfl, HBL.out⟩
end Go.Proofs.YtbpmomedhdmloaaGreatDoor

/-! Roots and paths: the document's. -/
namespace Go.Proofs.YtbpmomedhdmloaaGreatDoor
open Go.RowKit

theorem Tryz.infoDg : (Tryz.prog.info? 28).map (fun i => (i.zero, i.size, i.bytes)) = some (some (.agg (dgA zeroD)), 8, 8) := by kernel_rfl
theorem Tryz.infoRd : (Tryz.prog.info? 22).map (fun i => (i.zero, i.size, i.bytes)) = some (some (.agg (dgA zeroD)), 8, 8) := by kernel_rfl
def rootI (ls : List (List Int)) : List Int := if 1 ≤ ls.length ∧ ls.length ≤ 4096 then topI (nodeI ls (heightI ls.length) 0) (heightI ls.length) else zeroD
def rootE (n : Nat) : Int := if 1 ≤ n ∧ n ≤ 4096 then 0 else 2
theorem rootI_ok (ls : List (List Int)) : DgOk (rootI ls) := by unfold rootI; split <;> first | exact topI_ok _ _ | exact zeroD_ok

theorem rRoot_any (w : World) (A : Option Addr) (n c : Nat) (ls : List (List Int)) (ho : DsOk ls) (hs : Sl w w.heap.size 8 A n (cellsD ls)) :
    Calls Tryz.prog 45 #[.slice A n c] w fun e w' => e = .returned (.tuple #[.agg (dgA (rootI ls)), .int .i64 (rootE n)]) ∧ Below w.heap.size w w' := by
  have hn := hs.le
  have hlen := hs.dgs ho
  obtain ⟨w1, hw1⟩ : ∃ w1, w.alloc (.cells (dgA zeroD) 22) = w1 := ⟨_, rfl⟩
  have kz : DgAt w1 w.heap.size 22 zeroD := hw1 ▸ dg_new w _ _
  have hb1 : Below w.heap.size w w1 := hw1 ▸ below_new w _
  have HKZ := Lib.hid kz; have HB1 := Lib.hid hb1; have HW := Lib.hid hw1; have HS := Lib.hid hs; have HL := Lib.hid hlen; have HDO := Lib.hid ho
  have HHT := Lib.hid (fun w => rheight_any n w)
  clear kz hb1 hw1 hs hlen ho
  have HIZ := rdg_info zeroD zeroD_ok
  have HOZ := Lib.hid (dgA_one zeroD)
  by_cases hok : 1 ≤ n ∧ n ≤ 4096
  · have HV := Lib.hid (show heightV n = heightI n by rw [heightV, if_neg (by omega)])
    have h12 := height_le hok.2
    have HRI := Lib.hid (show rootI ls = topI (nodeI ls (heightI n) 0) (heightI n) by rw [rootI, HL.out, if_pos hok])
    have HRE := Lib.hid (show rootE n = 0 by rw [rootE, if_pos hok])
    rw [HV.out] at HHT
    obtain ⟨h, hh⟩ : ∃ h, heightI n = h := ⟨_, rfl⟩
    rw [hh] at HHT h12 HRI
    clear hh HV
    have hneg : decide ((h : Int) < 0) = false := by simp <;> omega
    go_enter Tryz.func45, Tryz.ntmps45
    go_upto_region 1 with fail
    rw [zero8, show List.replicate 8 (0 : Int) = zeroD from rfl, HW.out]
    go_wp2_with (go_at_call 85; refine (HHT.out _).mono ?_; rintro e w2 ⟨rfl, rfl⟩)
    refine (node_any A n c ls HDO.out h 0 w1 ((HS.out.below HB1.out).more HB1.out.size) h12 (by have : 2 ^ h ≤ 2 ^ 12 := Nat.pow_le_pow_right (by omega) h12; omega)).mono ?_
    rintro e w2 ⟨rfl, hb2⟩
    have HB2 := Lib.hid (HB1.out.trans (hb2.mono HB1.out.size))
    have HZ2 := Lib.hid (HKZ.out.later hb2)
    clear hb2
    go_wp2_with fail
    refine (name_any (h : Int) (by omega) (by omega) _).mono ?_
    rintro e w3 ⟨rfl, hb3⟩
    rw [Int.toNat_natCast]
    have HB3 := Lib.hid (HB2.out.trans (hb3.mono HB2.out.size))
    have HZ3 := Lib.hid (HZ2.out.later hb3)
    clear hb3
    go_wp2_with fail
    refine (rword_any _ (nodeI ls h 0) (nodeI_ok _ _ _) (rootS h) (by have := root_size h; omega)).mono ?_
    rintro e w4 ⟨rfl, hb4⟩
    rw [show wordI (nodeI ls h 0) (bytesOf (rootS h)) = rootI ls from HRI.out.symm]
    have HB4 := Lib.hid (HB3.out.trans (hb4.mono HB3.out.size))
    have HZ4 := Lib.hid (HZ3.out.later hb4)
    have HI := rdg_info (rootI ls) (rootI_ok _)
    have HO := Lib.hid (dgA_one (rootI ls))
    have HSZ : Hid ((dgA zeroD).size = (dgA (rootI ls)).size) := by show _ = _; rw [dgA_size, dgA_size, (rootI_ok _).len]; rfl
    clear hb4
    obtain ⟨C, hC⟩ : ∃ C, dgA (rootI ls) = C := ⟨_, rfl⟩
    rw [hC] at HI HO HSZ ⊢
    have HCC := Lib.hid hC
    clear hC
    go_wp2_with (refine wpList_store_row rfl 22 _ _ rfl w.heap.size C rfl rfl 22 (dgA zeroD) HZ4.out.heap HI.out HSZ.out HO.out ?_)
    refine bodyPost_ret (results_row_tmp (p := 2) (u := 3) (ty := 22) rfl _ _ w.heap.size 22 C (0, 0) _ rfl (setRow_heap _ _ _ _ _ _ HZ4.out.heap) Tryz.underlying22 rfl HI.out) rfl ?_
    rw [HRE.out, HCC.out]
    exact ⟨rfl, below_setRow HB4.out (by omega) _⟩
  · have HV := Lib.hid (show heightV n = -1 by rw [heightV, if_pos (by omega)])
    have HRI := Lib.hid (show rootI ls = zeroD by rw [rootI, HL.out, if_neg hok])
    have HRE := Lib.hid (show rootE n = 2 by rw [rootE, if_neg hok])
    rw [HV.out] at HHT
    go_enter Tryz.func45, Tryz.ntmps45
    go_upto_region 1 with fail
    rw [zero8, show List.replicate 8 (0 : Int) = zeroD from rfl, HW.out]
    go_wp2_with (first
      | (go_at_call 85; refine (HHT.out _).mono ?_; rintro e w2 ⟨rfl, rfl⟩)
      | (refine wpList_store_row rfl 22 _ _ rfl w.heap.size (dgA zeroD) rfl rfl 22 (dgA zeroD) HKZ.out.heap HIZ.out rfl HOZ.out ?_))
    refine bodyPost_ret (results_row_tmp (p := 2) (u := 3) (ty := 22) rfl _ _ w.heap.size 22 (dgA zeroD) (0, 0) _ rfl (setRow_heap _ _ _ _ _ _ HKZ.out.heap) Tryz.underlying22 rfl HIZ.out) rfl ?_
    rw [HRI.out, HRE.out]
    exact ⟨rfl, below_setRow HB1.out (by omega) _⟩

def sib (k : Nat) : Nat := if k % 2 = 1 then k - 1 else k + 1
def pathI (ls : List (List Int)) (i h : Nat) : List (List Int) := (List.range h).map fun l => nodeI ls l (sib (i / 2 ^ l))
theorem pathI_snoc (ls : List (List Int)) (i h : Nat) : pathI ls i (h + 1) = pathI ls i h ++ [nodeI ls h (sib (i / 2 ^ h))] := by
  simp [pathI, List.range_succ]
theorem pathI_ok (ls : List (List Int)) (i h : Nat) : DsOk (pathI ls i h) := by
  intro d hd
  simp only [pathI, List.mem_map] at hd
  obtain ⟨l, _, rfl⟩ := hd
  exact nodeI_ok _ _ _
theorem pathI_len (ls : List (List Int)) (i h : Nat) : (pathI ls i h).length = h := by simp [pathI]
theorem cellsD_snoc (ls : List (List Int)) (d : List Int) : cellsD (ls ++ [d]) = cellsD ls ++ d.map (Value.int .u8) := by simp [cellsD]
def pathL (ls : List (List Int)) (i : Int) : List (List Int) := if (1 ≤ ls.length ∧ ls.length ≤ 4096) ∧ 0 ≤ i ∧ i < ls.length then pathI ls i.toNat (heightI ls.length) else []
def pathE (n : Nat) (i : Int) : Int := if 1 ≤ n ∧ n ≤ 4096 then (if 0 ≤ i ∧ i < n then 0 else 9) else 2
theorem pathL_ok (ls : List (List Int)) (i : Int) : DsOk (pathL ls i) := by unfold pathL; split <;> first | exact pathI_ok _ _ _ | exact fun _ h => absurd h (by simp)

theorem node8 (A : Option Addr) (n c : Nat) (ls : List (List Int)) (ho : DsOk ls) (l k : Nat) (w : World) (hs : Sl w w.heap.size 8 A n (cellsD ls)) (hl : l ≤ 12) (hk : (k + 1) * 2 ^ l ≤ 4611686018427387904) :
    Calls Tryz.prog 86 #[.slice A n c, .int .i64 (l : Int), .int .i64 (k : Int)] w fun e w' => ∃ o0 o1 o2 o3 o4 o5 o6 o7 : Int, e = .returned (.agg #[.int .u8 o0, .int .u8 o1, .int .u8 o2, .int .u8 o3, .int .u8 o4, .int .u8 o5, .int .u8 o6, .int .u8 o7]) ∧ Hid (nodeI ls l k = [o0, o1, o2, o3, o4, o5, o6, o7]) ∧ Below w.heap.size w w' := by
  obtain ⟨o0, o1, o2, o3, o4, o5, o6, o7, ho'⟩ := list8 (nodeI ls l k) (nodeI_ok _ _ _).len
  refine (node_any A n c ls ho l k w hs hl hk).mono ?_
  rintro e w' ⟨rfl, hb⟩
  exact ⟨o0, o1, o2, o3, o4, o5, o6, o7, by rw [ho']; rfl, ho', hb⟩

set_option maxRecDepth 20000 in
theorem rPath_any (w : World) (A : Option Addr) (n c : Nat) (i : Int) (ls : List (List Int)) (ho : DsOk ls) (hs : Sl w w.heap.size 8 A n (cellsD ls)) :
    Calls Tryz.prog 53 #[.slice A n c, .int .i64 i] w fun e w' => (∃ v, e = .returned (.tuple #[v, .int .i64 (pathE n i)]) ∧ w'.ownsRow w.heap.size 22 8 v (pathL ls i).length (cellsD (pathL ls i))) ∧ Below w.heap.size w w' := by
  have hn := hs.le
  have hlen := hs.dgs ho
  have HS := Lib.hid hs; have HL := Lib.hid hlen; have HDO := Lib.hid ho
  have HHT := Lib.hid (fun w => rheight_any n w)
  clear hs hlen ho
  by_cases hok : 1 ≤ n ∧ n ≤ 4096
  · have HV := Lib.hid (show heightV n = heightI n by rw [heightV, if_neg (by omega)])
    have h12 := height_le hok.2
    rw [HV.out] at HHT
    by_cases hi0 : i < 0
    · have HRE := Lib.hid (show pathE n i = 9 by rw [pathE, if_pos hok, if_neg (by omega)])
      have HRL := Lib.hid (show pathL ls i = [] by rw [pathL, if_neg (by omega)])
      obtain ⟨h, hh⟩ : ∃ h, heightI n = h := ⟨_, rfl⟩
      rw [hh] at HHT h12
      have hneg : decide ((h : Int) < 0) = false := by simp <;> omega
      go_enter Tryz.func53, Tryz.ntmps53
      go_wp2_with (go_at_call 85; refine (HHT.out _).mono ?_; rintro e w2 ⟨rfl, rfl⟩)
      go_ret2
      rw [HRE.out, HRL.out]
      exact ⟨⟨_, rfl, World.ownsRow_nil _ _ _ _⟩, Below.refl _ _⟩
    by_cases hin : (n : Int) ≤ i
    · have HRE := Lib.hid (show pathE n i = 9 by rw [pathE, if_pos hok, if_neg (by omega)])
      have HRL := Lib.hid (show pathL ls i = [] by rw [pathL, if_neg (by rw [HL.out]; omega)])
      obtain ⟨h, hh⟩ : ∃ h, heightI n = h := ⟨_, rfl⟩
      rw [hh] at HHT h12
      have hneg : decide ((h : Int) < 0) = false := by simp <;> omega
      have hi0' : decide (i < 0) = false := by simp <;> omega
      go_enter Tryz.func53, Tryz.ntmps53
      go_wp2_with (go_at_call 85; refine (HHT.out _).mono ?_; rintro e w2 ⟨rfl, rfl⟩)
      go_ret2
      rw [HRE.out, HRL.out]
      exact ⟨⟨_, rfl, World.ownsRow_nil _ _ _ _⟩, Below.refl _ _⟩
    obtain ⟨i0, rfl⟩ : ∃ i0 : Nat, i = i0 := ⟨i.toNat, by omega⟩
    have HRE := Lib.hid (show pathE n i0 = 0 by rw [pathE, if_pos hok, if_pos (by omega)])
    have HRL := Lib.hid (show pathL ls i0 = pathI ls i0 (heightI n) by rw [pathL, if_pos (by rw [HL.out]; omega), HL.out, Int.toNat_natCast])
    obtain ⟨h, hh⟩ : ∃ h, heightI n = h := ⟨_, rfl⟩
    rw [hh] at HHT h12 HRL
    have hneg : decide ((h : Int) < 0) = false := by simp <;> omega
    have hi0' : decide ((i0 : Int) < 0) = false := by simp <;> omega
    have hi1' : decide ((n : Int) ≤ i0) = false := by simp <;> omega
    have hi2 : ¬ n ≤ i0 := by omega
    have hi3 : decide (n ≤ i0) = false := by simp <;> omega
    have hi4 : i0 ≤ 4096 := by omega
    obtain ⟨d0, hdi, hd0, hd1, hd2⟩ := info_parts Tryz.infoRd
    clear hh HV
    go_enter Tryz.func53, Tryz.ntmps53
    go_wp2_with (go_at_call 85; refine (HHT.out _).mono ?_; rintro e w2 ⟨rfl, rfl⟩)
    go_loopw [7, 8, 9] (fun vo ks ms wr => ∃ (m k : Nat), m ≤ h ∧ ks = .int .i64 k ∧ ms = .int .i64 m ∧ k ≤ 4096 ∧ Hid (k = i0 / 2 ^ m) ∧ Hid (wr.ownsRow w.heap.size 22 8 vo m (cellsD (pathI ls i0 m))) ∧ Hid (Below w.heap.size w wr)) (fun _ _ ms _ => h - (intOf ms).toNat)
    case atStart => exact ⟨0, i0, by omega, rfl, rfl, hi4, by show _ = _; simp, World.ownsRow_nil _ _ _ _, Below.refl _ _⟩
    case round =>
      obtain ⟨m, k, hm, rfl, rfl, hk, HK, HO, HB⟩ := hrel
      by_cases hlt : m < h
      · have hm1 : (m : Int) < h := by omega
        obtain ⟨q, hq⟩ : ∃ q, k / 2 = q := ⟨_, rfl⟩
        have hdv : (k : Int) / 2 = (q : Int) := by omega
        have hq4 : q ≤ 4096 := by omega
        have HQ : Hid (q = i0 / 2 ^ (m + 1)) := by
          show _ = _
          rw [← hq, HK.out, Nat.pow_succ, Nat.div_div_eq_div_mul]
        obtain ⟨s, hs⟩ : ∃ s, sib k = s := ⟨_, rfl⟩
        have hs4 : s ≤ 4097 := by rw [← hs]; unfold sib; split <;> omega
        have HSB : Hid (sib (i0 / 2 ^ m) = s) := by show _ = _; rw [← HK.out]; exact hs
        have hbd : (s + 1) * 2 ^ m ≤ 4611686018427387904 := by
          have h1 : 2 ^ m ≤ 2 ^ 12 := Nat.pow_le_pow_right (by omega) (by omega)
          have h2 : (s + 1) * 2 ^ m ≤ 4098 * 2 ^ 12 := Nat.mul_le_mul (by omega) h1
          omega
        have HBD := Lib.hid hbd
        have hsl := (HS.out.below HB.out).more HB.out.size
        have HSL := Lib.hid hsl
        clear hq hbd hsl
        by_cases hpar : k % 2 = 1
        · have hpm : (k : Int) % 2 = 1 := by omega
          have E := Lib.hid (show (k : Int) - 1 = s by rw [← hs, sib, if_pos hpar]; omega)
          clear hs hpar
          go_wp2_with fail
          rw [E.out]
          refine (node8 A n c ls HDO.out m s wr HSL.out (by omega) HBD.out).mono ?_
          rintro e w2 ⟨o0, o1, o2, o3, o4, o5, o6, o7, rfl, hnd, hb2⟩
          have HO2 := Lib.hid (own_keep HO.out hb2)
          have HB2 := Lib.hid (HB.out.trans (hb2.mono HB.out.size))
          clear hb2
          have hsz := HB2.out.size
          go_wp2_with (at_builtin; refine wpList_app _ rfl (.tmp 37) (.tmp 42) 47 rfl w.heap.size 22 d0 (.agg (dgA zeroD)) 8 8 Tryz.underlying47 hdi hd0 hd1 hd2 rfl (by decide) _ _ _ rfl (HO2.out.alloc _) _ _ 1 1 [.int .u8 o0, .int .u8 o1, .int .u8 o2, .int .u8 o3, .int .u8 o4, .int .u8 o5, .int .u8 o6, .int .u8 o7] rfl (sl_new _ #[_, _, _, _, _, _, _, _] _ 8 1 rfl (by omega)) (by simp [Value.oneCell']) (by unfold maxLen; omega) (by omega) (by simp; omega) ?_; intro v1 w3 hown1 hg1 hat1)
          have hb3 := grown_below (HB2.out.alloc HB2.out.size (.cells #[.int .u8 o0, .int .u8 o1, .int .u8 o2, .int .u8 o3, .int .u8 o4, .int .u8 o5, .int .u8 o6, .int .u8 o7] 22)) (HO2.out.alloc _) hg1 (Nat.le_refl _) (by simp; omega)
          have HO3 : Hid (w3.ownsRow w.heap.size 22 8 v1 (m + 1) (cellsD (pathI ls i0 (m + 1)))) := by
            show World.ownsRow _ _ _ _ _ _ _
            rw [pathI_snoc, cellsD_snoc, HSB.out, hnd.out]
            exact hown1
          have HB3 := Lib.hid hb3
          clear hown1 hg1 hat1 hb3
          go_roundw
          case rel => exact ⟨m + 1, q, by omega, rfl, by go_num, hq4, HQ, HO3, HB3⟩
          case measure => simp [intOf]; omega
        · have hpm : (k : Int) % 2 = 0 := by omega
          have E := Lib.hid (show (k : Int) + 1 = s by rw [← hs, sib, if_neg hpar]; omega)
          clear hs hpar
          go_wp2_with fail
          rw [E.out]
          refine (node8 A n c ls HDO.out m s wr HSL.out (by omega) HBD.out).mono ?_
          rintro e w2 ⟨o0, o1, o2, o3, o4, o5, o6, o7, rfl, hnd, hb2⟩
          have HO2 := Lib.hid (own_keep HO.out hb2)
          have HB2 := Lib.hid (HB.out.trans (hb2.mono HB.out.size))
          clear hb2
          have hsz := HB2.out.size
          go_wp2_with (at_builtin; refine wpList_app _ rfl (.tmp 37) (.tmp 42) 47 rfl w.heap.size 22 d0 (.agg (dgA zeroD)) 8 8 Tryz.underlying47 hdi hd0 hd1 hd2 rfl (by decide) _ _ _ rfl (HO2.out.alloc _) _ _ 1 1 [.int .u8 o0, .int .u8 o1, .int .u8 o2, .int .u8 o3, .int .u8 o4, .int .u8 o5, .int .u8 o6, .int .u8 o7] rfl (sl_new _ #[_, _, _, _, _, _, _, _] _ 8 1 rfl (by omega)) (by simp [Value.oneCell']) (by unfold maxLen; omega) (by omega) (by simp; omega) ?_; intro v1 w3 hown1 hg1 hat1)
          have hb3 := grown_below (HB2.out.alloc HB2.out.size (.cells #[.int .u8 o0, .int .u8 o1, .int .u8 o2, .int .u8 o3, .int .u8 o4, .int .u8 o5, .int .u8 o6, .int .u8 o7] 22)) (HO2.out.alloc _) hg1 (Nat.le_refl _) (by simp; omega)
          have HO3 : Hid (w3.ownsRow w.heap.size 22 8 v1 (m + 1) (cellsD (pathI ls i0 (m + 1)))) := by
            show World.ownsRow _ _ _ _ _ _ _
            rw [pathI_snoc, cellsD_snoc, HSB.out, hnd.out]
            exact hown1
          have HB3 := Lib.hid hb3
          clear hown1 hg1 hat1 hb3
          go_roundw
          case rel => exact ⟨m + 1, q, by omega, rfl, by go_num, hq4, HQ, HO3, HB3⟩
          case measure => simp [intOf]; omega
      · obtain rfl : m = h := by omega
        go_wp2_with fail
        go_ret2
        rw [HRE.out, HRL.out, pathI_len]
        exact ⟨⟨_, rfl, HO.out⟩, HB.out⟩
  · have HV := Lib.hid (show heightV n = -1 by rw [heightV, if_pos (by omega)])
    have HRE := Lib.hid (show pathE n i = 2 by rw [pathE, if_neg hok])
    have HRL := Lib.hid (show pathL ls i = [] by rw [pathL, HL.out, if_neg (by omega)])
    rw [HV.out] at HHT
    go_enter Tryz.func53, Tryz.ntmps53
    go_wp2_with (go_at_call 85; refine (HHT.out _).mono ?_; rintro e w2 ⟨rfl, rfl⟩)
    go_ret2
    rw [HRE.out, HRL.out]
    exact ⟨⟨_, rfl, World.ownsRow_nil _ _ _ _⟩, Below.refl _ _⟩
end Go.Proofs.YtbpmomedhdmloaaGreatDoor
