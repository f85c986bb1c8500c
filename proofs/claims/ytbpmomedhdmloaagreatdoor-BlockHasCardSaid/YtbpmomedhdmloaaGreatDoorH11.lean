/- Digests: the document's word. -/
import Derived.Test.YtbpmomedhdmloaaGreatDoorHB
namespace Go.Proofs.YtbpmomedhdmloaaGreatDoor
open Go.RowKit

theorem cells8g {w1 W : World} {g q : Nat} {t : TypeId} {a0 a1 a2 a3 a4 a5 a6 a7 : Int} (h : DgAt w1 g t [a0, a1, a2, a3, a4, a5, a6, a7]) (hb : w1.grownBy W (some q)) (h1 : g ≠ q) : W.cell? ⟨g, 0, none⟩ = some (.int .u8 a0) ∧ W.cell? ⟨g, 1, none⟩ = some (.int .u8 a1) ∧ W.cell? ⟨g, 2, none⟩ = some (.int .u8 a2) ∧ W.cell? ⟨g, 3, none⟩ = some (.int .u8 a3) ∧ W.cell? ⟨g, 4, none⟩ = some (.int .u8 a4) ∧ W.cell? ⟨g, 5, none⟩ = some (.int .u8 a5) ∧ W.cell? ⟨g, 6, none⟩ = some (.int .u8 a6) ∧ W.cell? ⟨g, 7, none⟩ = some (.int .u8 a7) :=
  cells8 (Bk.grown h hb (by simpa using h1) : DgAt W _ _ _)

set_option maxRecDepth 20000 in
set_option maxHeartbeats 1600000 in
theorem rword_any (w : World) (a : List Int) (ha : DgOk a) (s : ByteArray) (hs : s.size ≤ 70368744177664) :
    Calls Tryz.prog 38 #[.agg (dgA a), .string s] w fun e w' => e = .returned (.agg (dgA (wordI a (bytesOf s)))) ∧ Below w.heap.size w w' := by
  have hs' : s.size ≤ 9223372036854775807 := by omega
  obtain ⟨a0, a1, a2, a3, a4, a5, a6, a7, rfl⟩ := list8 a ha.len
  obtain ⟨w1, hw1⟩ : ∃ w1, (w.alloc (.cells (dgA [a0, a1, a2, a3, a4, a5, a6, a7]) 22)).alloc (.cells (dgA (List.replicate 8 0)) 22) = w1 := ⟨_, rfl⟩
  have ka : DgAt w1 w.heap.size 22 [a0, a1, a2, a3, a4, a5, a6, a7] := hw1 ▸ Bk.alloc (dg_new w _ _) _
  have kz : DgAt w1 (w.heap.size + 1) 22 (List.replicate 8 0) := hw1 ▸ Bk.at_ _ _ _ (by simp) (dgA_list _)
  have hb1 : Below w.heap.size w w1 := hw1 ▸ (below_new w _).alloc (by simp) _
  have hz1 : w1.heap.size = w.heap.size + 1 + 1 := by rw [← hw1]; simp
  have hS1 := cells8 ka
  have hcv := fun W => Lib.run_convert_string_bytes (P := Tryz.prog) W 9 60 5 s Tryz.underlying9 Tryz.underlying60 Tryz.underlying5
  have HKA := Lib.hid ka; have HKZ := Lib.hid kz; have HB1 := Lib.hid hb1; have HW := Lib.hid hw1; have HZ1 := Lib.hid hz1
  have HA := Lib.hid ha; have HCV := Lib.hid hcv
  clear ka kz hb1 hw1 hz1 ha hcv
  go_enter Tryz.func38, Tryz.ntmps38
  go_upto_region 1 with fail
  rw [zero8, HW.out]
  have hcv := HCV.out
  have hlw1 : w.heap.size < w1.heap.size := by rw [HZ1.out]; omega
  obtain ⟨s0, s1, s2, s3, s4, s5, s6, s7⟩ := hS1
  have hbw1 : ∀ k : Nat, (Lib.bytesWorld w1.drew 5 s).cell? ⟨w.heap.size, k, none⟩ = w1.cell? ⟨w.heap.size, k, none⟩ := fun k => Lib.bytesWorld_old w1.drew 5 s _ hlw1
  go_region_law (first
      | (go_simp; go_at_call 82; refine (rbegin_any _ _).mono ?_; rintro e w2 ⟨rfl, hb2⟩; have E2 : Hid (Below w1.heap.size w1 w2) := (by first | exact (below_draws w1 _ 1).trans (hb2.mono (Nat.le_refl _)) | exact ((below_draws w1 _ 1).trans ((below_bytes _ 5 s).mono (Nat.le_refl _))).trans (hb2.mono (by first | exact Nat.le_trans (Nat.le_refl _) (below_bytes _ 5 s).size | exact Nat.le_refl _))); obtain ⟨p20, p21, p22, p23, p24, p25, p26, p27⟩ := cells8 (HKA.out.later E2.out); have hlw2 : w.heap.size < w2.heap.size := Nat.lt_of_lt_of_le hlw1 E2.out.size; have hbw2 : ∀ k : Nat, (Lib.bytesWorld w2 5 s).cell? ⟨w.heap.size, k, none⟩ = w2.cell? ⟨w.heap.size, k, none⟩ := fun k => Lib.bytesWorld_old w2 5 s _ hlw2)
      | (go_simp; go_at_call 42; refine (rnum_any [a0, a1, a2, a3, a4, a5, a6, a7] HA.out _).mono ?_; rintro e w3 ⟨rfl, hb3⟩; have E3 : Hid (Below w1.heap.size w1 w3) := (by first | exact E2.out.trans (hb3.mono E2.out.size) | exact (E2.out.trans ((below_bytes _ 5 s).mono E2.out.size)).trans (hb3.mono (by first | exact Nat.le_trans E2.out.size (below_bytes _ 5 s).size | exact Nat.le_refl _))); obtain ⟨p30, p31, p32, p33, p34, p35, p36, p37⟩ := cells8 (HKA.out.later E3.out); have hlw3 : w.heap.size < w3.heap.size := Nat.lt_of_lt_of_le hlw1 E3.out.size; have hbw3 : ∀ k : Nat, (Lib.bytesWorld w3 5 s).cell? ⟨w.heap.size, k, none⟩ = w3.cell? ⟨w.heap.size, k, none⟩ := fun k => Lib.bytesWorld_old w3 5 s _ hlw3)
      | (go_simp; go_at_call 81; refine (in_any _ _ _).mono ?_; rintro e w4 ⟨rfl, hb4⟩; have E4 : Hid (Below w1.heap.size w1 w4) := (by first | exact E3.out.trans (hb4.mono E3.out.size) | exact (E3.out.trans ((below_bytes _ 5 s).mono E3.out.size)).trans (hb4.mono (by first | exact Nat.le_trans E3.out.size (below_bytes _ 5 s).size | exact Nat.le_refl _))); obtain ⟨p40, p41, p42, p43, p44, p45, p46, p47⟩ := cells8 (HKA.out.later E4.out); have hlw4 : w.heap.size < w4.heap.size := Nat.lt_of_lt_of_le hlw1 E4.out.size; have hbw4 : ∀ k : Nat, (Lib.bytesWorld w4 5 s).cell? ⟨w.heap.size, k, none⟩ = w4.cell? ⟨w.heap.size, k, none⟩ := fun k => Lib.bytesWorld_old w4 5 s _ hlw4)
      | (go_simp; go_at_call 80; refine (rbytes_any _ _ _ _ _ (bytesOf s) (by first | exact sl_bytes _ 5 s hs' | exact (sl_bytes _ 5 s hs').later hb4 | exact ((sl_bytes _ 5 s hs').later hb3).later hb4 | exact (((sl_bytes _ 5 s hs').later hb2).later hb3).later hb4) (bytesOf_ok s) hs).mono ?_; rintro e w6 ⟨rfl, hb6⟩; have E6 : Hid (Below w1.heap.size w1 w6) := (by first | exact E4.out.trans (hb6.mono E4.out.size) | exact (E4.out.trans ((below_bytes _ 5 s).mono E4.out.size)).trans (hb6.mono (by first | exact Nat.le_trans E4.out.size (below_bytes _ 5 s).size | exact Nat.le_refl _))); obtain ⟨p60, p61, p62, p63, p64, p65, p66, p67⟩ := cells8 (HKA.out.later E6.out); have hlw6 : w.heap.size < w6.heap.size := Nat.lt_of_lt_of_le hlw1 E6.out.size)
      | (go_simp; go_at_call 79; refine (out8 _ _).mono ?_; rintro e w7 ⟨o0, o1, o2, o3, o4, o5, o6, o7, rfl, ho, hb7⟩; have E7 : Hid (Below w1.heap.size w1 w7) := (by first | exact E6.out.trans (hb7.mono E6.out.size) | exact (E6.out.trans ((below_bytes _ 5 s).mono E6.out.size)).trans (hb7.mono (by first | exact Nat.le_trans E6.out.size (below_bytes _ 5 s).size | exact Nat.le_refl _))); obtain ⟨p70, p71, p72, p73, p74, p75, p76, p77⟩ := cells8 (HKA.out.later E7.out); have hlw7 : w.heap.size < w7.heap.size := Nat.lt_of_lt_of_le hlw1 E7.out.size; have hz7 := zeros8 (HKZ.out.later E7.out); obtain ⟨⟨z0, z1, z2, z3, z4, z5, z6, z7⟩, zf, zl⟩ := hz7))
  all_goals
    have HZ8 : DgAt _ (w.heap.size + 1) 22 [o0, o1, o2, o3, o4, o5, o6, o7] := (Bk.set_ (Bk.set_ (Bk.set_ (Bk.set_ (Bk.set_ (Bk.set_ (Bk.set_ (Bk.set_ (HKZ.out.later E7.out) 0 (.int .u8 o0)) 1 (.int .u8 o1)) 2 (.int .u8 o2)) 3 (.int .u8 o3)) 4 (.int .u8 o4)) 5 (.int .u8 o5)) 6 (.int .u8 o6)) 7 (.int .u8 o7))
    have HBL := (((((((((HB1.out.trans (E7.out.mono HB1.out.size)).setCell (p := ⟨w.heap.size + 1, 0, none⟩) (by show _ ≤ w.heap.size + 1; omega) (.int .u8 o0)).setCell (p := ⟨w.heap.size + 1, 1, none⟩) (by show _ ≤ w.heap.size + 1; omega) (.int .u8 o1)).setCell (p := ⟨w.heap.size + 1, 2, none⟩) (by show _ ≤ w.heap.size + 1; omega) (.int .u8 o2)).setCell (p := ⟨w.heap.size + 1, 3, none⟩) (by show _ ≤ w.heap.size + 1; omega) (.int .u8 o3)).setCell (p := ⟨w.heap.size + 1, 4, none⟩) (by show _ ≤ w.heap.size + 1; omega) (.int .u8 o4)).setCell (p := ⟨w.heap.size + 1, 5, none⟩) (by show _ ≤ w.heap.size + 1; omega) (.int .u8 o5)).setCell (p := ⟨w.heap.size + 1, 6, none⟩) (by show _ ≤ w.heap.size + 1; omega) (.int .u8 o6)).setCell (p := ⟨w.heap.size + 1, 7, none⟩) (by show _ ≤ w.heap.size + 1; omega) (.int .u8 o7))
    have HI := rdg_info [o0, o1, o2, o3, o4, o5, o6, o7] ⟨rfl, by rw [← ho.out]; exact (outI_ok _).byt⟩
    have HZZ := Lib.hid (DgAt.heap HZ8); have HBB := Lib.hid HBL
    clear HZ8 HBL z0 z1 z2 z3 z4 z5 z6 z7 zf zl hcv
    go_wp2_with fail
    refine bodyPost_ret (results_cell_row (p := 4) (ty := 22) rfl _ _ (w.heap.size + 1) 22 (dgA [o0, o1, o2, o3, o4, o5, o6, o7]) (0, 0) _ rfl HZZ.out Tryz.underlying22 rfl HI.out) rfl ?_
    exact ⟨by rw [show wordI [a0, a1, a2, a3, a4, a5, a6, a7] (bytesOf s) = [o0, o1, o2, o3, o4, o5, o6, o7] from ho.out], HBB.out⟩
end Go.Proofs.YtbpmomedhdmloaaGreatDoor
