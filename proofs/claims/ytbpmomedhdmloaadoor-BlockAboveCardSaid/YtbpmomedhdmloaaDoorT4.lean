/- The roots' words, nodes of the document. -/
import Derived.Test.YtbpmomedhdmloaaDoorT3
namespace Go.Proofs.YtbpmomedhdmloaaDoor
open Go.RowKit

theorem word8 (w : World) (a : List Int) (ha : DgOk a) (s : ByteArray) (hs : s.size ≤ 9223372036854775807) :
    Calls Tryd.prog 31 #[.agg (dgA a), .string s] w fun e w' => ∃ o0 o1 o2 o3 o4 o5 o6 o7 : Int, e = .returned (.agg #[.int .u8 o0, .int .u8 o1, .int .u8 o2, .int .u8 o3, .int .u8 o4, .int .u8 o5, .int .u8 o6, .int .u8 o7]) ∧ Hid (wordI a (bytesOf s) = [o0, o1, o2, o3, o4, o5, o6, o7]) ∧ Below w.heap.size w w' := by
  obtain ⟨o0, o1, o2, o3, o4, o5, o6, o7, ho⟩ := list8 (wordI a (bytesOf s)) (wordI_ok _ _).len
  refine (word_any w a ha s hs).mono ?_
  rintro e w' ⟨rfl, hb⟩
  exact ⟨o0, o1, o2, o3, o4, o5, o6, o7, by rw [ho]; rfl, ho, hb⟩
theorem root_add (x : Nat) : (⟨#[114, 111, 111, 116]⟩ ++ ⟨(digs x).toArray⟩ : ByteArray) = rootS x := by
  rw [rootS]
  simp [ByteArray.ext_iff]
theorem digs_size (x : Nat) : (⟨(digs x).toArray⟩ : ByteArray).size ≤ 2 := by
  unfold digs
  split <;> simp [ByteArray.size]
theorem root_size (x : Nat) : (rootS x).size ≤ 6 := by
  unfold rootS digs
  split <;> simp [ByteArray.size]

set_option maxRecDepth 20000 in
theorem top_any (w : World) (d : List Int) (hd : DgOk d) (x : Int) (h0 : 0 ≤ x) (h1 : x ≤ 12) :
    Calls Tryd.prog 85 #[.agg (dgA d), .int .i64 x] w fun e w' => e = .returned (.agg (dgA (topI d x.toNat))) ∧ Below w.heap.size w w' := by
  obtain ⟨a0, a1, a2, a3, a4, a5, a6, a7, rfl⟩ := list8 d hd.len
  obtain ⟨w1, hw1⟩ : ∃ w1, (w.alloc (.cells (dgA [a0, a1, a2, a3, a4, a5, a6, a7]) 28)).alloc (.cells (dgA zeroD) 28) = w1 := ⟨_, rfl⟩
  have kd : DgAt w1 w.heap.size 28 [a0, a1, a2, a3, a4, a5, a6, a7] := hw1 ▸ Bk.alloc (dg_new w _ _) _
  have kz : DgAt w1 (w.heap.size + 1) 28 zeroD := hw1 ▸ Bk.at_ _ _ _ (by simp) (dgA_list _)
  have hb1 : Below w.heap.size w w1 := hw1 ▸ (below_new w _).alloc (by simp) _
  have hS := cells8 kd
  have hRS := root_size x.toNat
  have hds := digs_size x.toNat
  have HIT := Lib.hid (fun W => itoa_any x h0 h1 W)
  have HAD := Lib.hid (root_add x.toNat)
  obtain ⟨R, hR⟩ : ∃ R : ByteArray, ⟨(digs x.toNat).toArray⟩ = R := ⟨_, rfl⟩
  obtain ⟨RR, hRR⟩ : ∃ RR : ByteArray, rootS x.toNat = RR := ⟨_, rfl⟩
  have hTop : ∀ a, wordI a (bytesOf RR) = topI a x.toNat := fun a => by rw [topI, hRR]
  rw [hR, hRR] at HAD
  rw [hR] at HIT hds
  have q1 : ¬ (9223372036854775807 < 4 + R.size) := by omega
  have q2 : ¬ (9223372036854775803 < R.size) := by omega
  rw [hRR] at hRS
  have hadd : (⟨#[114, 111, 111, 116]⟩ ++ R : ByteArray) = RR := HAD.out
  have HRS : Hid (RR.size ≤ 9223372036854775807) := by show _ ≤ _; omega
  have HTOP := Lib.hid hTop
  have HKZ := Lib.hid kz; have HB1 := Lib.hid hb1; have HW := Lib.hid hw1; have HA := Lib.hid hd; have HKA := Lib.hid kd
  clear kd kz hb1 hw1 hd hR hRR hRS hTop HAD
  go_enter Tryd.func85, Tryd.ntmps85
  go_upto_region 1 with fail
  rw [zero8, show List.replicate 8 (0 : Int) = zeroD from rfl, HW.out]
  go_region_held3 (fun w' => w'.cell? ⟨w.heap.size, 0, none⟩ = some (.int .u8 a0) ∧ w'.cell? ⟨w.heap.size, 1, none⟩ = some (.int .u8 a1) ∧ w'.cell? ⟨w.heap.size, 2, none⟩ = some (.int .u8 a2) ∧ w'.cell? ⟨w.heap.size, 3, none⟩ = some (.int .u8 a3) ∧ w'.cell? ⟨w.heap.size, 4, none⟩ = some (.int .u8 a4) ∧ w'.cell? ⟨w.heap.size, 5, none⟩ = some (.int .u8 a5) ∧ w'.cell? ⟨w.heap.size, 6, none⟩ = some (.int .u8 a6) ∧ w'.cell? ⟨w.heap.size, 7, none⟩ = some (.int .u8 a7)) (first | (with_reducible exact hS3) | (with_reducible exact hS2) | (with_reducible exact hS) | go_keep)
    (first
      | (go_at_call 90; refine (HIT.out _).mono ?_; rintro e w2 ⟨rfl, rfl⟩)
      | (go_at_call 31; refine (word8 _ [a0, a1, a2, a3, a4, a5, a6, a7] HA.out RR HRS.out).mono ?_; rintro e w2 ⟨o0, o1, o2, o3, o4, o5, o6, o7, rfl, ho, hb2⟩; have E2 : Hid (Below w1.heap.size w1 w2) := ((below_draws w1 _ 1).trans hb2); have hS2 := cells8 (HKA.out.later E2.out); obtain ⟨⟨z0, z1, z2, z3, z4, z5, z6, z7⟩, zf, zl⟩ := zeros8 (HKZ.out.later E2.out); have hS3 := cells8 (show DgAt _ w.heap.size _ _ from Bk.grown HKA.out (only_put8 (only_below (only_refl w1 (w.heap.size + 1)) E2.out) o0 o1 o2 o3 o4 o5 o6 o7) (by simp)); clear hb2))
  have HZ8 := Lib.hid (Bk.put8 (HKZ.out.later E2.out) rfl o0 o1 o2 o3 o4 o5 o6 o7)
  have HBL := Lib.hid (below_put8 (B := w.heap.size) (g := w.heap.size + 1) (HB1.out.trans (E2.out.mono HB1.out.size)) (by omega) o0 o1 o2 o3 o4 o5 o6 o7)
  have HI := dg_info [o0, o1, o2, o3, o4, o5, o6, o7] ⟨rfl, by rw [← ho.out]; exact (wordI_ok _ _).byt⟩
  clear z0 z1 z2 z3 z4 z5 z6 z7 zf zl hS hS2 hS3
  go_wp2_with fail
  refine bodyPost_ret (results_cell_row (p := 4) (ty := 28) rfl _ _ (w.heap.size + 1) 28 (dgA [o0, o1, o2, o3, o4, o5, o6, o7]) (0, 0) _ rfl HZ8.out.heap Tryd.underlying28 rfl HI.out) rfl ?_
  exact ⟨by rw [← HTOP.out, ho.out], HBL.out⟩
end Go.Proofs.YtbpmomedhdmloaaDoor
