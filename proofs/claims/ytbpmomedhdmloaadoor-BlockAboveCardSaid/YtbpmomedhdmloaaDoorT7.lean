/- Roots beside paths: told and checked; lists of digests, compared. -/
import Derived.Test.YtbpmomedhdmloaaDoorT6
import Derived.BigQuiet
namespace Go.Proofs.YtbpmomedhdmloaaDoor
open Go.RowKit

def eqD (ls ms : List (List Int)) : Bool := decide (ls = ms)
theorem dg_equal (a0 a1 a2 a3 a4 a5 a6 a7 b0 b1 b2 b3 b4 b5 b6 b7 : Int) (w : World) :
    (Op.equalIn 10000 28 (.agg #[.int .u8 a0, .int .u8 a1, .int .u8 a2, .int .u8 a3, .int .u8 a4, .int .u8 a5, .int .u8 a6, .int .u8 a7]) (.agg #[.int .u8 b0, .int .u8 b1, .int .u8 b2, .int .u8 b3, .int .u8 b4, .int .u8 b5, .int .u8 b6, .int .u8 b7])).run Tryd.prog w = .ok (eqL [a0, a1, a2, a3, a4, a5, a6, a7] [b0, b1, b2, b3, b4, b5, b6, b7]) w := by
  obtain ⟨i0, hi, hz0, hz1, hz2⟩ := info_parts Tryd.infoU8
  exact run_equalIn_ints (P := Tryd.prog) (k := .u8) 9998 28 5 8 Tryd.underlying28 Tryd.underlying5 hi hz1 [a0, a1, a2, a3, a4, a5, a6, a7] [b0, b1, b2, b3, b4, b5, b6, b7] rfl rfl w
theorem rdg_equal (a0 a1 a2 a3 a4 a5 a6 a7 b0 b1 b2 b3 b4 b5 b6 b7 : Int) (w : World) :
    (Op.equalIn 10000 22 (.agg #[.int .u8 a0, .int .u8 a1, .int .u8 a2, .int .u8 a3, .int .u8 a4, .int .u8 a5, .int .u8 a6, .int .u8 a7]) (.agg #[.int .u8 b0, .int .u8 b1, .int .u8 b2, .int .u8 b3, .int .u8 b4, .int .u8 b5, .int .u8 b6, .int .u8 b7])).run Tryd.prog w = .ok (eqL [a0, a1, a2, a3, a4, a5, a6, a7] [b0, b1, b2, b3, b4, b5, b6, b7]) w := by
  obtain ⟨i0, hi, hz0, hz1, hz2⟩ := info_parts Tryd.infoU8
  exact run_equalIn_ints (P := Tryd.prog) (k := .u8) 9998 22 5 8 Tryd.underlying22 Tryd.underlying5 hi hz1 [a0, a1, a2, a3, a4, a5, a6, a7] [b0, b1, b2, b3, b4, b5, b6, b7] rfl rfl w
theorem range8 {w : World} {b q : Nat} {a0 a1 a2 a3 a4 a5 a6 a7 : Int} (h : w.rangeAt b q ([a0, a1, a2, a3, a4, a5, a6, a7].map (Value.int .u8))) :
    w.cell? ⟨b, q, none⟩ = some (.int .u8 a0) ∧ w.cell? ⟨b, q + 1, none⟩ = some (.int .u8 a1) ∧ w.cell? ⟨b, q + 2, none⟩ = some (.int .u8 a2) ∧ w.cell? ⟨b, q + 3, none⟩ = some (.int .u8 a3) ∧ w.cell? ⟨b, q + 4, none⟩ = some (.int .u8 a4) ∧ w.cell? ⟨b, q + 5, none⟩ = some (.int .u8 a5) ∧ w.cell? ⟨b, q + 6, none⟩ = some (.int .u8 a6) ∧ w.cell? ⟨b, q + 7, none⟩ = some (.int .u8 a7) :=
  ⟨h 0 _ rfl, h 1 _ rfl, h 2 _ rfl, h 3 _ rfl, h 4 _ rfl, h 5 _ rfl, h 6 _ rfl, h 7 _ rfl⟩

def checkI (root : List Int) (i : Int) (leaf : List Int) (path : List (List Int)) : Bool := withB i path.length && eqL (withI i leaf path) root
set_option maxRecDepth 20000 in
theorem Check_any (w : World) (root : List Int) (i : Int) (leaf : List Int) (hr : DgOk root) (hd : DgOk leaf) (A : Option Addr) (n c : Nat) (ls : List (List Int)) (ho : DsOk ls) (hs : Sl w w.heap.size 8 A n (cellsD ls)) :
    Calls Tryd.prog 46 #[.agg (dgA root), .int .i64 i, .agg (dgA leaf), .slice A n c] w fun e w' => e = .returned (.bool (checkI root i leaf ls)) ∧ Below w.heap.size w w' := by
  have hlen := hs.dgs ho
  obtain ⟨w1, hw1⟩ : ∃ w1, (w.alloc (.cells (dgA root) 28)).alloc (.cells (dgA leaf) 28) = w1 := ⟨_, rfl⟩
  have kr : DgAt w1 w.heap.size 28 root := hw1 ▸ Bk.alloc (dg_new w _ _) _
  have kd : DgAt w1 (w.heap.size + 1) 28 leaf := hw1 ▸ Bk.at_ _ _ _ (by simp) (dgA_list _)
  have hb1 : Below w.heap.size w w1 := hw1 ▸ (below_new w _).alloc (by simp) _
  have HKR := Lib.hid kr; have HB1 := Lib.hid hb1; have HW := Lib.hid hw1; have HS := Lib.hid hs; have HDO := Lib.hid ho; have HD := Lib.hid hd
  have HC1 := Lib.hid kd.heap
  have HID := dg_info leaf hd
  have HCI := Lib.hid (show checkI root i leaf ls = (withB i n && eqL (withI i leaf ls) root) by rw [checkI, hlen])
  clear kd kr hb1 hw1 hs ho hd hlen
  go_enter Tryd.func46, Tryd.ntmps46
  go_upto_region 1 with fail
  rw [HW.out]
  go_wp2_with (refine wpList_load_row rfl 28 _ rfl (w.heap.size + 1) rfl 28 (dgA leaf) (0, 0) _ HC1.out Tryd.underlying28 rfl HID.out ?_)
  refine (twith_any _ i leaf HD.out A n c ls HDO.out ((HS.out.below HB1.out).more HB1.out.size)).mono ?_
  rintro e w2 ⟨rfl, hb2⟩
  have HB2 := Lib.hid (HB1.out.trans (hb2.mono HB1.out.size))
  have HR2 := Lib.hid (HKR.out.later hb2)
  have hwo := withI_ok i leaf ls
  obtain ⟨R, hR⟩ : ∃ R, withI i leaf ls = R := ⟨_, rfl⟩
  obtain ⟨bb, hbb⟩ : ∃ bb, withB i n = bb := ⟨_, rfl⟩
  rw [hR, hbb] at HCI
  rw [hR] at hwo
  rw [hR, hbb]
  obtain ⟨r0, r1, r2, r3, r4, r5, r6, r7, rfl⟩ := list8 R hwo.len
  obtain ⟨q0, q1, q2, q3, q4, q5, q6, q7, rfl⟩ := list8 root hr.len
  have HIR := dg_info [r0, r1, r2, r3, r4, r5, r6, r7] hwo
  have HOR := Lib.hid (dgA_one [r0, r1, r2, r3, r4, r5, r6, r7])
  have hg2 : w.heap.size < w2.heap.size := Bk.lt HR2.out
  have HSR : Hid ((dgA zeroD).size = (dgA [r0, r1, r2, r3, r4, r5, r6, r7]).size) := rfl
  have s1 : DgAt ((w2.alloc (.cells (dgA zeroD) 28)).setRow w2.heap.size (dgA [r0, r1, r2, r3, r4, r5, r6, r7])) w2.heap.size 28 [r0, r1, r2, r3, r4, r5, r6, r7] := DgAt.row (dg_new w2 _ zeroD) _
  have s2 : DgAt ((w2.alloc (.cells (dgA zeroD) 28)).setRow w2.heap.size (dgA [r0, r1, r2, r3, r4, r5, r6, r7])) w.heap.size 28 [q0, q1, q2, q3, q4, q5, q6, q7] := Bk.rowFar (Bk.alloc HR2.out _) (by omega) _
  have s3 : Below w.heap.size w ((w2.alloc (.cells (dgA zeroD) 28)).setRow w2.heap.size (dgA [r0, r1, r2, r3, r4, r5, r6, r7])) := below_setRow (HB2.out.alloc HB2.out.size _) (by omega) _
  obtain ⟨w3, hw3⟩ : ∃ w3, (w2.alloc (.cells (dgA zeroD) 28)).setRow w2.heap.size (dgA [r0, r1, r2, r3, r4, r5, r6, r7]) = w3 := ⟨_, rfl⟩
  rw [hw3] at s1 s2 s3
  have HW3 := Lib.hid hw3
  obtain ⟨c0, c1, c2, c3, c4, c5, c6, c7⟩ := cells8 s1
  obtain ⟨e0, e1, e2, e3, e4, e5, e6, e7⟩ := cells8 s2
  have S3 := Lib.hid s3
  have heq := fun w => dg_equal r0 r1 r2 r3 r4 r5 r6 r7 q0 q1 q2 q3 q4 q5 q6 q7 w
  clear s1 s2 s3 hb2 hwo hR hw3 hbb hr
  cases bb
  · go_wp2_with (refine wpList_store_row rfl 28 _ _ rfl w2.heap.size (dgA [r0, r1, r2, r3, r4, r5, r6, r7]) rfl rfl 28 (dgA zeroD) (dg_new w2 _ zeroD).heap HIR.out HSR.out HOR.out ?_; rw [zero8, show List.replicate 8 (0 : Int) = zeroD from rfl, HW3.out])
    go_ret
    exact ⟨by rw [HCI.out]; rfl, S3.out⟩
  · go_wp2_with (refine wpList_store_row rfl 28 _ _ rfl w2.heap.size (dgA [r0, r1, r2, r3, r4, r5, r6, r7]) rfl rfl 28 (dgA zeroD) (dg_new w2 _ zeroD).heap HIR.out HSR.out HOR.out ?_; rw [zero8, show List.replicate 8 (0 : Int) = zeroD from rfl, HW3.out])
    go_ret
    exact ⟨by rw [HCI.out]; rfl, S3.out⟩
end Go.Proofs.YtbpmomedhdmloaaDoor
