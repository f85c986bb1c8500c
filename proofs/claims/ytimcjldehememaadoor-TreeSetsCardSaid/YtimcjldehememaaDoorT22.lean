/- The chapter's example. -/
import Derived.Test.YtimcjldehememaaDoorT21
namespace Go.Proofs.YtimcjldehememaaDoor
open Go.RowKit

theorem ok_lit {l : List Int} (hl : l.length = 8) (hb : (l.all fun x => decide (0 ≤ x ∧ x < 256)) = true) : DgOk l := ⟨hl, fun b h => by
  have := List.all_eq_true.1 hb b h
  simpa using this⟩
theorem one_ok : DgOk oneD := ok_lit rfl (by decide)
theorem two_ok : DgOk twoD := ok_lit rfl (by decide)
theorem rone_ok : DgOk rOne := ok_lit rfl (by decide)
theorem rboth_ok : DgOk rBoth := ok_lit rfl (by decide)
theorem pone_ok : DgOk pOne := ok_lit rfl (by decide)
theorem ds1_ok {a : List Int} (ha : DgOk a) : DsOk [a] := fun d hd => by rw [List.mem_singleton.1 hd]; exact ha
theorem ds2_ok {a b : List Int} (ha : DgOk a) (hb : DgOk b) : DsOk [a, b] := fun d hd => by
  simp only [List.mem_cons, List.not_mem_nil, or_false] at hd
  rcases hd with rfl | rfl
  · exact ha
  · exact hb

theorem told_cells {w w' : World} {qa qb qr qs : Nat} (ha : DgAt w qa 26 oneD) (hb : DgAt w qb 26 twoD) (hr : DgAt w qr 26 rOne) (hs : DgAt w qs 26 rBoth) (h : Below w.heap.size w w') :
    w'.cell? ⟨qa, 0, none⟩ = some (.int .u8 1) ∧ w'.cell? ⟨qa, 1, none⟩ = some (.int .u8 0) ∧ w'.cell? ⟨qa, 2, none⟩ = some (.int .u8 0) ∧ w'.cell? ⟨qa, 3, none⟩ = some (.int .u8 0) ∧ w'.cell? ⟨qa, 4, none⟩ = some (.int .u8 0) ∧ w'.cell? ⟨qa, 5, none⟩ = some (.int .u8 0) ∧ w'.cell? ⟨qa, 6, none⟩ = some (.int .u8 0) ∧ w'.cell? ⟨qa, 7, none⟩ = some (.int .u8 0) ∧ w'.cell? ⟨qb, 0, none⟩ = some (.int .u8 2) ∧ w'.cell? ⟨qb, 1, none⟩ = some (.int .u8 0) ∧ w'.cell? ⟨qb, 2, none⟩ = some (.int .u8 0) ∧ w'.cell? ⟨qb, 3, none⟩ = some (.int .u8 0) ∧ w'.cell? ⟨qb, 4, none⟩ = some (.int .u8 0) ∧ w'.cell? ⟨qb, 5, none⟩ = some (.int .u8 0) ∧ w'.cell? ⟨qb, 6, none⟩ = some (.int .u8 0) ∧ w'.cell? ⟨qb, 7, none⟩ = some (.int .u8 0) ∧ w'.cell? ⟨qr, 0, none⟩ = some (.int .u8 138) ∧ w'.cell? ⟨qr, 1, none⟩ = some (.int .u8 64) ∧ w'.cell? ⟨qr, 2, none⟩ = some (.int .u8 187) ∧ w'.cell? ⟨qr, 3, none⟩ = some (.int .u8 13) ∧ w'.cell? ⟨qr, 4, none⟩ = some (.int .u8 60) ∧ w'.cell? ⟨qr, 5, none⟩ = some (.int .u8 175) ∧ w'.cell? ⟨qr, 6, none⟩ = some (.int .u8 160) ∧ w'.cell? ⟨qr, 7, none⟩ = some (.int .u8 63) ∧ w'.cell? ⟨qs, 0, none⟩ = some (.int .u8 231) ∧ w'.cell? ⟨qs, 1, none⟩ = some (.int .u8 74) ∧ w'.cell? ⟨qs, 2, none⟩ = some (.int .u8 47) ∧ w'.cell? ⟨qs, 3, none⟩ = some (.int .u8 252) ∧ w'.cell? ⟨qs, 4, none⟩ = some (.int .u8 211) ∧ w'.cell? ⟨qs, 5, none⟩ = some (.int .u8 164) ∧ w'.cell? ⟨qs, 6, none⟩ = some (.int .u8 4) ∧ w'.cell? ⟨qs, 7, none⟩ = some (.int .u8 152) := by
  obtain ⟨a0, a1, a2, a3, a4, a5, a6, a7⟩ := cells8 (ha.later h)
  obtain ⟨b0, b1, b2, b3, b4, b5, b6, b7⟩ := cells8 (hb.later h)
  obtain ⟨r0, r1, r2, r3, r4, r5, r6, r7⟩ := cells8 (hr.later h)
  obtain ⟨s0, s1, s2, s3, s4, s5, s6, s7⟩ := cells8 (hs.later h)
  exact ⟨a0, a1, a2, a3, a4, a5, a6, a7, b0, b1, b2, b3, b4, b5, b6, b7, r0, r1, r2, r3, r4, r5, r6, r7, s0, s1, s2, s3, s4, s5, s6, s7⟩
theorem word_t1 (W : World) : Calls Tryd.prog 35 #[.agg #[.int .u8 1, .int .u8 0, .int .u8 0, .int .u8 0, .int .u8 0, .int .u8 0, .int .u8 0, .int .u8 0], .string ⟨#[108, 101, 97, 102]⟩] W fun e w' => e = .returned (.agg #[.int .u8 183, .int .u8 25, .int .u8 81, .int .u8 75, .int .u8 160, .int .u8 39, .int .u8 194, .int .u8 57]) ∧ Below W.heap.size W w' := by
  have := word_any W oneD one_ok leafS (by decide)
  rw [show wordI oneD (bytesOf leafS) = pOne from low_one] at this
  exact this
theorem word_t2 (W : World) : Calls Tryd.prog 35 #[.agg #[.int .u8 183, .int .u8 25, .int .u8 81, .int .u8 75, .int .u8 160, .int .u8 39, .int .u8 194, .int .u8 57], .string ⟨#[114, 111, 111, 116, 48]⟩] W fun e w' => e = .returned (.agg #[.int .u8 138, .int .u8 64, .int .u8 187, .int .u8 13, .int .u8 60, .int .u8 175, .int .u8 160, .int .u8 63]) ∧ Below W.heap.size W w' := by
  have := word_any W pOne pone_ok ⟨#[114, 111, 111, 116, 48]⟩ (by decide)
  rw [word_one] at this
  exact this
theorem check_t1 (W : World) (A : Option Addr) (c : Nat) (hs : Sl W W.heap.size 8 A 1 (cellsD [pOne])) : Calls Tryd.prog 21 #[.agg #[.int .u8 231, .int .u8 74, .int .u8 47, .int .u8 252, .int .u8 211, .int .u8 164, .int .u8 4, .int .u8 152], .int .i64 1, .agg #[.int .u8 2, .int .u8 0, .int .u8 0, .int .u8 0, .int .u8 0, .int .u8 0, .int .u8 0, .int .u8 0], .slice A 1 c] W fun e w' => e = .returned (.bool true) ∧ Below W.heap.size W w' := by
  have := Check_any W rBoth 1 twoD rboth_ok two_ok A 1 c [pOne] (ds1_ok pone_ok) hs
  rw [check_1] at this
  exact this
theorem check_t0 (W : World) (A : Option Addr) (c : Nat) (hs : Sl W W.heap.size 8 A 1 (cellsD [pOne])) : Calls Tryd.prog 21 #[.agg #[.int .u8 231, .int .u8 74, .int .u8 47, .int .u8 252, .int .u8 211, .int .u8 164, .int .u8 4, .int .u8 152], .int .i64 0, .agg #[.int .u8 2, .int .u8 0, .int .u8 0, .int .u8 0, .int .u8 0, .int .u8 0, .int .u8 0, .int .u8 0], .slice A 1 c] W fun e w' => e = .returned (.bool false) ∧ Below W.heap.size W w' := by
  have := Check_any W rBoth 0 twoD rboth_ok two_ok A 1 c [pOne] (ds1_ok pone_ok) hs
  rw [check_0] at this
  exact this
theorem height_5 (W : World) : Calls Tryd.prog 16 #[.int .i64 5] W fun e w' => e = .returned (.int .i64 3) ∧ W = w' := theight_any 5 W

set_option maxRecDepth 20000 in
set_option maxHeartbeats 2000000 in
theorem told_any (w : World) : Calls Tryd.prog 15 #[] w fun e w' => e = .returned (.bool true) ∧ Below w.heap.size w w' := by
  obtain ⟨w1, hw1⟩ : ∃ w1, ((w.alloc (.cells #[.int .u8 1, .int .u8 0, .int .u8 0, .int .u8 0, .int .u8 0, .int .u8 0, .int .u8 0, .int .u8 0] 26)).alloc (.cells #[.int .u8 2, .int .u8 0, .int .u8 0, .int .u8 0, .int .u8 0, .int .u8 0, .int .u8 0, .int .u8 0] 26)) = w1 := ⟨_, rfl⟩
  have ka : DgAt w1 w.heap.size 26 oneD := hw1 ▸ Bk.alloc (Bk.new w _ _) _
  have kb : DgAt w1 (w.heap.size + 1) 26 twoD := hw1 ▸ Bk.at_ _ _ _ (by simp) rfl
  have hb1 : Below w.heap.size w w1 := hw1 ▸ (below_new w _).alloc (by simp) _
  have HW1 := Lib.hid hw1; have HKA := Lib.hid ka; have HKB := Lib.hid kb; have HB1 := Lib.hid hb1
  obtain ⟨a0, a1, a2, a3, a4, a5, a6, a7⟩ := cells8 ka
  have hsl1 : Sl (w1.alloc (.cells #[.int .u8 1, .int .u8 0, .int .u8 0, .int .u8 0, .int .u8 0, .int .u8 0, .int .u8 0, .int .u8 0] 26)) (w1.alloc (.cells #[.int .u8 1, .int .u8 0, .int .u8 0, .int .u8 0, .int .u8 0, .int .u8 0, .int .u8 0, .int .u8 0] 26)).heap.size 8 (some ⟨w1.heap.size, 0, none⟩) 1 (cellsD [oneD]) := sl_new w1 _ _ 8 1 rfl (by omega)
  have HSL1 := Lib.hid hsl1
  clear hw1 ka kb hb1 hsl1
  go_enter Tryd.func15, Tryd.ntmps15
  go_upto_region 2 with fail
  rw [HW1.out]
  go_wp2_with fail
  refine (treeRoot_any _ _ 1 1 [oneD] (ds1_ok one_ok) HSL1.out).mono ?_
  rintro e w2 ⟨rfl, hb2⟩
  rw [root_one, show rootE 1 = 0 from rfl, show dgA rOne = #[.int .u8 138, .int .u8 64, .int .u8 187, .int .u8 13, .int .u8 60, .int .u8 175, .int .u8 160, .int .u8 63] from rfl]
  have B2 := below_then (below_new w1 (.cells #[.int .u8 1, .int .u8 0, .int .u8 0, .int .u8 0, .int .u8 0, .int .u8 0, .int .u8 0, .int .u8 0] 26)) hb2
  clear hb2 HSL1 a0 a1 a2 a3 a4 a5 a6 a7
  go_upto_region 3 with fail
  obtain ⟨w3, hw3⟩ : ∃ w3, w2.alloc (.cells #[.int .u8 138, .int .u8 64, .int .u8 187, .int .u8 13, .int .u8 60, .int .u8 175, .int .u8 160, .int .u8 63] 26) = w3 := ⟨_, rfl⟩
  obtain ⟨gr, hgr⟩ : ∃ gr, w2.heap.size = gr := ⟨_, rfl⟩
  have kr3 : DgAt w3 gr 26 rOne := hw3 ▸ Bk.at_ _ _ _ hgr rfl
  have B3 : Below w1.heap.size w1 w3 := below_then B2 (hw3 ▸ below_new w2 _)
  have ka3 := HKA.out.later B3
  have kb3 := HKB.out.later B3
  obtain ⟨a0, a1, a2, a3, a4, a5, a6, a7⟩ := cells8 ka3
  obtain ⟨b0, b1, b2, b3, b4, b5, b6, b7⟩ := cells8 kb3
  have hsl3 : Sl (w3.alloc (.cells #[.int .u8 1, .int .u8 0, .int .u8 0, .int .u8 0, .int .u8 0, .int .u8 0, .int .u8 0, .int .u8 0, .int .u8 2, .int .u8 0, .int .u8 0, .int .u8 0, .int .u8 0, .int .u8 0, .int .u8 0, .int .u8 0] 26)) (w3.alloc (.cells #[.int .u8 1, .int .u8 0, .int .u8 0, .int .u8 0, .int .u8 0, .int .u8 0, .int .u8 0, .int .u8 0, .int .u8 2, .int .u8 0, .int .u8 0, .int .u8 0, .int .u8 0, .int .u8 0, .int .u8 0, .int .u8 0] 26)).heap.size 8 (some ⟨w3.heap.size, 0, none⟩) 2 (cellsD [oneD, twoD]) := sl_new w3 _ _ 8 2 rfl (by omega)
  have HSL3 := Lib.hid hsl3; have HKR := Lib.hid kr3; have HB3 := Lib.hid B3; have HGR := Lib.hid hgr
  rw [hw3, hgr]
  clear hw3 B2 B3 ka3 kb3 kr3 hsl3 hgr
  go_wp2_with fail
  refine (treePath_any _ _ 2 2 1 [oneD, twoD] (ds2_ok one_ok two_ok) HSL3.out).mono ?_
  rintro e w4 ⟨⟨v, rfl, hown⟩, hb4⟩
  rw [path_both] at hown
  obtain ⟨gp, cp, rfl, hgp, hgpl⟩ := hown.form (by decide)
  rw [show pathE 2 1 = 0 from rfl, show ([pOne] : List (List Int)).length = 1 from rfl]
  have B4 := below_then HB3.out (below_then (below_new w3 (.cells #[.int .u8 1, .int .u8 0, .int .u8 0, .int .u8 0, .int .u8 0, .int .u8 0, .int .u8 0, .int .u8 0, .int .u8 2, .int .u8 0, .int .u8 0, .int .u8 0, .int .u8 0, .int .u8 0, .int .u8 0, .int .u8 0] 26)) hb4)
  have HKR4 := Lib.hid (HKR.out.later (below_then (below_new w3 (.cells #[.int .u8 1, .int .u8 0, .int .u8 0, .int .u8 0, .int .u8 0, .int .u8 0, .int .u8 0, .int .u8 0, .int .u8 2, .int .u8 0, .int .u8 0, .int .u8 0, .int .u8 0, .int .u8 0, .int .u8 0, .int .u8 0] 26)) hb4))
  have HOW := Lib.hid hown
  have HB4 := Lib.hid B4
  have ka4 := HKA.out.later B4
  have kb4 := HKB.out.later B4
  clear a0 a1 a2 a3 a4 a5 a6 a7 b0 b1 b2 b3 b4 b5 b6 b7 hb4 B4 hown HKR HSL3 HB3
  obtain ⟨a0, a1, a2, a3, a4, a5, a6, a7⟩ := cells8 ka4
  obtain ⟨b0, b1, b2, b3, b4, b5, b6, b7⟩ := cells8 kb4
  have hsl4 : Sl (w4.alloc (.cells #[.int .u8 1, .int .u8 0, .int .u8 0, .int .u8 0, .int .u8 0, .int .u8 0, .int .u8 0, .int .u8 0, .int .u8 2, .int .u8 0, .int .u8 0, .int .u8 0, .int .u8 0, .int .u8 0, .int .u8 0, .int .u8 0] 26)) (w4.alloc (.cells #[.int .u8 1, .int .u8 0, .int .u8 0, .int .u8 0, .int .u8 0, .int .u8 0, .int .u8 0, .int .u8 0, .int .u8 2, .int .u8 0, .int .u8 0, .int .u8 0, .int .u8 0, .int .u8 0, .int .u8 0, .int .u8 0] 26)).heap.size 8 (some ⟨w4.heap.size, 0, none⟩) 2 (cellsD [oneD, twoD]) := sl_new w4 _ _ 8 2 rfl (by omega)
  have HSL4 := Lib.hid hsl4
  clear ka4 kb4 hsl4
  go_wp2_with fail
  refine (treeRoot_any _ _ 2 2 [oneD, twoD] (ds2_ok one_ok two_ok) HSL4.out).mono ?_
  rintro e w5 ⟨rfl, hb5⟩
  rw [root_both, show rootE 2 = 0 from rfl, show dgA rBoth = #[.int .u8 231, .int .u8 74, .int .u8 47, .int .u8 252, .int .u8 211, .int .u8 164, .int .u8 4, .int .u8 152] from rfl]
  have B5 := below_then (below_new w4 (.cells #[.int .u8 1, .int .u8 0, .int .u8 0, .int .u8 0, .int .u8 0, .int .u8 0, .int .u8 0, .int .u8 0, .int .u8 2, .int .u8 0, .int .u8 0, .int .u8 0, .int .u8 0, .int .u8 0, .int .u8 0, .int .u8 0] 26)) hb5
  clear hb5 HSL4 a0 a1 a2 a3 a4 a5 a6 a7 b0 b1 b2 b3 b4 b5 b6 b7
  go_upto_region 5 with fail
  obtain ⟨w6, hw6⟩ : ∃ w6, w5.alloc (.cells #[.int .u8 231, .int .u8 74, .int .u8 47, .int .u8 252, .int .u8 211, .int .u8 164, .int .u8 4, .int .u8 152] 26) = w6 := ⟨_, rfl⟩
  obtain ⟨gs, hgs⟩ : ∃ gs, w5.heap.size = gs := ⟨_, rfl⟩
  have ks6 : DgAt w6 gs 26 rBoth := hw6 ▸ Bk.at_ _ _ _ hgs rfl
  have B46 : Below w4.heap.size w4 w6 := below_then B5 (hw6 ▸ below_new w5 _)
  have B6 : Below w1.heap.size w1 w6 := below_then HB4.out B46
  have ka6 := HKA.out.later B6
  have kb6 := HKB.out.later B6
  have kr6 := HKR4.out.later B46
  have HSLP := Lib.hid (Sl.of_own (own_keep HOW.out B46))
  have hS6 := told_cells ka6 kb6 kr6 ks6 (Below.refl _ _)
  have HK6 : Hid (DgAt w6 w.heap.size 26 oneD ∧ DgAt w6 (w.heap.size + 1) 26 twoD ∧ DgAt w6 gr 26 rOne ∧ DgAt w6 gs 26 rBoth) := ⟨ka6, kb6, kr6, ks6⟩
  have HB6 := Lib.hid (below_then HB1.out B6)
  have heq1 : ∀ W, (Op.equalIn 10000 26 (.agg #[.int .u8 138, .int .u8 64, .int .u8 187, .int .u8 13, .int .u8 60, .int .u8 175, .int .u8 160, .int .u8 63]) (.agg #[.int .u8 138, .int .u8 64, .int .u8 187, .int .u8 13, .int .u8 60, .int .u8 175, .int .u8 160, .int .u8 63])).run Tryd.prog W = .ok true W := fun W => (dg_equal 138 64 187 13 60 175 160 63 138 64 187 13 60 175 160 63 W).trans (by rw [show eqL [138, 64, 187, 13, 60, 175, 160, 63] [138, 64, 187, 13, 60, 175, 160, 63] = true by decide])
  have heq2 : ∀ W, (Op.equalIn 10000 26 (.agg #[.int .u8 138, .int .u8 64, .int .u8 187, .int .u8 13, .int .u8 60, .int .u8 175, .int .u8 160, .int .u8 63]) (.agg #[.int .u8 0, .int .u8 0, .int .u8 0, .int .u8 0, .int .u8 0, .int .u8 0, .int .u8 0, .int .u8 0])).run Tryd.prog W = .ok false W := fun W => (dg_equal 138 64 187 13 60 175 160 63 0 0 0 0 0 0 0 0 W).trans (by rw [show eqL [138, 64, 187, 13, 60, 175, 160, 63] [0, 0, 0, 0, 0, 0, 0, 0] = false by decide])
  rw [hw6, hgs]
  clear hw6 hgs B5 B46 B6 ka6 kb6 kr6 ks6 HKA HKB HKR4 HOW HB4 HB1 HGR HW1
  have tok1 : True := trivial
  go_region_held3 (fun w' => w'.cell? ⟨w.heap.size, 0, none⟩ = some (.int .u8 1) ∧ w'.cell? ⟨w.heap.size, 1, none⟩ = some (.int .u8 0) ∧ w'.cell? ⟨w.heap.size, 2, none⟩ = some (.int .u8 0) ∧ w'.cell? ⟨w.heap.size, 3, none⟩ = some (.int .u8 0) ∧ w'.cell? ⟨w.heap.size, 4, none⟩ = some (.int .u8 0) ∧ w'.cell? ⟨w.heap.size, 5, none⟩ = some (.int .u8 0) ∧ w'.cell? ⟨w.heap.size, 6, none⟩ = some (.int .u8 0) ∧ w'.cell? ⟨w.heap.size, 7, none⟩ = some (.int .u8 0) ∧ w'.cell? ⟨w.heap.size + 1, 0, none⟩ = some (.int .u8 2) ∧ w'.cell? ⟨w.heap.size + 1, 1, none⟩ = some (.int .u8 0) ∧ w'.cell? ⟨w.heap.size + 1, 2, none⟩ = some (.int .u8 0) ∧ w'.cell? ⟨w.heap.size + 1, 3, none⟩ = some (.int .u8 0) ∧ w'.cell? ⟨w.heap.size + 1, 4, none⟩ = some (.int .u8 0) ∧ w'.cell? ⟨w.heap.size + 1, 5, none⟩ = some (.int .u8 0) ∧ w'.cell? ⟨w.heap.size + 1, 6, none⟩ = some (.int .u8 0) ∧ w'.cell? ⟨w.heap.size + 1, 7, none⟩ = some (.int .u8 0) ∧ w'.cell? ⟨gr, 0, none⟩ = some (.int .u8 138) ∧ w'.cell? ⟨gr, 1, none⟩ = some (.int .u8 64) ∧ w'.cell? ⟨gr, 2, none⟩ = some (.int .u8 187) ∧ w'.cell? ⟨gr, 3, none⟩ = some (.int .u8 13) ∧ w'.cell? ⟨gr, 4, none⟩ = some (.int .u8 60) ∧ w'.cell? ⟨gr, 5, none⟩ = some (.int .u8 175) ∧ w'.cell? ⟨gr, 6, none⟩ = some (.int .u8 160) ∧ w'.cell? ⟨gr, 7, none⟩ = some (.int .u8 63) ∧ w'.cell? ⟨gs, 0, none⟩ = some (.int .u8 231) ∧ w'.cell? ⟨gs, 1, none⟩ = some (.int .u8 74) ∧ w'.cell? ⟨gs, 2, none⟩ = some (.int .u8 47) ∧ w'.cell? ⟨gs, 3, none⟩ = some (.int .u8 252) ∧ w'.cell? ⟨gs, 4, none⟩ = some (.int .u8 211) ∧ w'.cell? ⟨gs, 5, none⟩ = some (.int .u8 164) ∧ w'.cell? ⟨gs, 6, none⟩ = some (.int .u8 4) ∧ w'.cell? ⟨gs, 7, none⟩ = some (.int .u8 152)) (first | (with_reducible exact hS10) | (with_reducible exact hS9) | (with_reducible exact hS8) | (with_reducible exact hS7) | (with_reducible exact hS6) | go_keep)
    (first
      | (go_at_call 35; have _t := tok1; refine (word_t1 _).mono ?_; rintro e w7 ⟨rfl, hb7⟩; have E7 : Hid (Below w6.heap.size w6 w7) := ((below_draws w6 _ 1).trans hb7); have hS7 := told_cells HK6.out.1 HK6.out.2.1 HK6.out.2.2.1 HK6.out.2.2.2 E7.out; clear hb7 tok1 _t; have tok2 : True := trivial)
      | (go_at_call 35; have _t := tok2; refine (word_t2 _).mono ?_; rintro e w8 ⟨rfl, hb8⟩; have E8 : Hid (Below w6.heap.size w6 w8) := (E7.out.trans (hb8.mono E7.out.size)); have hS8 := told_cells HK6.out.1 HK6.out.2.1 HK6.out.2.2.1 HK6.out.2.2.2 E8.out; clear hb8 tok2 _t; have tok3 : True := trivial)
      | (go_at_call 21; have _t := tok3; refine (check_t1 _ _ _ ((HSLP.out.later E8.out))).mono ?_; rintro e w9 ⟨rfl, hb9⟩; have E9 : Hid (Below w6.heap.size w6 w9) := (E8.out.trans (hb9.mono E8.out.size)); have hS9 := told_cells HK6.out.1 HK6.out.2.1 HK6.out.2.2.1 HK6.out.2.2.2 E9.out; clear hb9 tok3 _t; have tok4 : True := trivial)
      | (go_at_call 21; have _t := tok4; refine (check_t0 _ _ _ ((HSLP.out.later E9.out))).mono ?_; rintro e w10 ⟨rfl, hb10⟩; have E10 : Hid (Below w6.heap.size w6 w10) := (E9.out.trans (hb10.mono E9.out.size)); have hS10 := told_cells HK6.out.1 HK6.out.2.1 HK6.out.2.2.1 HK6.out.2.2.2 E10.out; clear hb10)
      | (go_at_call 16; refine (height_5 _).mono ?_; rintro e w11 ⟨rfl, rfl⟩))
  have hbf := HB6.out.trans (E10.out.mono HB6.out.size)
  clear hS6 hS7 hS8 hS9 hS10 heq1 heq2
  go_wp2_with fail
  go_ret
  exact ⟨rfl, hbf⟩
end Go.Proofs.YtimcjldehememaaDoor
