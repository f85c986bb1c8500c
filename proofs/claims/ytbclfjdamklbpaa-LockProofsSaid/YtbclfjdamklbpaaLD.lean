/- The next hop's lock, and whether one fits: what mayn't be. -/
import Derived.Test.YtbclfjdamklbpaaLC
namespace Go.Proofs.Ytbclfjdamklbpaa
set_option linter.unusedSimpArgs false
set_option linter.unusedVariables false
open Go.RowKit Go.Maps

theorem next_ret {w : World} {g : Nat} {cs : List Value} {e : Int} (h : Bk w g 26 cs) (hi : (Try.prog.info? 26).map (·.size) = some cs.length) (tmps : Array Value) (h4 : tmps.getD 4 undef = .pointer (some ⟨g, 0, none⟩)) (h5 : tmps.getD 5 undef = .int .i64 e) :
    (results Try.f17 tmps).run Try.prog w = .ok (.tuple #[.agg cs.toArray, .int .i64 e]) w := by
  have r1 : w.rangeAt g 0 cs := Bk.range (pre := []) (post := []) (by simpa using h) rfl
  have l1 := run_loadVar_mid (P := Try.prog) w g 0 26 cs _ r1 Try.underlying26 rfl hi
  rw [Array.getD_eq_getD_getElem?] at h4 h5
  simp [results, Try.results17, h4, h5, asAddr, l1]
theorem z_lk (w : World) : (Instr.build 26 #[]).run Try.prog w = .ok (.agg zLk'.toArray) w := by kernel_rfl
theorem zlk_size : (Try.prog.info? 26).map (·.size) = some zLk'.length := by kernel_rfl
theorem zlk_one : ∀ x ∈ zLk', x.oneCell' = true := by decide
set_option maxRecDepth 20000 in
set_option maxHeartbeats 2000000 in
theorem next_bad (w : World) (L : LkT) (hh : DgOk L.h) (A : Option Addr) (N C : Nat) (win : Int) (hc : checkL L.k L.s L.c L.u N ≠ 0) :
    Calls Try.prog 17 #[.agg (lkC L (.slice A N C)).toArray, .int .i64 win] w fun e w' => e = .returned (.tuple #[.agg zLk'.toArray, .int .i64 (checkL L.k L.s L.c L.u N)]) ∧ Below w.heap.size w w' := by
  have HCK := Lib.hid (fun w' => lcheck_any w' L hh A N C)
  obtain ⟨x, hx⟩ : ∃ x, checkL L.k L.s L.c L.u N = x := ⟨_, rfl⟩
  rw [hx] at HCK hc ⊢
  have hne : (x != 0) = true := by simpa using hc
  clear hx hc
  obtain ⟨l, hl⟩ : ∃ x, lkC L (.slice A N C) = x := ⟨_, rfl⟩
  obtain ⟨X, hX⟩ : ∃ X, l.toArray = X := ⟨_, rfl⟩
  obtain ⟨z, hz⟩ : ∃ z, w.heap.size = z := ⟨_, rfl⟩
  obtain ⟨w1, hw1⟩ : ∃ w1, (w.alloc (.cells X 26)).alloc (.cells #[.int .i64 0, .int .u8 0, .int .u8 0, .int .u8 0, .int .u8 0, .int .u8 0, .int .u8 0, .int .u8 0, .int .u8 0, .slice none 0 0, .int .i64 0, .int .i64 0, .int .i64 0] 26) = w1 := ⟨_, rfl⟩
  have hb1 : Below w.heap.size w w1 := hw1 ▸ (below_new w _).alloc (by simp) _
  have kx : Bk w1 z 26 (lkC L (.slice A N C)) := hw1 ▸ (Bk.at_ w _ X hz (by rw [← hX, ← hl])).alloc _
  have kr : Bk w1 (z + 1) 26 zLk' := hw1 ▸ Bk.at_ _ _ _ (by simp [hz]) rfl
  have HW := Lib.hid hw1; have HB1 := Lib.hid hb1; have HL1 := Lib.hid kx; have HR1 := Lib.hid kr; have HHO := Lib.hid hh; have HZ := Lib.hid hz
  rw [hl, hX]
  clear hl hX hw1 hb1 kx kr hh hz
  go_enter Try.func17, Try.ntmps17
  go_upto_region 1 with fail
  rw [HW.out, HZ.out]
  go_wp2_with (with_reducible refine wpList_load_bk rfl 26 _ rfl z rfl (lkC L (.slice A N C)) 26 HL1.out _ Try.underlying26 rfl (lk_sz HHO.out _) ?_)
  refine (HCK.out w1).mono ?_
  rintro e w2 ⟨rfl, hbn⟩
  have HR2 := Lib.hid (HR1.out.later hbn); have HB2 := Lib.hid (below_then HB1.out hbn)
  clear hbn
  have hzl := z_lk
  go_wp2_with (first
    | ((with_reducible refine wpList_build rfl 26 _ rfl #[] ?_ _ (hzl _) ?_); focus (simp [Act.eval, Act.put]; done))
    | (with_reducible refine stop_store 26 _ _ rfl ?_))
  refine StopD.go ?_
  refine wpList_store_part rfl 26 _ _ rfl (z + 1) 0 (.agg zLk'.toArray) zLk' rfl rfl rfl 26 [] zLk' [] (by simpa using HR2.out) rfl rfl zlk_size zlk_one ?_
  intro wz hp
  have HRz : Hid (Bk wz (z + 1) 26 zLk') := by show Bk _ _ _ _; have := hp.bk; simpa using this
  have HBz := Lib.hid (below_only HB2.out hp.only HB2.out.size (by rw [HZ.out]; exact Nat.le_succ z))
  clear hp hzl
  go_wp2_with fail
  refine bodyPost_ret (next_ret HRz.out zlk_size _ rfl rfl) rfl ?_
  exact ⟨rfl, HBz.out⟩
set_option maxRecDepth 20000 in
set_option maxHeartbeats 2000000 in
theorem fits_bad1 (w : World) (L P : LkT) (hh : DgOk L.h) (hh2 : DgOk P.h) (A B : Option Addr) (N C M D : Nat) (win : Int) (hc : checkL L.k L.s L.c L.u N ≠ 0) :
    Calls Try.prog 19 #[.agg (lkC L (.slice A N C)).toArray, .agg (lkC P (.slice B M D)).toArray, .int .i64 win] w fun e w' => e = .returned (.int .i64 (checkL L.k L.s L.c L.u N)) ∧ Below w.heap.size w w' := by
  have HCK := Lib.hid (fun w' => lcheck_any w' L hh A N C)
  obtain ⟨x, hx⟩ : ∃ x, checkL L.k L.s L.c L.u N = x := ⟨_, rfl⟩
  rw [hx] at HCK hc ⊢
  have hne : (x != 0) = true := by simpa using hc
  clear hx hc
  obtain ⟨l, hl⟩ : ∃ x, lkC L (.slice A N C) = x := ⟨_, rfl⟩
  obtain ⟨X, hX⟩ : ∃ X, l.toArray = X := ⟨_, rfl⟩
  obtain ⟨l2, hl2⟩ : ∃ x, lkC P (.slice B M D) = x := ⟨_, rfl⟩
  obtain ⟨Y, hY⟩ : ∃ X, l2.toArray = X := ⟨_, rfl⟩
  obtain ⟨z, hz⟩ : ∃ z, w.heap.size = z := ⟨_, rfl⟩
  obtain ⟨w1, hw1⟩ : ∃ w1, (w.alloc (.cells X 26)).alloc (.cells Y 26) = w1 := ⟨_, rfl⟩
  have hb1 : Below w.heap.size w w1 := hw1 ▸ (below_new w _).alloc (by simp) _
  have kx : Bk w1 z 26 (lkC L (.slice A N C)) := hw1 ▸ (Bk.at_ w _ X hz (by rw [← hX, ← hl])).alloc _
  have ky : Bk w1 (z + 1) 26 (lkC P (.slice B M D)) := hw1 ▸ Bk.at_ _ _ Y (by simp [hz]) (by rw [← hY, ← hl2])
  have HW := Lib.hid hw1; have HB1 := Lib.hid hb1; have HX1 := Lib.hid kx; have HY1 := Lib.hid ky; have HHO := Lib.hid hh; have HHO2 := Lib.hid hh2; have HZ := Lib.hid hz
  rw [hl, hX, hl2, hY]
  clear hl hX hl2 hY hw1 hb1 kx ky hh hh2 hz
  go_enter Try.func19, Try.ntmps19
  go_upto_region 1 with fail
  rw [HW.out, HZ.out]
  go_wp2_with (with_reducible refine wpList_load_bk rfl 26 _ rfl z rfl (lkC L (.slice A N C)) 26 HX1.out _ Try.underlying26 rfl (lk_sz HHO.out _) ?_)
  refine (HCK.out w1).mono ?_
  rintro e w2 ⟨rfl, hbn⟩
  have HB2 := Lib.hid (below_then HB1.out hbn)
  clear hbn
  go_wp2_with fail
  go_ret
  exact ⟨rfl, HB2.out⟩
set_option maxRecDepth 20000 in
set_option maxHeartbeats 2000000 in
theorem fits_bad2 (w : World) (L P : LkT) (hh : DgOk L.h) (hh2 : DgOk P.h) (A B : Option Addr) (N C M D : Nat) (win : Int) (hc0 : checkL L.k L.s L.c L.u N = 0) (hc : checkL P.k P.s P.c P.u M ≠ 0) :
    Calls Try.prog 19 #[.agg (lkC L (.slice A N C)).toArray, .agg (lkC P (.slice B M D)).toArray, .int .i64 win] w fun e w' => e = .returned (.int .i64 (checkL P.k P.s P.c P.u M)) ∧ Below w.heap.size w w' := by
  have HCK := Lib.hid (fun w' => lcheck_any w' L hh A N C); have HCP := Lib.hid (fun w' => lcheck_any w' P hh2 B M D)
  rw [hc0] at HCK
  obtain ⟨x, hx⟩ : ∃ x, checkL P.k P.s P.c P.u M = x := ⟨_, rfl⟩
  rw [hx] at HCP hc ⊢
  have hne : (x != 0) = true := by simpa using hc
  clear hx hc hc0
  obtain ⟨l, hl⟩ : ∃ x, lkC L (.slice A N C) = x := ⟨_, rfl⟩
  obtain ⟨X, hX⟩ : ∃ X, l.toArray = X := ⟨_, rfl⟩
  obtain ⟨l2, hl2⟩ : ∃ x, lkC P (.slice B M D) = x := ⟨_, rfl⟩
  obtain ⟨Y, hY⟩ : ∃ X, l2.toArray = X := ⟨_, rfl⟩
  obtain ⟨z, hz⟩ : ∃ z, w.heap.size = z := ⟨_, rfl⟩
  obtain ⟨w1, hw1⟩ : ∃ w1, (w.alloc (.cells X 26)).alloc (.cells Y 26) = w1 := ⟨_, rfl⟩
  have hb1 : Below w.heap.size w w1 := hw1 ▸ (below_new w _).alloc (by simp) _
  have kx : Bk w1 z 26 (lkC L (.slice A N C)) := hw1 ▸ (Bk.at_ w _ X hz (by rw [← hX, ← hl])).alloc _
  have ky : Bk w1 (z + 1) 26 (lkC P (.slice B M D)) := hw1 ▸ Bk.at_ _ _ Y (by simp [hz]) (by rw [← hY, ← hl2])
  have HW := Lib.hid hw1; have HB1 := Lib.hid hb1; have HX1 := Lib.hid kx; have HY1 := Lib.hid ky; have HHO := Lib.hid hh; have HHO2 := Lib.hid hh2; have HZ := Lib.hid hz
  rw [hl, hX, hl2, hY]
  clear hl hX hl2 hY hw1 hb1 kx ky hh hh2 hz
  go_enter Try.func19, Try.ntmps19
  go_upto_region 1 with fail
  rw [HW.out, HZ.out]
  go_wp2_with (with_reducible refine wpList_load_bk rfl 26 _ rfl z rfl (lkC L (.slice A N C)) 26 HX1.out _ Try.underlying26 rfl (lk_sz HHO.out _) ?_)
  refine (HCK.out w1).mono ?_
  rintro e w2 ⟨rfl, hbn⟩
  have HB2 := Lib.hid (below_then HB1.out hbn); have HY2 := Lib.hid (HY1.out.later hbn)
  clear hbn
  go_wp2_with (with_reducible refine wpList_load_bk rfl 26 _ rfl (z + 1) rfl (lkC P (.slice B M D)) 26 HY2.out _ Try.underlying26 rfl (lk_sz HHO2.out _) ?_)
  refine (HCP.out w2).mono ?_
  rintro e w3 ⟨rfl, hbn⟩
  have HB3 := Lib.hid (below_then HB2.out hbn)
  clear hbn
  go_wp2_with fail
  go_ret
  exact ⟨rfl, HB3.out⟩
end Go.Proofs.Ytbclfjdamklbpaa
