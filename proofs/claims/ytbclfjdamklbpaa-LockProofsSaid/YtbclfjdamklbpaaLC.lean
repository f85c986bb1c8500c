/- A lock that may be, out of any: the walk. -/
import Derived.Test.YtbclfjdamklbpaaL9
import Derived.Test.YtbclfjdamklbpaaS6
namespace Go.Proofs.Ytbclfjdamklbpaa
set_option linter.unusedSimpArgs false
set_option linter.unusedVariables false
open Go.RowKit Go.Maps

theorem lkret {w : World} {g : Nat} {cs : List Value} {F : Func} (hF : ∀ tmps : Array Value, tmps.getD 2 undef = .pointer (some ⟨g, 0, none⟩) → results F tmps = (do let v ← loadVar 26 ⟨g, 0, none⟩; pure v)) (h : Bk w g 26 cs) (hi : (Try.prog.info? 26).map (·.size) = some cs.length) (tmps : Array Value) (h4 : tmps.getD 2 undef = .pointer (some ⟨g, 0, none⟩)) :
    (results F tmps).run Try.prog w = .ok (.agg cs.toArray) w := by
  rw [hF tmps h4]
  have r1 : w.rangeAt g 0 cs := Bk.range (pre := []) (post := []) (by simpa using h) rfl
  have l1 := run_loadVar_mid (P := Try.prog) w g 0 26 cs _ r1 Try.underlying26 rfl hi
  simp [l1]
theorem few_ret {w : World} {g : Nat} {cs : List Value} (h : Bk w g 26 cs) (hi : (Try.prog.info? 26).map (·.size) = some cs.length) (tmps : Array Value) (h4 : tmps.getD 2 undef = .pointer (some ⟨g, 0, none⟩)) :
    (results Try.f32 tmps).run Try.prog w = .ok (.agg cs.toArray) w := by
  have r1 : w.rangeAt g 0 cs := Bk.range (pre := []) (post := []) (by simpa using h) rfl
  have l1 := run_loadVar_mid (P := Try.prog) w g 0 26 cs _ r1 Try.underlying26 rfl hi
  rw [Array.getD_eq_getD_getElem?] at h4
  simp [results, Try.results32, h4, asAddr, l1]
theorem fix_ret {w : World} {g : Nat} {cs : List Value} (h : Bk w g 26 cs) (hi : (Try.prog.info? 26).map (·.size) = some cs.length) (tmps : Array Value) (h4 : tmps.getD 2 undef = .pointer (some ⟨g, 0, none⟩)) :
    (results Try.f11 tmps).run Try.prog w = .ok (.agg cs.toArray) w := by
  have r1 : w.rangeAt g 0 cs := Bk.range (pre := []) (post := []) (by simpa using h) rfl
  have l1 := run_loadVar_mid (P := Try.prog) w g 0 26 cs _ r1 Try.underlying26 rfl hi
  rw [Array.getD_eq_getD_getElem?] at h4
  simp [results, Try.results11, h4, asAddr, l1]
theorem run_headD (A : Option Addr) (n c k : Nat) (hk : k ≤ c) (w : World) : (Instr.slice 24 (.slice A n c) none (some (.int .i64 (k : Int))) none).run Try.prog w = .ok (.slice A k c) w := by
  obtain ⟨i0, z0', hi, _⟩ := dg_parts
  exact head_run Try.underlying24 hi A n c k hk w
def zLk' : List Value := [.int .i64 0, .int .u8 0, .int .u8 0, .int .u8 0, .int .u8 0, .int .u8 0, .int .u8 0, .int .u8 0, .int .u8 0, .slice none 0 0, .int .i64 0, .int .i64 0, .int .i64 0]
set_option maxRecDepth 20000 in
set_option maxHeartbeats 2000000 in
theorem lfew_any (w : World) (L : LkT) (hh : DgOk L.h) (A : Option Addr) (N C : Nat) (hC : N ≤ C) :
    Calls Try.prog 32 #[.agg (lkC L (.slice A N C)).toArray] w fun e w' => e = .returned (.agg (lkC L (.slice A (min N 12) C)).toArray) ∧ Below w.heap.size w w' := by
  obtain ⟨k, h, ks, s, c, u⟩ := L
  have hm := fun ts t => min_run (P := Try.prog) ts t N 12 12 rfl
  have hhd := run_headD A N C (min N 12) (by omega)
  obtain ⟨m, hm0⟩ : ∃ m, min N 12 = m := ⟨_, rfl⟩
  rw [hm0] at hhd ⊢
  rw [hm0] at hm
  clear hm0
  obtain ⟨l, hl⟩ : ∃ x, lkC ⟨k, h, ks, s, c, u⟩ (.slice A N C) = x := ⟨_, rfl⟩
  obtain ⟨X, hX⟩ : ∃ X, l.toArray = X := ⟨_, rfl⟩
  obtain ⟨z, hz⟩ : ∃ z, w.heap.size = z := ⟨_, rfl⟩
  obtain ⟨w1, hw1⟩ : ∃ w1, (w.alloc (.cells X 26)).alloc (.cells #[.int .i64 0, .int .u8 0, .int .u8 0, .int .u8 0, .int .u8 0, .int .u8 0, .int .u8 0, .int .u8 0, .int .u8 0, .slice none 0 0, .int .i64 0, .int .i64 0, .int .i64 0] 26) = w1 := ⟨_, rfl⟩
  have hb1 : Below w.heap.size w w1 := hw1 ▸ (below_new w _).alloc (by simp) _
  have kx : Bk w1 z 26 (lkC ⟨k, h, ks, s, c, u⟩ (.slice A N C)) := hw1 ▸ (Bk.at_ w _ X hz (by rw [← hX, ← hl])).alloc _
  have kr : Bk w1 (z + 1) 26 zLk' := hw1 ▸ Bk.at_ _ _ _ (by simp [hz]) rfl
  have HW := Lib.hid hw1; have HB1 := Lib.hid hb1; have HL1 := Lib.hid kx; have HR1 := Lib.hid kr; have HHO := Lib.hid hh; have HZ := Lib.hid hz
  rw [hl, hX]
  clear hl hX hw1 hb1 kx kr hh hz
  have c9 := (lk_mem HHO.out HL1.out).c9
  go_enter Try.func32, Try.ntmps32
  go_upto_region 1 with fail
  rw [HW.out, HZ.out]
  go_wp2_with (with_reducible refine stop_store 24 _ _ rfl ?_)
  refine StopD.go ?_
  refine wpList_store_part rfl 24 _ _ rfl z 9 (.slice A m C) [.slice A m C] rfl rfl rfl 26 (.int .i64 k :: dl h) [.slice A N C] ([.int .i64 s, .int .i64 c, .int .i64 u]) (by have := HL1.out; simpa [lkC] using this) ((by simp [dl_len, HHO.out.len])) rfl (by kernel_rfl) (by intro x hx; simp at hx; subst hx; rfl) ?_
  intro w2 hp
  have HG2 := Lib.hid hp.only
  have HL2 : Hid (Bk w2 z 26 (lkC ⟨k, h, ks, s, c, u⟩ (.slice A m C))) := by show Bk _ _ _ _; have := hp.bk; simpa [lkC] using this
  have HB2 := Lib.hid (below_only HB1.out hp.only HB1.out.size (Nat.le_of_eq HZ.out))
  have HR2 := Lib.hid (HR1.out.grown hp.only (by intro e; injection e with e; omega))
  clear hp
  clear c9 hm hhd
  go_wp2_with (first
    | (with_reducible refine wpList_load_bk rfl 26 _ rfl z rfl (lkC ⟨k, h, ks, s, c, u⟩ (.slice A m C)) 26 HL2.out _ Try.underlying26 rfl (lk_sz HHO.out _) ?_)
    | (with_reducible refine stop_store 26 _ _ rfl ?_))
  refine StopD.go ?_
  refine wpList_store_part rfl 26 _ _ rfl (z + 1) 0 (.agg (lkC ⟨k, h, ks, s, c, u⟩ (.slice A m C)).toArray) (lkC ⟨k, h, ks, s, c, u⟩ (.slice A m C)) rfl rfl rfl 26 [] zLk' [] (by simpa using HR2.out) rfl (by rw [lkC_len HHO.out]; rfl) (lk_sz HHO.out _) (lk_one _ _ _ _) ?_
  intro wz hp
  have HRz : Hid (Bk wz (z + 1) 26 (lkC ⟨k, h, ks, s, c, u⟩ (.slice A m C))) := by show Bk _ _ _ _; have := hp.bk; simpa using this
  have HBz := Lib.hid (below_only HB2.out hp.only HB2.out.size (by rw [HZ.out]; exact Nat.le_succ z))
  clear hp
  go_wp2_with fail
  refine bodyPost_ret (few_ret HRz.out (lk_sz HHO.out _) _ rfl) rfl ?_
  exact ⟨rfl, HBz.out⟩
def keyF (i : Nat) : List Int := [(i : Int), 8, 0, 0, 0, 0, 0, 0]
theorem keyF_ok {i : Nat} (h : i < 256) : DgOk (keyF i) := ⟨rfl, fun b hb => by simp [keyF] at hb; omega⟩
theorem build_kf (x : Int) (w : World) : (Instr.build 23 #[(0, .int .u8 x), (1, .int .u8 8)]).run Try.prog w = .ok (.agg (dl [x, 8, 0, 0, 0, 0, 0, 0]).toArray) w := by kernel_rfl
def ksF (n : Nat) : List (List Int) := (List.range n).map keyF
theorem ksF_ok {n : Nat} (h : n ≤ 256) : DsOk (ksF n) := fun d hd => by
  obtain ⟨i, hi, rfl⟩ := List.mem_map.1 hd
  have := List.mem_range.1 hi
  exact keyF_ok (by omega)
theorem ksF_succ (n : Nat) : cellsD (ksF (n + 1)) = cellsD (ksF n) ++ dl (keyF n) := by
  unfold ksF
  rw [List.range_succ, List.map_append]
  simp [cellsD, dl]
theorem ksF_len (n : Nat) : (ksF n).length = n := by simp [ksF]
/-- The lock that may be. -/
def fixN (L : LkT) (N : Nat) : Nat := if modI L.k 2 = 0 then 0 else 2 + min N 12 % 7
def fixL (L : LkT) (N : Nat) : LkT := if modI L.k 2 = 0 then ⟨0, L.h, [], 0, 1 + modI L.c 1000, modI L.u 2000⟩ else ⟨1, L.h, ksF (2 + min N 12 % 7), modI L.s (2 + min N 12 % 7 : Nat), 1 + modI L.c 1000, modI L.u 2000⟩
def RetFx (L : LkT) (N : Nat) (w : World) (e : Ending) (w' : World) : Prop :=
  ∃ (A : Option Addr) (C : Nat), e = .returned (.agg (lkC (fixL L N) (.slice A (fixN L N) C)).toArray) ∧ w'.ownsRow w.heap.size 23 8 (.slice A (fixN L N) C) (fixN L N) (cellsD (fixL L N).ks) ∧ Below w.heap.size w w'
theorem fixL_facts (L : LkT) (N : Nat) : (fixL L N).h = L.h ∧ DsOk (fixL L N).ks ∧ fixN L N ≤ 8 ∧ (fixL L N).ks.length = fixN L N ∧ checkL (fixL L N).k (fixL L N).s (fixL L N).c (fixL L N).u (fixN L N) = 0 ∧ (fixL L N).c ≤ 1000 ∧ (fixL L N).u < 2000 := by
  have h1 := modI_lt L.c (n := 1000) (by decide)
  have h2 := modI_lt L.u (n := 2000) (by decide)
  have h3 := modI_lt L.s (n := (2 + min N 12 % 7 : Nat)) (by omega)
  unfold fixL fixN
  by_cases hk : modI L.k 2 = 0
  · simp only [if_pos hk]
    refine ⟨by first | trivial | rfl, fun d hd => by simp at hd, by omega, by first | trivial | rfl, ?_, by omega, by omega⟩
    unfold checkL
    rw [if_neg (by omega), if_neg (by omega), if_pos rfl, if_neg (by omega), if_neg (by omega)]
  · simp only [if_neg hk]
    refine ⟨by first | trivial | rfl, ksF_ok (by omega), by omega, by first | trivial | exact ksF_len _, ?_, by omega, by omega⟩
    unfold checkL
    rw [if_neg (by omega), if_neg (by omega), if_neg (by omega), if_neg (by omega), if_neg (by omega)]
set_option maxRecDepth 20000 in
set_option maxHeartbeats 8000000 in
theorem fix_any (w : World) (L : LkT) (hh : DgOk L.h) (A : Option Addr) (N C : Nat) (hC : N ≤ C) (hN : N ≤ 9223372036854775807) :
    Calls Try.prog 11 #[.agg (lkC L (.slice A N C)).toArray] w (RetFx L N w) := by
  obtain ⟨k, h, ks, s, c, u⟩ := L
  have HFW := Lib.hid (fun w' => lfew_any w' ⟨k, h, ks, s, c, u⟩ hh A N C hC)
  obtain ⟨m, hm0⟩ : ∃ m, min N 12 = m := ⟨_, rfl⟩
  have HMM := Lib.hid hm0
  rw [hm0] at HFW
  have HMB : Hid (m ≤ 12) := by show m ≤ 12; omega
  clear hm0
  obtain ⟨l, hl⟩ : ∃ x, lkC ⟨k, h, ks, s, c, u⟩ (.slice A N C) = x := ⟨_, rfl⟩
  obtain ⟨X, hX⟩ : ∃ X, l.toArray = X := ⟨_, rfl⟩
  obtain ⟨z, hz⟩ : ∃ z, w.heap.size = z := ⟨_, rfl⟩
  obtain ⟨w1, hw1⟩ : ∃ w1, (w.alloc (.cells X 26)).alloc (.cells #[.int .i64 0, .int .u8 0, .int .u8 0, .int .u8 0, .int .u8 0, .int .u8 0, .int .u8 0, .int .u8 0, .int .u8 0, .slice none 0 0, .int .i64 0, .int .i64 0, .int .i64 0] 26) = w1 := ⟨_, rfl⟩
  have hb1 : Below w.heap.size w w1 := hw1 ▸ (below_new w _).alloc (by simp) _
  have kx : Bk w1 z 26 (lkC ⟨k, h, ks, s, c, u⟩ (.slice A N C)) := hw1 ▸ (Bk.at_ w _ X hz (by rw [← hX, ← hl])).alloc _
  have kr : Bk w1 (z + 1) 26 zLk' := hw1 ▸ Bk.at_ _ _ _ (by simp [hz]) rfl
  have HW := Lib.hid hw1; have HB1 := Lib.hid hb1; have HL1 := Lib.hid kx; have HR1 := Lib.hid kr; have HHO := Lib.hid hh; have HZ := Lib.hid hz
  rw [hl, hX]
  clear hl hX hw1 hb1 kx kr hh hz
  have hk2 := modI_run k 2 (by decide) (by decide); have hc2 := modI_run c 1000 (by decide) (by decide); have hu2 := modI_run u 2000 (by decide) (by decide)
  obtain ⟨k2, hk0⟩ : ∃ x, modI k 2 = x := ⟨_, rfl⟩
  obtain ⟨c2, hc0⟩ : ∃ x, modI c 1000 = x := ⟨_, rfl⟩
  obtain ⟨u2, hu0⟩ : ∃ x, modI u 2000 = x := ⟨_, rfl⟩
  have hkr := modI_lt k (n := 2) (by decide); have hcr := modI_lt c (n := 1000) (by decide); have hur := modI_lt u (n := 2000) (by decide)
  rw [hk0] at hk2 hkr
  rw [hc0] at hc2 hcr
  rw [hu0] at hu2 hur
  have HK0 := Lib.hid hk0; have HC0 := Lib.hid hc0; have HU0 := Lib.hid hu0; have HKR := Lib.hid hkr
  clear hk0 hc0 hu0
  go_enter Try.func11, Try.ntmps11
  go_upto_region 1 with fail
  rw [HW.out, HZ.out]
  go_wp2_with (with_reducible refine wpList_load_bk rfl 26 _ rfl z rfl (lkC ⟨k, h, ks, s, c, u⟩ (.slice A N C)) 26 HL1.out _ Try.underlying26 rfl (lk_sz HHO.out _) ?_)
  refine (HFW.out w1).mono ?_
  rintro e w2 ⟨rfl, hbn⟩
  have HL2 := Lib.hid (HL1.out.later hbn); have HR2 := Lib.hid (HR1.out.later hbn); have HB2 := Lib.hid (below_then HB1.out hbn)
  clear hbn HFW HL1 HR1 HB1
  go_wp2_with (with_reducible refine stop_store 26 _ _ rfl ?_)
  refine StopD.go ?_
  refine wpList_store_part rfl 26 _ _ rfl z 0 (.agg (lkC ⟨k, h, ks, s, c, u⟩ (.slice A m C)).toArray) (lkC ⟨k, h, ks, s, c, u⟩ (.slice A m C)) rfl rfl rfl 26 [] (lkC ⟨k, h, ks, s, c, u⟩ (.slice A N C)) [] (by simpa using HL2.out) rfl (by rw [lkC_len HHO.out, lkC_len HHO.out]) (lk_sz HHO.out _) (lk_one _ _ _ _) ?_
  intro w3 hp
  have HL3 : Hid (Bk w3 z 26 (lkC ⟨k, h, ks, s, c, u⟩ (.slice A m C))) := by show Bk _ _ _ _; have := hp.bk; simpa using this
  have HB3 := Lib.hid (below_only HB2.out hp.only HB2.out.size (Nat.le_of_eq HZ.out))
  have HR3 := Lib.hid (HR2.out.grown hp.only (by intro e; injection e with e; omega))
  clear hp HL2 HB2 HR2
  have c0 := (lk_mem HHO.out HL3.out).c0
  go_wp2_with (with_reducible refine stop_store 3 _ _ rfl ?_)
  refine StopD.go ?_
  refine wpList_store_part rfl 3 _ _ rfl z 0 (.int .i64 k2) [.int .i64 k2] rfl rfl rfl 26 ([]) [.int .i64 k] (dl h ++ [.slice A m C, .int .i64 s, .int .i64 c, .int .i64 u]) (by have := HL3.out; simpa [lkC] using this) (rfl) rfl (by kernel_rfl) (by intro x hx; simp at hx; subst hx; rfl) ?_
  intro w4 hp
  have HG4 := Lib.hid hp.only
  have HL4 : Hid (Bk w4 z 26 (lkC ⟨k2, h, ks, s, c, u⟩ (.slice A m C))) := by show Bk _ _ _ _; have := hp.bk; simpa [lkC] using this
  have HB4 := Lib.hid (below_only HB3.out hp.only HB3.out.size (Nat.le_of_eq HZ.out))
  have HR4 := Lib.hid (HR3.out.grown hp.only (by intro e; injection e with e; omega))
  clear hp
  clear c0 HL3 HB3 HR3
  have c11 := (lk_mem HHO.out HL4.out).c11
  go_wp2_with (with_reducible refine stop_store 3 _ _ rfl ?_)
  refine StopD.go ?_
  refine wpList_store_part rfl 3 _ _ rfl z 11 (.int .i64 (1 + c2)) [.int .i64 (1 + c2)] rfl rfl rfl 26 (.int .i64 k2 :: dl h ++ [.slice A m C, .int .i64 s]) [.int .i64 c] ([.int .i64 u]) (by have := HL4.out; simpa [lkC] using this) ((by simp [dl_len, HHO.out.len])) rfl (by kernel_rfl) (by intro x hx; simp at hx; subst hx; rfl) ?_
  intro w5 hp
  have HG5 := Lib.hid hp.only
  have HL5 : Hid (Bk w5 z 26 (lkC ⟨k2, h, ks, s, 1 + c2, u⟩ (.slice A m C))) := by show Bk _ _ _ _; have := hp.bk; simpa [lkC] using this
  have HB5 := Lib.hid (below_only HB4.out hp.only HB4.out.size (Nat.le_of_eq HZ.out))
  have HR5 := Lib.hid (HR4.out.grown hp.only (by intro e; injection e with e; omega))
  clear hp
  clear c11 HL4 HB4 HR4
  have c12 := (lk_mem HHO.out HL5.out).c12
  go_wp2_with (with_reducible refine stop_store 3 _ _ rfl ?_)
  refine StopD.go ?_
  refine wpList_store_part rfl 3 _ _ rfl z 12 (.int .i64 u2) [.int .i64 u2] rfl rfl rfl 26 (.int .i64 k2 :: dl h ++ [.slice A m C, .int .i64 s, .int .i64 (1 + c2)]) [.int .i64 u] ([]) (by have := HL5.out; simpa [lkC] using this) ((by simp [dl_len, HHO.out.len])) rfl (by kernel_rfl) (by intro x hx; simp at hx; subst hx; rfl) ?_
  intro w6 hp
  have HG6 := Lib.hid hp.only
  have HL6 : Hid (Bk w6 z 26 (lkC ⟨k2, h, ks, s, 1 + c2, u2⟩ (.slice A m C))) := by show Bk _ _ _ _; have := hp.bk; simpa [lkC] using this
  have HB6 := Lib.hid (below_only HB5.out hp.only HB5.out.size (Nat.le_of_eq HZ.out))
  have HR6 := Lib.hid (HR5.out.grown hp.only (by intro e; injection e with e; omega))
  clear hp
  clear c12 HL5 HB5 HR5
  have c0 := (lk_mem HHO.out HL6.out).c0
  clear hk2 hc2 hu2 hcr hur
  by_cases hk0 : k2 = 0
  · subst hk0
    go_wp2_with (with_reducible refine stop_store 24 _ _ rfl ?_)
    refine StopD.go ?_
    refine wpList_store_part rfl 24 _ _ rfl z 9 (.slice none 0 0) [.slice none 0 0] rfl rfl rfl 26 (.int .i64 0 :: dl h) [.slice A m C] ([.int .i64 s, .int .i64 (1 + c2), .int .i64 u2]) (by have := HL6.out; simpa [lkC] using this) ((by simp [dl_len, HHO.out.len])) rfl (by kernel_rfl) (by intro x hx; simp at hx; subst hx; rfl) ?_
    intro w7 hp
    have HG7 := Lib.hid hp.only
    have HL7 : Hid (Bk w7 z 26 (lkC ⟨0, h, [], s, 1 + c2, u2⟩ (.slice none 0 0))) := by show Bk _ _ _ _; have := hp.bk; simpa [lkC] using this
    have HB7 := Lib.hid (below_only HB6.out hp.only HB6.out.size (Nat.le_of_eq HZ.out))
    have HR7 := Lib.hid (HR6.out.grown hp.only (by intro e; injection e with e; omega))
    clear hp
    go_wp2_with (with_reducible refine stop_store 3 _ _ rfl ?_)
    refine StopD.go ?_
    refine wpList_store_part rfl 3 _ _ rfl z 10 (.int .i64 0) [.int .i64 0] rfl rfl rfl 26 (.int .i64 0 :: dl h ++ [.slice none 0 0]) [.int .i64 s] ([.int .i64 (1 + c2), .int .i64 u2]) (by have := HL7.out; simpa [lkC] using this) ((by simp [dl_len, HHO.out.len])) rfl (by kernel_rfl) (by intro x hx; simp at hx; subst hx; rfl) ?_
    intro w8 hp
    have HG8 := Lib.hid hp.only
    have HL8 : Hid (Bk w8 z 26 (lkC ⟨0, h, [], 0, 1 + c2, u2⟩ (.slice none 0 0))) := by show Bk _ _ _ _; have := hp.bk; simpa [lkC] using this
    have HB8 := Lib.hid (below_only HB7.out hp.only HB7.out.size (Nat.le_of_eq HZ.out))
    have HR8 := Lib.hid (HR7.out.grown hp.only (by intro e; injection e with e; omega))
    clear hp
    clear c0
    go_wp2_with (first
      | (with_reducible refine wpList_load_bk rfl 26 _ rfl z rfl (lkC ⟨0, h, [], 0, 1 + c2, u2⟩ (.slice none 0 0)) 26 HL8.out _ Try.underlying26 rfl (lk_sz HHO.out _) ?_)
      | (with_reducible refine stop_store 26 _ _ rfl ?_))
    refine StopD.go ?_
    refine wpList_store_part rfl 26 _ _ rfl (z + 1) 0 (.agg (lkC ⟨0, h, [], 0, 1 + c2, u2⟩ (.slice none 0 0)).toArray) (lkC ⟨0, h, [], 0, 1 + c2, u2⟩ (.slice none 0 0)) rfl rfl rfl 26 [] zLk' [] (by simpa using HR8.out) rfl (by rw [lkC_len HHO.out]; rfl) (lk_sz HHO.out _) (lk_one _ _ _ _) ?_
    intro wz hp
    have HRz : Hid (Bk wz (z + 1) 26 (lkC ⟨0, h, [], 0, 1 + c2, u2⟩ (.slice none 0 0))) := by show Bk _ _ _ _; have := hp.bk; simpa using this
    have HBz := Lib.hid (below_only HB8.out hp.only HB8.out.size (by rw [HZ.out]; exact Nat.le_succ z))
    clear hp
    go_wp2_with fail
    refine bodyPost_ret (fix_ret HRz.out (lk_sz HHO.out _) _ rfl) rfl ?_
    refine ⟨none, 0, ?_, ?_, HBz.out⟩
    · rw [fixL, fixN]
      simp only [if_pos HK0.out, HC0.out, HU0.out]
    · rw [fixL, fixN]
      simp only [if_pos HK0.out]
      exact World.ownsRow_nil _ _ _ _
  · have hke : (k2 == 0) = false := by simpa using hk0
    have hk1 : k2 = 1 := by omega
    subst hk1
    obtain ⟨q, hq⟩ : ∃ q : Nat, m % 7 = q := ⟨_, rfl⟩
    have hmt : (m : Int).tmod 7 = (q : Int) := by rw [Int.tmod_eq_emod_of_nonneg (by omega)]; omega
    have hq7 : q < 7 := by omega
    have HQ : Hid (min N 12 % 7 = q) := by show _ = _; rw [HMM.out, hq]
    clear hq hkr
    have c9 := (lk_mem HHO.out HL6.out).c9
    go_wp2_with fail
    clear c0 c9 hke hk0
    go_loopw [3, 4] (fun a3 iv wr => ∃ (j : Nat) (v3 : Value), j ≤ 2 + q ∧ iv = .int .i64 j ∧ v3 = a3 ∧ Hid (Bk wr z 26 (lkC ⟨1, h, ks, s, 1 + c2, u2⟩ (.slice A m C))) ∧ Hid (Bk wr (z + 1) 26 zLk') ∧ Hid (wr.ownsRow w.heap.size 23 8 v3 j (cellsD (ksF j))) ∧ Hid (Below w.heap.size w wr)) (fun _ iv _ => 2 + q - (intOf iv).toNat)
    case atStart => exact ⟨0, _, Nat.zero_le _, rfl, rfl, HL6, HR6, World.ownsRow_nil _ _ _ _, HB6⟩
    case round =>
      clear HL6 HR6 HB6
      obtain ⟨j, v3, hj, rfl, h3, HL7, HR7, HO7, HB7⟩ := hrel
      subst h3
      have c9 := (lk_mem HHO.out HL7.out).c9
      by_cases hlt : j < 2 + q
      · have hji : (j : Int) < 2 + q := by omega
        have hj0 : (0 : Int) ≤ j := by omega
        have hw8 : IntKind.u8.wrap (j : Int) = j := IntWalk.u8_in _ (by omega)
        have hkp := build_kf j
        have HKO : Hid (DgOk (keyF j)) := keyF_ok (by omega)
        go_wp2_with (first
          | ((with_reducible refine wpList_build rfl 23 _ rfl #[(0, .int .u8 j), (1, .int .u8 8)] ?_ _ (hkp _) ?_); focus (simp [Act.eval, Act.put]; done))
          | (with_reducible refine stop_bs 24 _ _ rfl ?_))
        refine StopD.go ?_
        rw [show dl [(j : Int), 8, 0, 0, 0, 0, 0, 0] = dl (keyF j) from rfl]
        refine wpList_bsliceG rfl 24 1 _ rfl #[(0, .agg (dl (keyF j)).toArray)] ?_ 23 (dl (keyF j)) (fun w => bs_d1 HKO.out w) ?_
        · simp [Act.eval, Act.put]
        intro q8 w8 hq8 hb8 hbn
        have HL8 := Lib.hid (HL7.out.later hbn); have HR8 := Lib.hid (HR7.out.later hbn); have HO8 := Lib.hid (own_keep HO7.out hbn); have HB8' := Lib.hid (below_then HB7.out hbn); have HB8 := Lib.hid hb8
        clear hq8 hb8 hbn HL7 HR7 HO7 HB7 hkp c9
        go_wp2_with (at_builtin; refine stop_here ?_)
        refine StopD.go ?_
        obtain ⟨i0, z0', hi, hi0, hi1, hi2, hi3⟩ := dg_parts
        refine wpList_app _ rfl (.tmp 41) (.tmp 45) 24 rfl w.heap.size 23 i0 z0' 8 8 Try.underlying24 hi hi0 hi1 hi2 hi3 (by decide) _ _ _ rfl HO8.out _ _ _ _ _ rfl (Sl.of_own (HB8.out.own (base := 0) (size := 8) (cap := 1) (n := 1) (Nat.zero_le _) (Nat.le_refl _) (by omega) (by rw [dl_len, HKO.out.len]) (by rw [List.take_of_length_le (by rw [dl_len, HKO.out.len]; exact Nat.le_refl _)]))) (dl_one' _) (by unfold maxLen; omega) (by omega) HB8'.out.size ?_
        intro v9 w9 hown hg hat
        have HL9 := Lib.hid (HL8.out.grown hg (Ne.symm (own_bk_ne HO8.out HL8.out (by decide)))); have HR9 := Lib.hid (HR8.out.grown hg (Ne.symm (own_bk_ne HO8.out HR8.out (by decide)))); have HB9 := Lib.hid (grown_below HB8'.out HO8.out hg (Nat.le_refl _) HB8'.out.size)
        have HO9 : Hid (w9.ownsRow w.heap.size 23 8 v9 (j + 1) (cellsD (ksF (j + 1)))) := by show World.ownsRow _ _ _ _ _ _ _; rw [ksF_succ]; exact hown
        clear hown hg hat hi hi0 hi1 hi2 hi3 HL8 HR8 HO8 HB8 HB8'
        go_wp2_with fail
        go_roundw
        case rel => exact ⟨j + 1, _, hlt, by go_num, rfl, HL9, HR9, HO9, HB9⟩
        case measure => simp [intOf]; omega
      · have hji : ¬ ((j : Int) < 2 + q) := by omega
        have hjq : j = 2 + q := by omega
        have HJQ := Lib.hid hjq
        clear hjq
        obtain ⟨A3, C3, h3⟩ := own_form HO7.out
        subst h3
        have hs2 := modI_run s j (by omega) (by omega)
        obtain ⟨s2, hs0⟩ : ∃ x, modI s j = x := ⟨_, rfl⟩
        rw [hs0] at hs2
        have HS0 := Lib.hid hs0
        have hwu : IntKind.u64.wrap (j : Int) = j := by rw [IntKind.wrap_u64]; omega
        have hne : ((j : Int) == 0) = false := by simp; omega
        have hne2 : ¬ ((j : Int) = 0) := by omega
        have hne3 : ¬ (j = 0) := by omega
        clear hs0
        go_wp2_with (with_reducible refine stop_store 24 _ _ rfl ?_)
        refine StopD.go ?_
        refine wpList_store_part rfl 24 _ _ rfl z 9 (.slice A3 j C3) [.slice A3 j C3] rfl rfl rfl 26 (.int .i64 1 :: dl h) [.slice A m C] ([.int .i64 s, .int .i64 (1 + c2), .int .i64 u2]) (by have := HL7.out; simpa [lkC] using this) ((by simp [dl_len, HHO.out.len])) rfl (by kernel_rfl) (by intro x hx; simp at hx; subst hx; rfl) ?_
        intro w8 hp
        have HG8 := Lib.hid hp.only
        have HL8 : Hid (Bk w8 z 26 (lkC ⟨1, h, ks, s, 1 + c2, u2⟩ (.slice A3 j C3))) := by show Bk _ _ _ _; have := hp.bk; simpa [lkC] using this
        have HB8 := Lib.hid (below_only HB7.out hp.only HB7.out.size (Nat.le_of_eq HZ.out))
        have HR8 := Lib.hid (HR7.out.grown hp.only (by intro e; injection e with e; omega))
        clear hp
        have HO8 := Lib.hid (own_only HO7.out HG8.out (own_bk_ne HO7.out HL7.out (by decide)))
        clear c9
        have c10 := (lk_mem HHO.out HL8.out).c10
        go_wp2_with (with_reducible refine stop_store 3 _ _ rfl ?_)
        refine StopD.go ?_
        refine wpList_store_part rfl 3 _ _ rfl z 10 (.int .i64 s2) [.int .i64 s2] rfl rfl rfl 26 (.int .i64 1 :: dl h ++ [.slice A3 j C3]) [.int .i64 s] ([.int .i64 (1 + c2), .int .i64 u2]) (by have := HL8.out; simpa [lkC] using this) ((by simp [dl_len, HHO.out.len])) rfl (by kernel_rfl) (by intro x hx; simp at hx; subst hx; rfl) ?_
        intro w9 hp
        have HG9 := Lib.hid hp.only
        have HL9 : Hid (Bk w9 z 26 (lkC ⟨1, h, ks, s2, 1 + c2, u2⟩ (.slice A3 j C3))) := by show Bk _ _ _ _; have := hp.bk; simpa [lkC] using this
        have HB9 := Lib.hid (below_only HB8.out hp.only HB8.out.size (Nat.le_of_eq HZ.out))
        have HR9 := Lib.hid (HR8.out.grown hp.only (by intro e; injection e with e; omega))
        clear hp
        have HO9 := Lib.hid (own_only HO8.out HG9.out (own_bk_ne HO8.out HL8.out (by decide)))
        clear c10
        go_wp2_with (first
          | (with_reducible refine wpList_load_bk rfl 26 _ rfl z rfl (lkC ⟨1, h, ks, s2, 1 + c2, u2⟩ (.slice A3 j C3)) 26 HL9.out _ Try.underlying26 rfl (lk_sz HHO.out _) ?_)
          | (with_reducible refine stop_store 26 _ _ rfl ?_))
        refine StopD.go ?_
        refine wpList_store_part rfl 26 _ _ rfl (z + 1) 0 (.agg (lkC ⟨1, h, ks, s2, 1 + c2, u2⟩ (.slice A3 j C3)).toArray) (lkC ⟨1, h, ks, s2, 1 + c2, u2⟩ (.slice A3 j C3)) rfl rfl rfl 26 [] zLk' [] (by simpa using HR9.out) rfl (by rw [lkC_len HHO.out]; rfl) (lk_sz HHO.out _) (lk_one _ _ _ _) ?_
        intro wz hp
        have HRz : Hid (Bk wz (z + 1) 26 (lkC ⟨1, h, ks, s2, 1 + c2, u2⟩ (.slice A3 j C3))) := by show Bk _ _ _ _; have := hp.bk; simpa using this
        have HBz := Lib.hid (below_only HB9.out hp.only HB9.out.size (by rw [HZ.out]; exact Nat.le_succ z))
        have HOz := Lib.hid (own_only HO9.out hp.only (own_bk_ne HO9.out HR9.out (by decide)))
        clear hp
        go_wp2_with fail
        refine bodyPost_ret (fix_ret HRz.out (lk_sz HHO.out _) _ rfl) rfl ?_
        have hnk : ¬ (modI k 2 = 0) := by rw [HK0.out]; decide
        have hj2 := HJQ.out
        have hfn : fixN ⟨k, h, ks, s, c, u⟩ N = j := by rw [fixN, if_neg hnk, HQ.out, hj2]
        have hfl : fixL ⟨k, h, ks, s, c, u⟩ N = ⟨1, h, ksF j, s2, 1 + c2, u2⟩ := by rw [fixL, if_neg hnk, HQ.out, ← hj2, HC0.out, HU0.out, HS0.out]
        refine ⟨A3, C3, ?_, ?_, HBz.out⟩
        · rw [hfn, hfl]
          rfl
        · rw [hfn, hfl]
          exact HOz.out
end Go.Proofs.Ytbclfjdamklbpaa
