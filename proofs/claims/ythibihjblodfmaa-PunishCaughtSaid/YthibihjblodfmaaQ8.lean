/- The document's thing: whether it may be, and where it is made. -/
import Derived.Test.YthibihjblodfmaaQ6
namespace Go.Proofs.Ythibihjblodfmaa
open Go.RowKit

def rcheckT (k n : Int) (N M : Nat) (o : Bool) : Int := if k = 0 ∨ k = 1 then (if o = true then 3 else (if 0 ≤ n ∧ n ≤ 1099511627776 ∧ N ≤ 4096 ∧ M ≤ 4096 then 0 else 2)) else 11
def ratT (k : Int) (v : List Int) : List Int := if k = 1 then v else zeroD
theorem ratT_ok {k : Int} {v : List Int} (hv : DgOk v) : DgOk (ratT k v) := by
  rw [ratT]; split
  · exact hv
  · exact zero_ok
set_option maxRecDepth 20000 in
set_option maxHeartbeats 4000000 in
theorem rcheck_any (w : World) (k n : Int) (t v : List Int) (ht : DgOk t) (hv : DgOk v) (A B : Option Addr) (N C M D : Nat) (o : Bool) :
    Calls Try.prog 31 #[.agg (rtC k n t v (.slice A N C) (.slice B M D) o).toArray] w fun e w' => e = .returned (.int .i64 (rcheckT k n N M o)) ∧ Below w.heap.size w w' := by
  obtain ⟨X, hX⟩ : ∃ X, (rtC k n t v (.slice A N C) (.slice B M D) o).toArray = X := ⟨_, rfl⟩
  obtain ⟨w1, hw1⟩ : ∃ w1, w.alloc (.cells X 25) = w1 := ⟨_, rfl⟩
  have hb1 : Below w.heap.size w w1 := hw1 ▸ below_new w _
  have kx : Bk w1 w.heap.size 25 (rtC k n t v (.slice A N C) (.slice B M D) o) := hw1 ▸ Bk.new' w _ X (by rw [← hX])
  obtain ⟨c0, c9, c18, c19, c20, -, -⟩ := rt_mem ht hv kx
  have HW := Lib.hid hw1; have HB := Lib.hid hb1
  rw [hX]
  obtain ⟨z, hz⟩ : ∃ z : Int, rcheckT k n N M o = z := ⟨_, rfl⟩
  rw [hz]
  have HZ : Hid (rcheckT k n N M o = z) := hz
  clear hX hw1 hb1 kx ht hv hz
  by_cases hk : k = 0 ∨ k = 1
  · have hways : (k != 0) = false ∨ ((k != 0) = true ∧ (k != 1) = false) := by
      rcases hk with rfl | rfl
      · exact Or.inl rfl
      · exact Or.inr ⟨rfl, rfl⟩
    have HKK := Lib.hid hk
    clear hk
    cases o
    · have HZ1 : Hid ((if 0 ≤ n ∧ n ≤ 1099511627776 ∧ N ≤ 4096 ∧ M ≤ 4096 then 0 else 2) = z) := by
        show _ = _
        rw [← HZ.out, rcheckT, if_pos HKK.out, if_neg Bool.false_ne_true]
      clear HZ
      rcases hways with a0 | ⟨a0, b0⟩
      all_goals
        have hf2 : n < 0 ∨ (0 ≤ n ∧ 1099511627776 < n) ∨ (0 ≤ n ∧ n ≤ 1099511627776 ∧ 4096 < N) ∨ (0 ≤ n ∧ n ≤ 1099511627776 ∧ N ≤ 4096 ∧ 4096 < M) ∨ (0 ≤ n ∧ n ≤ 1099511627776 ∧ N ≤ 4096 ∧ M ≤ 4096) := by omega
        rcases hf2 with h | h | h | h | h
        · have HZ2 : Hid (z = 2) := by show _ = _; rw [← HZ1.out, if_neg (by omega)]
          have a1 : decide (n < 0) = true := by simp; omega
          clear h
          go_enter Try.func31, Try.ntmps31
          go_upto_region 1 with fail
          rw [HW.out]
          go_wp2_with fail
          go_ret
          exact ⟨by rw [HZ2.out]; rfl, HB.out⟩
        · have HZ2 : Hid (z = 2) := by show _ = _; rw [← HZ1.out, if_neg (by omega)]
          have a1 : decide (n < 0) = false := by simp; omega
          have a2 : decide (1099511627776 < n) = true := by simp; omega
          clear h
          go_enter Try.func31, Try.ntmps31
          go_upto_region 1 with fail
          rw [HW.out]
          go_wp2_with fail
          go_ret
          exact ⟨by rw [HZ2.out]; rfl, HB.out⟩
        · have HZ2 : Hid (z = 2) := by show _ = _; rw [← HZ1.out, if_neg (by omega)]
          have a1 : decide (n < 0) = false := by simp; omega
          have a2 : decide (1099511627776 < n) = false := by simp; omega
          have a3 : decide ((4096 : Int) < (N : Int)) = true := by simp; omega
          have a5 : decide (4096 < N) = true := by simp; omega
          clear h
          go_enter Try.func31, Try.ntmps31
          go_upto_region 1 with fail
          rw [HW.out]
          go_wp2_with fail
          go_ret
          exact ⟨by rw [HZ2.out]; rfl, HB.out⟩
        · have HZ2 : Hid (z = 2) := by show _ = _; rw [← HZ1.out, if_neg (by omega)]
          have a1 : decide (n < 0) = false := by simp; omega
          have a2 : decide (1099511627776 < n) = false := by simp; omega
          have a3 : decide ((4096 : Int) < (N : Int)) = false := by simp; omega
          have a5 : decide (4096 < N) = false := by simp; omega
          have a4 : decide ((4096 : Int) < (M : Int)) = true := by simp; omega
          have a6 : decide (4096 < M) = true := by simp; omega
          clear h
          go_enter Try.func31, Try.ntmps31
          go_upto_region 1 with fail
          rw [HW.out]
          go_wp2_with fail
          go_ret
          exact ⟨by rw [HZ2.out]; rfl, HB.out⟩
        · have HZ2 : Hid (z = 0) := by show _ = _; rw [← HZ1.out, if_pos (by omega)]
          have a1 : decide (n < 0) = false := by simp; omega
          have a2 : decide (1099511627776 < n) = false := by simp; omega
          have a3 : decide ((4096 : Int) < (N : Int)) = false := by simp; omega
          have a5 : decide (4096 < N) = false := by simp; omega
          have a4 : decide ((4096 : Int) < (M : Int)) = false := by simp; omega
          have a6 : decide (4096 < M) = false := by simp; omega
          clear h
          go_enter Try.func31, Try.ntmps31
          go_upto_region 1 with fail
          rw [HW.out]
          go_wp2_with fail
          go_ret
          exact ⟨by rw [HZ2.out]; rfl, HB.out⟩
    · have HZ2 : Hid (z = 3) := by show _ = _; rw [← HZ.out, rcheckT, if_pos HKK.out, if_pos rfl]
      have h : True := trivial
      clear HZ
      rcases hways with a0 | ⟨a0, b0⟩
      all_goals
        clear h
        go_enter Try.func31, Try.ntmps31
        go_upto_region 1 with fail
        rw [HW.out]
        go_wp2_with fail
        go_ret
        exact ⟨by rw [HZ2.out]; rfl, HB.out⟩
  · have a0 : (k != 0) = true := by simp; omega
    have a1 : (k != 1) = true := by simp; omega
    have HZ2 : Hid (z = 11) := by show _ = _; rw [← HZ.out, rcheckT, if_neg hk]
    have h : True := trivial
    clear hk HZ
    clear h
    go_enter Try.func31, Try.ntmps31
    go_upto_region 1 with fail
    rw [HW.out]
    go_wp2_with fail
    go_ret
    exact ⟨by rw [HZ2.out]; rfl, HB.out⟩
set_option maxRecDepth 20000 in
set_option maxHeartbeats 4000000 in
theorem rat_any (w : World) (k n : Int) (t v : List Int) (ht : DgOk t) (hv : DgOk v) (A B : Option Addr) (N C M D : Nat) (o : Bool) :
    Calls Try.prog 32 #[.agg (rtC k n t v (.slice A N C) (.slice B M D) o).toArray] w fun e w' => e = .returned (.agg (dl (ratT k v)).toArray) ∧ Below w.heap.size w w' := by
  obtain ⟨X, hX⟩ : ∃ X, (rtC k n t v (.slice A N C) (.slice B M D) o).toArray = X := ⟨_, rfl⟩
  obtain ⟨w1, hw1⟩ : ∃ w1, (w.alloc (.cells X 25)).alloc (.cells #[.int .u8 0, .int .u8 0, .int .u8 0, .int .u8 0, .int .u8 0, .int .u8 0, .int .u8 0, .int .u8 0] 22) = w1 := ⟨_, rfl⟩
  have hb1 : Below w.heap.size w w1 := hw1 ▸ (below_new w _).alloc (by simp) _
  have kx : Bk w1 w.heap.size 25 (rtC k n t v (.slice A N C) (.slice B M D) o) := hw1 ▸ (Bk.new' w _ X (by rw [← hX])).alloc _
  have kd : Bk w1 (w.heap.size + 1) 22 ([] ++ (dl zeroD ++ [])) := hw1 ▸ Bk.at_ _ _ #[.int .u8 0, .int .u8 0, .int .u8 0, .int .u8 0, .int .u8 0, .int .u8 0, .int .u8 0, .int .u8 0] (by simp) rfl
  have hm := rt_mem ht hv kx
  have c0 := hm.c0
  have HW := Lib.hid hw1; have HB := Lib.hid hb1; have HM := Lib.hid hm; have HD := Lib.hid kd
  have HV8 : Hid ((Try.prog.info? 22).map (·.size) = some (dl v).length) := by show _ = _; rw [dl_len, hv.len]; kernel_rfl
  have HVL : Hid ((dl v).length = (dl zeroD).length) := by show _ = _; rw [dl_len, dl_len, hv.len]; rfl
  have HZ8 : Hid ((Try.prog.info? 22).map (·.size) = some (dl zeroD).length) := by show _ = _; kernel_rfl
  have HVO := Lib.hid hv
  rw [hX]
  obtain ⟨r, hr⟩ : ∃ r, ratT k v = r := ⟨_, rfl⟩
  rw [hr]
  have HR := Lib.hid hr
  clear hX hw1 hb1 kx kd hm ht hv hr
  by_cases hk : k = 1
  · have h1 : (k == 1) = true := by simp [hk]
    have HRV : Hid (v = r) := by show _ = _; rw [← HR.out, ratT, if_pos hk]
    clear hk HR
    go_enter Try.func32, Try.ntmps32
    go_upto_region 1 with fail
    rw [HW.out]
    go_wp2_with (first
      | (with_reducible refine wpList_load_mid rfl 22 _ rfl w.heap.size 10 rfl (dl v) _ HM.out.r10 Try.underlying22 rfl HV8.out ?_)
      | (with_reducible refine stop_store 22 _ _ rfl ?_))
    refine StopD.go ?_
    refine wpList_store_part rfl 22 _ _ rfl (w.heap.size + 1) 0 (.agg (dl v).toArray) (dl v) rfl rfl rfl 22 [] (dl zeroD) [] HD.out rfl HVL.out.symm HV8.out (dl_one v) ?_
    intro w2 hp2
    have HB2 : Hid (Below w.heap.size w w2) := HB.out.grown hp2.only HB.out.size (fun q hq => by injection hq with hq; omega)
    have HD2 : Hid (Bk w2 (w.heap.size + 1) 22 (dl v)) := by show Bk _ _ _ _; have := hp2.bk; simpa using this
    clear hp2
    go_wp2_with fail
    exact bodyPost_ret (results_cell_bk (p := 2) (ty := 22) rfl _ _ (w.heap.size + 1) 22 _ _ rfl HD2.out Try.underlying22 rfl HV8.out) rfl ⟨by rw [HRV.out], HB2.out⟩
  · have h1 : (k == 1) = false := by simp [hk]
    have HRV : Hid (zeroD = r) := by show _ = _; rw [← HR.out, ratT, if_neg hk]
    clear hk HR
    go_enter Try.func32, Try.ntmps32
    go_upto_region 1 with fail
    rw [HW.out]
    go_wp2_with (with_reducible refine stop_store 22 _ _ rfl ?_)
    refine StopD.go ?_
    refine wpList_store_part rfl 22 _ _ rfl (w.heap.size + 1) 0 (.agg (dl zeroD).toArray) (dl zeroD) rfl rfl rfl 22 [] (dl zeroD) [] HD.out rfl rfl HZ8.out (dl_one zeroD) ?_
    intro w2 hp2
    have HB2 : Hid (Below w.heap.size w w2) := HB.out.grown hp2.only HB.out.size (fun q hq => by injection hq with hq; omega)
    have HD2 : Hid (Bk w2 (w.heap.size + 1) 22 (dl zeroD)) := by show Bk _ _ _ _; have := hp2.bk; simpa using this
    clear hp2
    go_wp2_with fail
    exact bodyPost_ret (results_cell_bk (p := 2) (ty := 22) rfl _ _ (w.heap.size + 1) 22 _ _ rfl HD2.out Try.underlying22 rfl HZ8.out) rfl ⟨by rw [HRV.out], HB2.out⟩
end Go.Proofs.Ythibihjblodfmaa
