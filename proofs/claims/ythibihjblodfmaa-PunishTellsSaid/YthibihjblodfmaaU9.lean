/- PunishTells: more bytes than it looks at. -/
import Derived.Test.YthibihjblodfmaaU7
import Derived.Test.YthibihjblodfmaaP4
namespace Go.Proofs.Ythibihjblodfmaa
set_option linter.unusedSimpArgs false
set_option linter.unusedVariables false
open Go.RowKit Go.Maps

theorem qcells {w : World} {g : Nat} {k n : Int} {t v : List Int} {A B : Option Addr} {N C M D : Nat} {o : Bool} (ht : DgOk t) (hv : DgOk v) (h : Bk w g 25 (rtC k n t v (.slice A N C) (.slice B M D) o)) : w.cell? ⟨g, 18, none⟩ = some (.slice A N C) ∧ w.cell? ⟨g, 19, none⟩ = some (.slice B M D) := ⟨(rt_mem ht hv h).c18, (rt_mem ht hv h).c19⟩
set_option maxRecDepth 20000 in
set_option maxHeartbeats 4000000 in
theorem ptells_big (w : World) (k n k' n' : Int) (t v t' v' : List Int) (A B A' B' : Option Addr) (N C M D N' C' M' D' : Nat) (o o' : Bool) (ht : DgOk t) (hv : DgOk v) (ht' : DgOk t') (hv' : DgOk v') (X3 X4 : Array Value)
    (hla : N ≤ 140737488355328 ∧ M ≤ 140737488355328) (hlb : N' ≤ 140737488355328 ∧ M' ≤ 140737488355328) (hbig : 5000 < N + M ∨ 5000 < N' + M') :
    Calls Try.prog 4 #[.agg (rtC k n t v (.slice A N C) (.slice B M D) o).toArray, .agg (rtC k' n' t' v' (.slice A' N' C') (.slice B' M' D') o').toArray, .agg X3, .agg X4] w fun e w' => e = .returned (.bool true) ∧ Below w.heap.size w w' := by
  obtain ⟨X1, hX1⟩ : ∃ X, (rtC k n t v (.slice A N C) (.slice B M D) o).toArray = X := ⟨_, rfl⟩
  obtain ⟨X2, hX2⟩ : ∃ X, (rtC k' n' t' v' (.slice A' N' C') (.slice B' M' D') o').toArray = X := ⟨_, rfl⟩
  obtain ⟨z, hz⟩ : ∃ z, w.heap.size = z := ⟨_, rfl⟩
  obtain ⟨w1, hw1⟩ : ∃ w1, (((w.alloc (.cells X1 25)).alloc (.cells X2 25)).alloc (.cells X3 22)).alloc (.cells X4 48) = w1 := ⟨_, rfl⟩
  have hb1 : Below w.heap.size w w1 := hw1 ▸ (((below_new w _).alloc (by simp) _).alloc (by simp <;> omega) _).alloc (by simp <;> omega) _
  have k1 : Bk w1 z 25 (rtC k n t v (.slice A N C) (.slice B M D) o) := hw1 ▸ (((Bk.at_ w _ X1 hz (by rw [← hX1])).alloc _).alloc _).alloc _
  have k2 : Bk w1 (z + 1) 25 (rtC k' n' t' v' (.slice A' N' C') (.slice B' M' D') o') := hw1 ▸ ((Bk.at_ _ _ X2 (by simp [hz]) (by rw [← hX2])).alloc _).alloc _
  have HW := Lib.hid hw1; have HBB1 := Lib.hid hb1; have HP1 := Lib.hid k1; have HQ1 := Lib.hid k2
  have HTO := Lib.hid ht; have HVO := Lib.hid hv; have HTO' := Lib.hid ht'; have HVO' := Lib.hid hv'
  have s1 : IntKind.i64.wrap ((N : Int) + M) = (N : Int) + M := IntWalk.i64_in _ (by omega)
  have s2 : IntKind.i64.wrap ((N' : Int) + M') = (N' : Int) + M' := IntWalk.i64_in _ (by omega)
  rw [hX1, hX2]
  clear hX1 hX2 hw1 hb1 k1 k2 ht hv ht' hv'
  go_enter Try.func4, Try.ntmps4
  go_upto_region 1 with fail
  rw [HW.out]
  go_wp2_with fail
  refine (pknown_any w1).mono ?_
  rintro e w2 ⟨rfl, hbn⟩
  have HBB2 := Lib.hid (below_then HBB1.out hbn)
  have HP2 := Lib.hid (HP1.out.later hbn)
  have HQ2 := Lib.hid (HQ1.out.later hbn)
  clear hbn
  have a18 := (qcells HTO.out HVO.out HP2.out).1; have a19 := (qcells HTO.out HVO.out HP2.out).2; have b18 := (qcells HTO'.out HVO'.out HQ2.out).1; have b19 := (qcells HTO'.out HVO'.out HQ2.out).2
  by_cases t1 : 5000 < N + M
  · have t2 : decide ((5000 : Int) < (N : Int) + M) = true := by simp; omega
    go_wp2_with fail
    refine (pknown_any w2).mono ?_
    rintro e w3 ⟨rfl, hbn⟩
    have HBB3 := Lib.hid (below_then HBB2.out hbn)
    clear hbn
    go_wp2_with fail
    go_ret
    exact ⟨rfl, HBB3.out⟩
  · have t2 : decide ((5000 : Int) < (N : Int) + M) = false := by simp; omega
    have t4 : decide ((5000 : Int) < (N' : Int) + M') = true := by simp; omega
    go_wp2_with fail
    refine (pknown_any w2).mono ?_
    rintro e w3 ⟨rfl, hbn⟩
    have HBB3 := Lib.hid (below_then HBB2.out hbn)
    clear hbn
    go_wp2_with fail
    go_ret
    exact ⟨rfl, HBB3.out⟩
end Go.Proofs.Ythibihjblodfmaa
