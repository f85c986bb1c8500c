/- What came in: deeds. -/
import Derived.Test.YthibihjblodfmaaUD
import Derived.Test.YthibihjblodfmaaSF
namespace Go.Proofs.Ythibihjblodfmaa
set_option linter.constructorNameAsVariable false
open Go.ChangeShapes Go.WideShapes Go.ChangeAt Go.RowKit Go.Deep

instance : Inhabited DeT := ⟨⟨0, 0, 0, [], false, 0, false⟩⟩
def deOk (W : World) (x : List Value × DeT) : Prop := ∃ (A' : Option Addr) (N' C' : Nat), x.1 = deC x.2 (.slice A' N' C') ∧ x.2.bs.length = N' ∧ (x.2.bs.length ≤ 60 → DeOk W x.2 A' N')
set_option maxRecDepth 100000 in
theorem rd_deed {H : Type} {enc : TypeId × Value → H} {W : World} : RdAs enc Try.prog W 70 (fun x : List Value × DeT => x.1) (deOk W) := by
  intro fuel cs y hf
  obtain ⟨xs, m, _, _, hlen, hxl, hg⟩ := DataW.trod_struct Try.underlying70 hf
  have hl7 : cs.length = 7 := by rw [hlen]; kernel_rfl
  match xs, hxl with
  | [y0, y1, y2, y3, y4, y5, y6], _ =>
    have g0 : DataW.trod enc Try.prog W 0 (fun _ => true) true m 3 (List.take (Try.prog.cellsOf 3) (List.drop 0 cs)) = some y0 := hg 0 _ rfl
    have g1 : DataW.trod enc Try.prog W 0 (fun _ => true) true m 3 (List.take (Try.prog.cellsOf 3) (List.drop 1 cs)) = some y1 := hg 1 _ rfl
    have g2 : DataW.trod enc Try.prog W 0 (fun _ => true) true m 3 (List.take (Try.prog.cellsOf 3) (List.drop 2 cs)) = some y2 := hg 2 _ rfl
    have g3 : DataW.trod enc Try.prog W 0 (fun _ => true) true m 23 (List.take (Try.prog.cellsOf 23) (List.drop 3 cs)) = some y3 := hg 3 _ rfl
    have g4 : DataW.trod enc Try.prog W 0 (fun _ => true) true m 4 (List.take (Try.prog.cellsOf 4) (List.drop 4 cs)) = some y4 := hg 4 _ rfl
    have g5 : DataW.trod enc Try.prog W 0 (fun _ => true) true m 5 (List.take (Try.prog.cellsOf 5) (List.drop 5 cs)) = some y5 := hg 5 _ rfl
    have g6 : DataW.trod enc Try.prog W 0 (fun _ => true) true m 4 (List.take (Try.prog.cellsOf 4) (List.drop 6 cs)) = some y6 := hg 6 _ rfl
    have ci : Try.prog.cellsOf 3 = 1 := by kernel_rfl
    have cb : Try.prog.cellsOf 23 = 1 := by kernel_rfl
    have co : Try.prog.cellsOf 4 = 1 := by kernel_rfl
    have cu : Try.prog.cellsOf 5 = 1 := by kernel_rfl
    rw [ci] at g0 g1 g2
    rw [cb] at g3
    rw [co] at g4 g6
    rw [cu] at g5
    obtain ⟨s, e0, _, _⟩ := DataW.trod_int Try.underlying3 g0
    obtain ⟨k, e1, _, _⟩ := DataW.trod_int Try.underlying3 g1
    obtain ⟨n, e2, _, hn⟩ := DataW.trod_int Try.underlying3 g2
    obtain ⟨A, N, C, bs, e3, _, h3, h3'⟩ := open_by Try.underlying23 Try.underlying5 cu (by rw [List.length_take, List.length_drop]; omega) g3
    obtain ⟨tb, e4, _⟩ := DataW.trod_bool Try.underlying4 g4
    obtain ⟨pl, e5, _, hp⟩ := DataW.trod_int Try.underlying5 g5
    obtain ⟨sp, e6, _⟩ := DataW.trod_bool Try.underlying4 g6
    refine ⟨(cs, ⟨s, k, n, bs, tb, pl, sp⟩), rfl, A, N, C, ?_, h3.length, fun hl => ⟨h3, h3', hl, (i64_wf hn).1, (i64_wf hn).2, (u8_wf hp).1, (u8_wf hp).2⟩⟩
    show cs = deC _ _
    rw [show cs = cs.drop 0 from rfl, part_at cs 0 1, e0, part_at cs (0 + 1) 1, e1, part_at cs (0 + 1 + 1) 1, e2, part_at cs (0 + 1 + 1 + 1) 1, e3, part_at cs (0 + 1 + 1 + 1 + 1) 1, e4, part_at cs (0 + 1 + 1 + 1 + 1 + 1) 1, e5, part_at cs (0 + 1 + 1 + 1 + 1 + 1 + 1) 1, e6, List.drop_of_length_le (by omega)]
    simp [deC]
set_option maxRecDepth 100000 in
theorem open_deeds {H : Type} {enc : TypeId × Value → H} {W : World} {v : Value} {d : DataW H} {p : List MemPlace} {r : Reach} {b0 : Nat} (hv : Value.okWide Try.prog W r b0 66 v)
    (h : DataW.Trod enc Try.prog W 0 (fun _ => true) true 66 v d p) : ∃ (A : Option Addr) (n c : Nat) (xs : List (List Value × DeT)), v = .slice A n c ∧ Des W A n xs := by
  obtain ⟨A, n, c, l, e, hl, hs, hok⟩ := open_slN (m := 7) Try.underlying66 (by kernel_rfl) (by omega) rd_deed hv h
  exact ⟨A, n, c, l, e, by rw [← List.flatMap_def]; exact hs, fun x hx => (hok x hx).1⟩
end Go.Proofs.Ythibihjblodfmaa
