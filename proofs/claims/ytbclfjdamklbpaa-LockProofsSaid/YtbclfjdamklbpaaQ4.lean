/- States and acts, compared. -/
import Derived.Test.YtbclfjdamklbpaaQ3
import Derived.Test.YtbclfjdamklbpaaOC
namespace Go.Proofs.Ytbclfjdamklbpaa
open Go.RowKit

section
variable {P : Program}
theorem wpList_load_midG {ops : Array Oper} {rest : List Oper} {op : Oper} {a : Act} {w : World} {Q : Exit → Act → World → Prop} (hw : Region.wanted op (yielded ops a.tmps) = true) (ty : TypeId) (x : Operand) (ho : op.op = .load ty x)
    (b o : Nat) (hx : a.eval x = .pointer (some ⟨b, o, none⟩)) (cs : List Value) (d : TypeDesc) (hc : w.rangeAt b o cs)
    (hu : P.underlying ty = some d) (hd : d.isRow = true) (hi : (P.info? ty).map (·.size) = some cs.length)
    (h : wpList P ops Q rest (a.put op.dst (.agg cs.toArray)) w) : wpList P ops Q (op :: rest) a w :=
  wpList_step fun _ hK => by rw [if_pos hw]; exact wp_load_mid ty x ho b o hx cs d hc hu hd hi (hK _ _ h)
end
theorem dg_eq_run (t t' : List Int) (ht : DgOk t) (ht' : DgOk t') (W : World) : (Op.equalIn 10000 23 (.agg (dl t).toArray) (.agg (dl t').toArray)).run Try.prog W = .ok (eqL t t') W := by
  obtain ⟨j, hj, hjs⟩ := Option.map_eq_some_iff.1 (show (Try.prog.info? 5).map (·.size) = some 1 by kernel_rfl)
  exact run_equalIn_ints 9998 23 5 8 Try.underlying23 Try.underlying5 hj hjs t t' ht.len ht'.len W
theorem rdg_eq_run (t t' : List Int) (ht : DgOk t) (ht' : DgOk t') (W : World) : (Op.equalIn 10000 22 (.agg (dl t).toArray) (.agg (dl t').toArray)).run Try.prog W = .ok (eqL t t') W := by
  obtain ⟨j, hj, hjs⟩ := Option.map_eq_some_iff.1 (show (Try.prog.info? 5).map (·.size) = some 1 by kernel_rfl)
  exact run_equalIn_ints 9998 22 5 8 Try.underlying22 Try.underlying5 hj hjs t t' ht.len ht'.len W
structure StaM (w : World) (g : Nat) (n : Int) (t : List Int) (p : Value) : Prop where
  r0 : w.rangeAt g 0 (dl t)
  c8 : w.cell? ⟨g, 8, none⟩ = some (.int .i64 n)
  c9 : w.cell? ⟨g, 9, none⟩ = some p
structure ActM (w : World) (g : Nat) (m : Int) (u v : List Int) (q : Value) : Prop where
  r0 : w.rangeAt g 0 (dl u)
  c8 : w.cell? ⟨g, 8, none⟩ = some (.int .i64 m)
  r9 : w.rangeAt g 9 (dl v)
  c17 : w.cell? ⟨g, 17, none⟩ = some q
end Go.Proofs.Ytbclfjdamklbpaa
