/- What is wrong with a transaction: the program's. (Begun.) -/
import Derived.Test.YtbpmomedhdmloaaDoorB1
import Derived.Test.YtbpmomedhdmloaaDoorQ1
import Derived.Test.YtbpmomedhdmloaaDoorLib2
import Derived.BigGuardPart
import Derived.Deep.Light
import Derived.Deep.QuietTactic
import Derived.BigQuiet
namespace Go.Proofs.YtbpmomedhdmloaaDoor
set_option linter.unusedSimpArgs false
set_option linter.unusedVariables false
open Go.RowKit Go.Maps

def uptoB (a b : Int) : Bool := decide (0 ≤ a) && decide (a ≤ b)
theorem upto_any (a b : Int) (w : World) :
    Calls Tryd.prog 38 #[.int .i64 a, .int .i64 b] w fun e w' => e = .returned (.bool (uptoB a b)) ∧ w = w' := by
  go_enter Tryd.func38, Tryd.ntmps38
  go_wp2
  all_goals
    go_ret
    exact ⟨by simp [uptoB, *] <;> omega, rfl⟩
/-- A transaction's cells. -/
def txC (t : TxT) (p q : Value) : List Value := dl t.f ++ [.int .i64 t.n, .int .i64 t.e, .int .i64 t.k, p, q]
structure TxM (w : World) (g o : Nat) (t : TxT) (p q : Value) : Prop where
  r0 : w.rangeAt g o (dl t.f)
  c8 : w.cell? ⟨g, o + 8, none⟩ = some (.int .i64 t.n)
  c9 : w.cell? ⟨g, o + 9, none⟩ = some (.int .i64 t.e)
  c10 : w.cell? ⟨g, o + 10, none⟩ = some (.int .i64 t.k)
  c11 : w.cell? ⟨g, o + 11, none⟩ = some p
  c12 : w.cell? ⟨g, o + 12, none⟩ = some q
theorem tx_mem {w : World} {g : Nat} {t : TxT} {p q : Value} {ty : TypeId} (hh : DgOk t.f) (h : Bk w g ty (txC t p q)) : TxM w g 0 t p q := by
  have lt := hh.len
  have e : ∀ j, w.cell? ⟨g, 8 + j, none⟩ = [Value.int .i64 t.n, .int .i64 t.e, .int .i64 t.k, p, q][j]? := fun j => by
    rw [h.cell, txC, List.getElem?_append_right (by rw [dl_len, lt]; omega), dl_len, lt]
    congr 1; omega
  have h3 : Bk w g ty ([] ++ (dl t.f ++ [.int .i64 t.n, .int .i64 t.e, .int .i64 t.k, p, q])) := h
  exact ⟨h3.range rfl, e 0, e 1, e 2, e 3, e 4⟩
theorem txC_len {t : TxT} (hh : DgOk t.f) (p q : Value) : (txC t p q).length = 13 := by simp [txC, dl_len, hh.len]
end Go.Proofs.YtbpmomedhdmloaaDoor
