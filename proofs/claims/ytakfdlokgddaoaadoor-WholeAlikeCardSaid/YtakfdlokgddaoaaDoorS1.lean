/- Slices of bytes put together: slices.Grow, slices.Concat, state.join. -/
import Derived.Test.YtakfdlokgddaoaaDoorOA
import Derived.Lib.AppendZeros
namespace Go.Proofs.YtakfdlokgddaoaaDoor
open Go.RowKit

/-- A slice of bytes, and what it reads as. -/
structure Pc where
  A : Option Addr
  n : Nat
  c : Nat
  bs : List Int
def Pc.v (p : Pc) : Value := .slice p.A p.n p.c
def catP (ps : List Pc) : List Int := ps.flatMap Pc.bs
/-- Each of them lies in memory. -/
def PcsOk (w : World) (ps : List Pc) : Prop := ∀ p ∈ ps, Sl w w.heap.size 1 p.A p.n (p.bs.map (.int .u8))
theorem PcsOk.later {w w' : World} {ps : List Pc} (h : PcsOk w ps) (hb : Below w.heap.size w w') : PcsOk w' ps := fun p hp => (h p hp).later hb
theorem catP_snoc (ps : List Pc) (p : Pc) : catP (ps ++ [p]) = catP ps ++ p.bs := by simp [catP]
theorem catP_take {ps : List Pc} {k : Nat} {p : Pc} (h : ps[k]? = some p) : catP (ps.take (k + 1)) = catP (ps.take k) ++ p.bs := by rw [take_snoc h, catP_snoc]
theorem catP_le {ps : List Pc} (k : Nat) : (catP (ps.take k)).length ≤ (catP ps).length := by
  have : catP ps = catP (ps.take k) ++ catP (ps.drop k) := by unfold catP; rw [← List.flatMap_append, List.take_append_drop]
  rw [this, List.length_append]; omega

theorem zeroCells_len (z : Value) (hz : z.cells.size = 1) (n : Nat) : (Builtin.zeroCells z.cells n).size = n := by simp [Builtin.zeroCells, hz]

def lstB (x : List Int) : List Int := numB x.length ++ x
theorem lstB_len (x : List Int) : (lstB x).length ≤ x.length + 10 := by
  have := (numF_len 9 x.length).2
  simp [lstB, numB]; omega
end Go.Proofs.YtakfdlokgddaoaaDoor
