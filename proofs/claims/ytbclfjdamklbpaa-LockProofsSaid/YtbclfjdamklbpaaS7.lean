/- Of all states, acts and payouts it is told what is signed: the walk. -/
import Derived.Test.YtbclfjdamklbpaaS6
namespace Go.Proofs.Ytbclfjdamklbpaa
open Go.RowKit Go.Maps

def bodyC (p : Value) (a : List Int) (q : Value) : List Value := p :: (dl a ++ [q])
theorem bodyC_len {p q : Value} {a : List Int} (h : DgOk a) : (bodyC p a q).length = 10 := by simp [bodyC, dl_len, h.len]
structure BoM (w : World) (g : Nat) (p : Value) (a : List Int) (q : Value) : Prop where
  c0 : w.cell? ⟨g, 0, none⟩ = some p
  c9 : w.cell? ⟨g, 9, none⟩ = some q
  r1 : w.rangeAt g 1 (dl a)
theorem bo_mem {w : World} {g : Nat} {p q : Value} {a : List Int} {ty : TypeId} (ha : DgOk a) (h : Bk w g ty (bodyC p a q)) : BoM w g p a q := by
  have h1 : Bk w g ty ([] ++ p :: (dl a ++ [q])) := h
  have h2 : Bk w g ty ((p :: dl a) ++ q :: []) := by simpa [bodyC] using h
  have h3 : Bk w g ty ([p] ++ (dl a ++ [q])) := by simpa [bodyC] using h
  exact ⟨h1.at1 rfl, h2.at1 (by simp [dl_len, ha.len]), h3.range rfl⟩
theorem build_py {t : List Int} (ht : DgOk t) (A : Option Addr) (N C : Nat) (w : World) : (Instr.build 90 #[(0, .agg (dl t).toArray), (1, .slice A N C)]).run Try.prog w = .ok (.agg (pyC t (.slice A N C)).toArray) w := by
  obtain ⟨x0, x1, x2, x3, x4, x5, x6, x7, rfl⟩ := list8 t ht.len
  kernel_rfl
theorem DgOk.one {d : List Int} (_ : DgOk d) : ∀ v ∈ dl d, v.oneCell' = true := dl_one' d
end Go.Proofs.Ytbclfjdamklbpaa
