/- The arguments of layer 3's laws, opened. -/
import Derived.Test.YtfapechlnllfaaaFrame2
import Derived.Test.YtfapechlnllfaaaC8
namespace Go.Proofs.Ytfapechlnllfaaa
open Go.ChangeShapes Go.WideShapes Go.ChangeAt Go.RowKit Go.Joins

theorem rd_ask {H : Type} {enc : TypeId × Value → H} {W : World} : RdAs enc Try.prog W 45 askV (fun p => (Lit.int .i64 p.1).wf = true ∧ (Lit.int .i64 p.2).wf = true) :=
  rd_two Try.underlying45 (by kernel_rfl) rfl rfl Try.underlying3 Try.underlying3 (by kernel_rfl) (by kernel_rfl)

theorem open_asks {H : Type} {enc : TypeId × Value → H} {W : World} {v : Value} {d : DataW H} {p : List MemPlace} {r : Reach} {b0 : Nat} (hv : Value.okWide Try.prog W r b0 35 v)
    (h : DataW.Trod enc Try.prog W 0 (fun _ => true) true 35 v d p) : ∃ (A : Option Addr) (n c : Nat) (l : List (Int × Int)), v = .slice A n c ∧ l.length = n ∧ Sl W W.heap.size 2 A n (l.flatMap askV) := by
  obtain ⟨A, n, c, l, e, hl, hs, _⟩ := open_slN (m := 2) Try.underlying35 (by kernel_rfl) (by omega) rd_ask hv h
  exact ⟨A, n, c, l, e, hl, hs⟩
theorem open_keeps {H : Type} {enc : TypeId × Value → H} {W : World} {v : Value} {d : DataW H} {p : List MemPlace} {r : Reach} {b0 : Nat} (hv : Value.okWide Try.prog W r b0 60 v)
    (h : DataW.Trod enc Try.prog W 0 (fun _ => true) true 60 v d p) : ∃ (A : Option Addr) (n c : Nat) (l : List (Int × Int)) (last : Int), v = .agg #[.slice A n c, .int .i64 last] ∧ l.length = n ∧ Sl W W.heap.size 2 A n (l.flatMap askV) := by
  obtain ⟨c0, c1, y0, y1, m, rfl, _, _, h0, h1⟩ := open_agg2 Try.underlying60 (by kernel_rfl) (by kernel_rfl) hv h
  obtain ⟨A, n, c, l, rfl, hl, hs, _⟩ := open_slNc (m := 2) Try.underlying35 (by kernel_rfl) (by omega) rd_ask h0
  obtain ⟨z, e, _⟩ := DataW.trod_int Try.underlying3 h1
  simp at e; subst e
  exact ⟨A, n, c, l, z, rfl, hl, hs⟩
theorem open_pair {H : Type} {enc : TypeId × Value → H} {W : World} {v : Value} {d : DataW H} {p : List MemPlace} {r : Reach} {b0 : Nat} (hv : Value.okWide Try.prog W r b0 51 v)
    (h : DataW.Trod enc Try.prog W 0 (fun _ => true) true 51 v d p) : ∃ (A1 A2 : Option Addr) (n1 n2 c1 c2 : Nat) (l1 l2 : List (Int × Int)), v = .agg #[.slice A1 n1 c1, .slice A2 n2 c2] ∧
      (l1.length = n1 ∧ Sl W W.heap.size 2 A1 n1 (l1.flatMap askV)) ∧ (l2.length = n2 ∧ Sl W W.heap.size 2 A2 n2 (l2.flatMap askV)) := by
  obtain ⟨c0, c1, y0, y1, m, rfl, _, _, h0, h1⟩ := open_agg2 Try.underlying51 (by kernel_rfl) (by kernel_rfl) hv h
  obtain ⟨A1, n1, c1, l1, rfl, hl1, hs1, _⟩ := open_slNc (m := 2) Try.underlying35 (by kernel_rfl) (by omega) rd_ask h0
  obtain ⟨A2, n2, c2, l2, rfl, hl2, hs2, _⟩ := open_slNc (m := 2) Try.underlying35 (by kernel_rfl) (by omega) rd_ask h1
  exact ⟨A1, A2, n1, n2, c1, c2, l1, l2, rfl, ⟨hl1, hs1⟩, ⟨hl2, hs2⟩⟩
end Go.Proofs.Ytfapechlnllfaaa
