/- Acts, opened: slices of structs of a truth and three integers. -/
import Derived.Test.YtfapechlnllfaabFF
namespace Go.Proofs.Ytfapechlnllfaab
open Go.ChangeShapes Go.WideShapes Go.ChangeAt Go.RowKit Go.Joins Go.Deep

/-- An act: back, seat, amount, now. -/
abbrev Act4 := Bool × Int × Int × Int
def actV (p : Act4) : List Value := [.bool p.1, .int .i64 p.2.1, .int .i64 p.2.2.1, .int .i64 p.2.2.2]
theorem actV_len (p : Act4) : (actV p).length = 4 := rfl

theorem rd_four {H : Type} {enc : TypeId × Value → H} {P : Program} {W : World} {e : TypeId} {f0 f1 f2 f3 : Field} (he : P.underlying e = some (.struct #[f0, f1, f2, f3])) (hc : P.cellsOf e = 4)
    (o0 : f0.offset = 0) (o1 : f1.offset = 1) (o2 : f2.offset = 2) (o3 : f3.offset = 3) (u0 : P.underlying f0.type = some .bool) (u1 : P.underlying f1.type = some (.int .i64)) (u2 : P.underlying f2.type = some (.int .i64)) (u3 : P.underlying f3.type = some (.int .i64))
    (c0 : P.cellsOf f0.type = 1) (c1 : P.cellsOf f1.type = 1) (c2 : P.cellsOf f2.type = 1) (c3 : P.cellsOf f3.type = 1) :
    RdAs enc P W e actV (fun p => (Lit.int .i64 p.2.1).wf = true ∧ (Lit.int .i64 p.2.2.1).wf = true ∧ (Lit.int .i64 p.2.2.2).wf = true) := by
  intro n cs y h
  obtain ⟨xs, m, _, _, hlen, hxl, hf⟩ := DataW.trod_struct he h
  rw [hc] at hlen
  match cs, hlen, xs, hxl with
  | [a, b, c, d], _, [y0, y1, y2, y3], _ =>
    have g0 := hf 0 f0 rfl
    have g1 := hf 1 f1 rfl
    have g2 := hf 2 f2 rfl
    have g3 := hf 3 f3 rfl
    simp [o0, o1, o2, o3, c0, c1, c2, c3] at g0 g1 g2 g3
    obtain ⟨z0, e0, _⟩ := DataW.trod_bool u0 g0
    obtain ⟨z1, e1, _, w1⟩ := DataW.trod_int u1 g1
    obtain ⟨z2, e2, _, w2⟩ := DataW.trod_int u2 g2
    obtain ⟨z3, e3, _, w3⟩ := DataW.trod_int u3 g3
    simp at e0 e1 e2 e3
    subst e0 e1 e2 e3
    exact ⟨(z0, z1, z2, z3), rfl, w1, w2, w3⟩
theorem rd_act {H : Type} {enc : TypeId × Value → H} {W : World} : RdAs enc Try.prog W 39 actV (fun p => (Lit.int .i64 p.2.1).wf = true ∧ (Lit.int .i64 p.2.2.1).wf = true ∧ (Lit.int .i64 p.2.2.2).wf = true) :=
  rd_four Try.underlying39 (by kernel_rfl) rfl rfl rfl rfl Try.underlying4 Try.underlying3 Try.underlying3 Try.underlying3 (by kernel_rfl) (by kernel_rfl) (by kernel_rfl) (by kernel_rfl)
theorem open_acts {H : Type} {enc : TypeId × Value → H} {W : World} {v : Value} {d : DataW H} {p : List MemPlace} {r : Reach} {b0 : Nat} (hv : Value.okWide Try.prog W r b0 37 v)
    (h : DataW.Trod enc Try.prog W 0 (fun _ => true) true 37 v d p) : ∃ (A : Option Addr) (n c : Nat) (l : List Act4), v = .slice A n c ∧ l.length = n ∧ Sl W W.heap.size 4 A n (l.flatMap actV) ∧
      ∀ p ∈ l, (Lit.int .i64 p.2.1).wf = true ∧ (Lit.int .i64 p.2.2.1).wf = true ∧ (Lit.int .i64 p.2.2.2).wf = true := by
  obtain ⟨A, n, c, l, e, hl, hs, hw⟩ := open_slN (m := 4) Try.underlying37 (by kernel_rfl) (by omega) rd_act hv h
  exact ⟨A, n, c, l, e, hl, hs, fun p hp => (hw p hp).1⟩

/-- The cells of the k-th act. -/
theorem act_at {w : World} {B n k : Nat} {A : Option Addr} {l : List Act4} (h : Sl w B 4 A n (l.flatMap actV)) (hl : l.length = n) (hk : k < n) :
    ∃ b o p, A = some ⟨b, o, none⟩ ∧ b < B ∧ l[k]? = some p ∧ w.cell? ⟨b, o + k * 4, none⟩ = some (.bool p.1) ∧ w.cell? ⟨b, o + k * 4 + 1, none⟩ = some (.int .i64 p.2.1) ∧
      w.cell? ⟨b, o + k * 4 + 2, none⟩ = some (.int .i64 p.2.2.1) ∧ w.cell? ⟨b, o + k * 4 + 3, none⟩ = some (.int .i64 p.2.2.2) := by
  obtain ⟨b, o, p, rfl, hb, hz, hc⟩ := Sl.cellO (m := 4) actV_len (by omega) h hk hl
  exact ⟨b, o, p, rfl, hb, hz, hc 0 _ rfl, hc 1 _ rfl, hc 2 _ rfl, hc 3 _ rfl⟩
end Go.Proofs.Ytfapechlnllfaab
