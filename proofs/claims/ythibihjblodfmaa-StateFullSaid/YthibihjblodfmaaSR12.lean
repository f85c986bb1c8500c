/- StateFull as its row hands the arguments over. -/
import Derived.Test.YthibihjblodfmaaSF
import Derived.Test.YthibihjblodfmaaS12
namespace Go.Proofs.Ythibihjblodfmaa
open Go.ChangeShapes Go.WideShapes Go.ChangeAt Go.RowKit Go.Deep

theorem rd_bl {H : Type} {enc : TypeId × Value → H} {W : World} : RdAs enc Try.prog W 77 (fun q : (Option Addr × Nat × Nat × List Bool) => [.slice q.1 q.2.1 q.2.2.1]) (fun q => q.2.1 ≤ q.2.2.1 ∧ Sl W W.heap.size 1 q.1 q.2.1 (q.2.2.2.map .bool)) := by
  intro n cs y h
  have hl : cs.length = 1 := by
    rcases open_slice Try.underlying77 h with ⟨hcs, _⟩ | ⟨x, len, cap, m', k, D, Pl, hcs, _⟩
    · rw [hcs]; rfl
    · rw [hcs]; rfl
  obtain ⟨A, n, c, zs, e, h1⟩ := trod_bs hl h
  exact ⟨(A, n, c, zs), e, h1⟩
set_option maxRecDepth 100000 in
theorem open_bb {H : Type} {enc : TypeId × Value → H} {W : World} {v : Value} {d : DataW H} {p : List MemPlace} {r : Reach} {b0 : Nat} (hv : Value.okWide Try.prog W r b0 87 v)
    (h : DataW.Trod enc Try.prog W 0 (fun _ => true) true 87 v d p) :
    ∃ (A : Option Addr) (n c : Nat) (zs : List Bool) (B : Option Addr) (m e : Nat) (ys : List Bool), v = .agg #[.slice A n c, .slice B m e] ∧ (n ≤ c ∧ Sl W W.heap.size 1 A n (zs.map .bool)) ∧ (m ≤ e ∧ Sl W W.heap.size 1 B m (ys.map .bool)) := by
  obtain ⟨cs, rfl⟩ : ∃ cs, v = .agg cs := by
    unfold Value.okWide at hv
    rw [Try.underlying87] at hv
    obtain ⟨cs, hv, _⟩ := hv
    exact ⟨cs, hv⟩
  obtain ⟨fuel, hf⟩ := h
  simp only [Value.cells] at hf
  obtain ⟨xs, m, _, _, hlen, hxl, hg⟩ := DataW.trod_array Try.underlying87 hf
  have hc : Try.prog.cellsOf 77 = 1 := by kernel_rfl
  have hl : cs.toList.length = 2 := by rw [hlen]; kernel_rfl
  have g0 := hg 0 (by omega)
  have g1 := hg 1 (by omega)
  rw [hc] at g0 g1
  rw [List.getElem?_eq_getElem (by omega)] at g0 g1
  obtain ⟨q0, e0, h0⟩ := rd_bl _ _ _ g0
  obtain ⟨q1, e1, h1⟩ := rd_bl _ _ _ g1
  refine ⟨q0.1, q0.2.1, q0.2.2.1, q0.2.2.2, q1.1, q1.2.1, q1.2.2.1, q1.2.2.2, ?_, h0, h1⟩
  match cs, hl with
  | ⟨[a, b]⟩, _ =>
    simp at e0 e1
    rw [e0, e1]
theorem law_StateFull' (many : Int) (As : Option Addr) (Ns Cs : Nat) (ss : List Bool) (Ag : Option Addr) (Ng Cg : Nat) (gs : List Bool) (t : List Int) (n : Int) (A : Option Addr) (N C : Nat) (bs : List Int) (W : World)
    (_ : (Lit.int .i64 many).wf = true) (h1 : (Ns ≤ Cs ∧ Sl W W.heap.size 1 As Ns (ss.map .bool)) ∧ (Ng ≤ Cg ∧ Sl W W.heap.size 1 Ag Ng (gs.map .bool))) (h0 : DgOk t ∧ (-9223372036854775808 ≤ n ∧ n < 9223372036854775808) ∧ (N ≤ C ∧ Sl W W.heap.size 1 A N (bs.map (.int .u8)) ∧ ByOk bs)) :
    Calls Try.prog 9 #[.int .i64 many, .agg #[.slice As Ns Cs, .slice Ag Ng Cg], .agg (staC n t (.slice A N C)).toArray] W fun e w' => e = .returned (.bool true) ∧ Below W.heap.size W w' :=
  sfull_any W many As Ag Ns Cs Ng Cg ss gs h1.1.2 h1.2.2 h1.2.1 t h0.1 n h0.2.1 A N C bs h0.2.2.1 h0.2.2.2.1 h0.2.2.2.2
end Go.Proofs.Ythibihjblodfmaa
