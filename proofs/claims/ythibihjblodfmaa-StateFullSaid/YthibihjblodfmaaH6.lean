/- Digests: two together. -/
import Derived.Test.YthibihjblodfmaaH5
namespace Go.Proofs.Ythibihjblodfmaa
open Go.RowKit

theorem DgAt.later {w w' : World} {g : Nat} {t : TypeId} {ds : List Int} (h : DgAt w g t ds) (hb : Below w.heap.size w w') : DgAt w' g t ds := Bk.later h hb
theorem StAt.later {w w' : World} {g : Nat} {t : TypeId} {s : St} (h : StAt w g t s) (hb : Below w.heap.size w w') : StAt w' g t s := Bk.later h hb
def twoI (a b : List Int) : List Int := outI (takeI (takeI (beginI 3) (numG a)) (numG b))
theorem twoI_ok (a b : List Int) : DgOk (twoI a b) := outI_ok _

theorem list8 {α : Type} (l : List α) (h : l.length = 8) : ∃ a0 a1 a2 a3 a4 a5 a6 a7, l = [a0, a1, a2, a3, a4, a5, a6, a7] := by
  match l, h with
  | [a0, a1, a2, a3, a4, a5, a6, a7], _ => exact ⟨_, _, _, _, _, _, _, _, rfl⟩
theorem cells8 {w : World} {g : Nat} {t : TypeId} {a0 a1 a2 a3 a4 a5 a6 a7 : Int} (h : DgAt w g t [a0, a1, a2, a3, a4, a5, a6, a7]) : w.cell? ⟨g, 0, none⟩ = some (.int .u8 a0) ∧ w.cell? ⟨g, 1, none⟩ = some (.int .u8 a1) ∧ w.cell? ⟨g, 2, none⟩ = some (.int .u8 a2) ∧ w.cell? ⟨g, 3, none⟩ = some (.int .u8 a3) ∧ w.cell? ⟨g, 4, none⟩ = some (.int .u8 a4) ∧ w.cell? ⟨g, 5, none⟩ = some (.int .u8 a5) ∧ w.cell? ⟨g, 6, none⟩ = some (.int .u8 a6) ∧ w.cell? ⟨g, 7, none⟩ = some (.int .u8 a7) :=
  ⟨Bk.cell h 0, Bk.cell h 1, Bk.cell h 2, Bk.cell h 3, Bk.cell h 4, Bk.cell h 5, Bk.cell h 6, Bk.cell h 7⟩
theorem out8 (w : World) (s : St) :
    Calls Try.prog 129 #[.agg #[.int .u64 s.a, .int .u64 s.b, .int .u64 s.c, .int .u64 s.d]] w fun e w' => ∃ o0 o1 o2 o3 o4 o5 o6 o7 : Int, e = .returned (.agg #[.int .u8 o0, .int .u8 o1, .int .u8 o2, .int .u8 o3, .int .u8 o4, .int .u8 o5, .int .u8 o6, .int .u8 o7]) ∧ Hid (outI s = [o0, o1, o2, o3, o4, o5, o6, o7]) ∧ Below w.heap.size w w' := by
  obtain ⟨o0, o1, o2, o3, o4, o5, o6, o7, ho⟩ := list8 (outI s) (outI_ok s).len
  refine (out_any w s).mono ?_
  rintro e w' ⟨rfl, hb⟩
  exact ⟨o0, o1, o2, o3, o4, o5, o6, o7, by rw [ho]; rfl, ho, hb⟩
theorem zeros8 {w : World} {g : Nat} {t : TypeId} (h : DgAt w g t (List.replicate 8 0)) : (w.cell? ⟨g, 0, none⟩ = some (.int .u8 0) ∧ w.cell? ⟨g, 1, none⟩ = some (.int .u8 0) ∧ w.cell? ⟨g, 2, none⟩ = some (.int .u8 0) ∧ w.cell? ⟨g, 3, none⟩ = some (.int .u8 0) ∧ w.cell? ⟨g, 4, none⟩ = some (.int .u8 0) ∧ w.cell? ⟨g, 5, none⟩ = some (.int .u8 0) ∧ w.cell? ⟨g, 6, none⟩ = some (.int .u8 0) ∧ w.cell? ⟨g, 7, none⟩ = some (.int .u8 0)) ∧ (∀ i, w.frozen? ⟨g, i, none⟩ = false) ∧ g < w.heap.size :=
  ⟨cells8 h, Bk.frozen h, Bk.lt h⟩
theorem cells16 {w w1 W : World} {t : TypeId} {a0 a1 a2 a3 a4 a5 a6 a7 b0 b1 b2 b3 b4 b5 b6 b7 : Int} (h : DgAt w1 w.heap.size t [a0, a1, a2, a3, a4, a5, a6, a7]) (h' : DgAt w1 (w.heap.size + 1) t [b0, b1, b2, b3, b4, b5, b6, b7]) (hb : Below w1.heap.size w1 W) : W.cell? ⟨w.heap.size, 0, none⟩ = some (.int .u8 a0) ∧ W.cell? ⟨w.heap.size, 1, none⟩ = some (.int .u8 a1) ∧ W.cell? ⟨w.heap.size, 2, none⟩ = some (.int .u8 a2) ∧ W.cell? ⟨w.heap.size, 3, none⟩ = some (.int .u8 a3) ∧ W.cell? ⟨w.heap.size, 4, none⟩ = some (.int .u8 a4) ∧ W.cell? ⟨w.heap.size, 5, none⟩ = some (.int .u8 a5) ∧ W.cell? ⟨w.heap.size, 6, none⟩ = some (.int .u8 a6) ∧ W.cell? ⟨w.heap.size, 7, none⟩ = some (.int .u8 a7) ∧ W.cell? ⟨w.heap.size + 1, 0, none⟩ = some (.int .u8 b0) ∧ W.cell? ⟨w.heap.size + 1, 1, none⟩ = some (.int .u8 b1) ∧ W.cell? ⟨w.heap.size + 1, 2, none⟩ = some (.int .u8 b2) ∧ W.cell? ⟨w.heap.size + 1, 3, none⟩ = some (.int .u8 b3) ∧ W.cell? ⟨w.heap.size + 1, 4, none⟩ = some (.int .u8 b4) ∧ W.cell? ⟨w.heap.size + 1, 5, none⟩ = some (.int .u8 b5) ∧ W.cell? ⟨w.heap.size + 1, 6, none⟩ = some (.int .u8 b6) ∧ W.cell? ⟨w.heap.size + 1, 7, none⟩ = some (.int .u8 b7) := by
  have h1 := h.later hb; have h2 := h'.later hb
  exact ⟨Bk.cell h1 0, Bk.cell h1 1, Bk.cell h1 2, Bk.cell h1 3, Bk.cell h1 4, Bk.cell h1 5, Bk.cell h1 6, Bk.cell h1 7, cells8 h2⟩

theorem cells16g {w w1 W : World} {t : TypeId} {a0 a1 a2 a3 a4 a5 a6 a7 b0 b1 b2 b3 b4 b5 b6 b7 : Int} (h : DgAt w1 w.heap.size t [a0, a1, a2, a3, a4, a5, a6, a7]) (h' : DgAt w1 (w.heap.size + 1) t [b0, b1, b2, b3, b4, b5, b6, b7]) {q : Nat} (hb : w1.grownBy W (some q)) (h1 : w.heap.size ≠ q) (h2 : w.heap.size + 1 ≠ q) : W.cell? ⟨w.heap.size, 0, none⟩ = some (.int .u8 a0) ∧ W.cell? ⟨w.heap.size, 1, none⟩ = some (.int .u8 a1) ∧ W.cell? ⟨w.heap.size, 2, none⟩ = some (.int .u8 a2) ∧ W.cell? ⟨w.heap.size, 3, none⟩ = some (.int .u8 a3) ∧ W.cell? ⟨w.heap.size, 4, none⟩ = some (.int .u8 a4) ∧ W.cell? ⟨w.heap.size, 5, none⟩ = some (.int .u8 a5) ∧ W.cell? ⟨w.heap.size, 6, none⟩ = some (.int .u8 a6) ∧ W.cell? ⟨w.heap.size, 7, none⟩ = some (.int .u8 a7) ∧ W.cell? ⟨w.heap.size + 1, 0, none⟩ = some (.int .u8 b0) ∧ W.cell? ⟨w.heap.size + 1, 1, none⟩ = some (.int .u8 b1) ∧ W.cell? ⟨w.heap.size + 1, 2, none⟩ = some (.int .u8 b2) ∧ W.cell? ⟨w.heap.size + 1, 3, none⟩ = some (.int .u8 b3) ∧ W.cell? ⟨w.heap.size + 1, 4, none⟩ = some (.int .u8 b4) ∧ W.cell? ⟨w.heap.size + 1, 5, none⟩ = some (.int .u8 b5) ∧ W.cell? ⟨w.heap.size + 1, 6, none⟩ = some (.int .u8 b6) ∧ W.cell? ⟨w.heap.size + 1, 7, none⟩ = some (.int .u8 b7) := by
  have h1 : DgAt W _ _ _ := Bk.grown h hb (by simpa using h1); have h2 : DgAt W _ _ _ := Bk.grown h' hb (by simpa using h2)
  exact ⟨Bk.cell h1 0, Bk.cell h1 1, Bk.cell h1 2, Bk.cell h1 3, Bk.cell h1 4, Bk.cell h1 5, Bk.cell h1 6, Bk.cell h1 7, cells8 h2⟩

end Go.Proofs.Ythibihjblodfmaa
