/- Arguments opened: slices of whatever elements that are told by their cells alone (bools, structs of integers). -/
import Derived.Test.YtakfdlokgddaoaaDoorFrame
import Derived.Test.YtakfdlokgddaoaaDoorLib2
namespace Go.Proofs.YtakfdlokgddaoaaDoor
open Go.ChangeShapes Go.WideShapes Go.ChangeAt Go.RowKit Go.Deep

/-- Every reading of type e is told by its cells: 'f a' for some a of which 'ok' holds. -/
def RdAs {H : Type} (enc : TypeId × Value → H) (P : Program) (W : World) (e : TypeId) {α : Type} (f : α → List Value) (ok : α → Prop) : Prop :=
  ∀ (n : Nat) (cs : List Value) (y : DataW H × List MemPlace), DataW.trod enc P W 0 (fun _ => true) true n e cs = some y → ∃ a, cs = f a ∧ ok a

theorem flat_get {α : Type} {f : α → List Value} {m : Nat} : ∀ (l : List α) (_ : ∀ z ∈ l, (f z).length = m) (i j : Nat) (z : α), l[i]? = some z → j < m → (l.flatMap f)[i * m + j]? = (f z)[j]?
  | [], _, i, j, z, h, _ => by simp at h
  | x :: l, hf, 0, j, z, h, hj => by
    simp at h; subst h
    rw [List.flatMap_cons, List.getElem?_append_left (by rw [hf x (by simp)]; omega)]; simp
  | x :: l, hf, i + 1, j, z, h, hj => by
    rw [List.flatMap_cons, List.getElem?_append_right (by rw [hf x (by simp), Nat.succ_mul]; omega), hf x (by simp)]
    have : (i + 1) * m + j - m = i * m + j := by rw [Nat.succ_mul]; omega
    rw [this]
    exact flat_get l (fun z hz => hf z (by simp [hz])) i j z (by simpa using h) hj
theorem flat_len {α : Type} {f : α → List Value} {m : Nat} : ∀ (l : List α) (_ : ∀ z ∈ l, (f z).length = m), (l.flatMap f).length = l.length * m
  | [], _ => by simp
  | x :: l, hf => by rw [List.flatMap_cons, List.length_append, hf x (by simp), flat_len l (fun z hz => hf z (by simp [hz])), List.length_cons, Nat.succ_mul]; omega

theorem open_slNc {H : Type} {enc : TypeId × Value → H} {P : Program} {W : World} {t e : TypeId} {v : Value} {fuel : Nat} {y : DataW H × List MemPlace} {α : Type} [Inhabited α] {f : α → List Value} {ok : α → Prop} {m : Nat}
    (ht : P.underlying t = some (.slice e)) (hm : P.cellsOf e = m) (hpos : 0 < m) (hrd : RdAs enc P W e f ok)
    (hf : DataW.trod enc P W 0 (fun _ => true) true fuel t [v] = some y) :
    ∃ (A : Option Addr) (n c : Nat) (zs : List α), v = .slice A n c ∧ zs.length = n ∧ Sl W W.heap.size m A n (zs.flatMap f) ∧ ∀ z ∈ zs, ok z ∧ (f z).length = m := by
  rcases open_slice ht hf with ⟨hcs, _⟩ | ⟨x, len, cap, m', n, D, Pl, hcs, _, hl, hmx, hmm, _, hx⟩
  · simp at hcs
    subst hcs
    exact ⟨none, 0, 0, [], rfl, rfl, Sl.nil, by simp⟩
  · simp at hcs
    subst hcs
    rw [hm] at hx
    have hlm : len ≤ m' := by simp at hmm; omega
    obtain ⟨F, hF⟩ := choose_lt (n := len) (p := fun i a => (∀ j, j < m → W.cell? (x.add (i * m + j)) = (f a)[j]?) ∧ ok a ∧ (f a).length = m) (fun i hi => by
      obtain ⟨cs', h1, h2⟩ := hx i (by omega)
      obtain ⟨_, h3, h4⟩ := World.cells?_some h1
      obtain ⟨a, rfl, h5⟩ := hrd _ _ _ h2
      exact ⟨a, fun j hj => by rw [← h4 j hj, add_add'], h5, h3⟩)
    have hlen : ∀ z ∈ (List.range len).map F, (f z).length = m := fun z hz => by
      obtain ⟨i, hi, rfl⟩ := List.mem_map.1 hz
      exact (hF i (List.mem_range.1 hi)).2.2
    refine ⟨_, len, cap, (List.range len).map F, rfl, by simp, ⟨by rw [flat_len _ hlen]; simp, by unfold maxLen at hmx; omega, fun hn => ⟨x, rfl, ?_, fun j u hu => ?_⟩⟩, fun z hz => ?_⟩
    · have h1 := (hF 0 hn).1 0 hpos
      have h2 := (hF 0 hn).2.2
      rw [List.getElem?_eq_getElem (by omega)] at h1
      have := cell_lt h1; rwa [add_block] at this
    · have hjl : j < len * m := by
        have := (List.getElem?_eq_some_iff.1 hu).1; rw [flat_len _ hlen] at this; simpa using this
      have e : j = j / m * m + j % m := by rw [Nat.mul_comm]; exact (Nat.div_add_mod j m).symm
      have hi : j / m < len := (Nat.div_lt_iff_lt_mul hpos).2 hjl
      have hr : j % m < m := Nat.mod_lt _ hpos
      rw [e, flat_get _ hlen (j / m) (j % m) (F (j / m)) (by simp [hi]) hr] at hu
      rw [e, (hF _ hi).1 _ hr, hu]
    · obtain ⟨i, hi, rfl⟩ := List.mem_map.1 hz
      exact (hF i (List.mem_range.1 hi)).2

theorem open_slN {H : Type} {enc : TypeId × Value → H} {P : Program} {W : World} {t e : TypeId} {v : Value} {d : DataW H} {p : List MemPlace} {α : Type} [Inhabited α] {f : α → List Value} {ok : α → Prop} {m : Nat}
    (ht : P.underlying t = some (.slice e)) (hm : P.cellsOf e = m) (hpos : 0 < m) (hrd : RdAs enc P W e f ok) {r : Reach} {b0 : Nat} (hv : Value.okWide P W r b0 t v)
    (h : DataW.Trod enc P W 0 (fun _ => true) true t v d p) :
    ∃ (A : Option Addr) (n c : Nat) (zs : List α), v = .slice A n c ∧ zs.length = n ∧ Sl W W.heap.size m A n (zs.flatMap f) ∧ ∀ z ∈ zs, ok z ∧ (f z).length = m := by
  obtain ⟨a0, len, cap, rfl⟩ := okWide_slice ht hv
  obtain ⟨fuel, hf⟩ := h
  exact open_slNc ht hm hpos hrd (by simpa [Value.cells] using hf)

theorem rd_bool {H : Type} {enc : TypeId × Value → H} {P : Program} {W : World} {e : TypeId} (he : P.underlying e = some .bool) : RdAs enc P W e (fun b => [.bool b]) (fun _ => True) := by
  intro n cs y h
  obtain ⟨b, rfl, _⟩ := DataW.trod_bool he h
  exact ⟨b, rfl, trivial⟩
theorem flat_one {α : Type} (f : α → Value) : ∀ l : List α, l.flatMap (fun a => [f a]) = l.map f
  | [] => rfl
  | x :: l => by rw [List.flatMap_cons, flat_one f l]; rfl
theorem open_slb {H : Type} {enc : TypeId × Value → H} {P : Program} {W : World} {t e : TypeId} {v : Value} {d : DataW H} {p : List MemPlace}
    (ht : P.underlying t = some (.slice e)) (he : P.underlying e = some .bool) (hc : P.cellsOf e = 1) {r : Reach} {b0 : Nat} (hv : Value.okWide P W r b0 t v)
    (h : DataW.Trod enc P W 0 (fun _ => true) true t v d p) : ∃ (A : Option Addr) (n c : Nat) (zs : List Bool), v = .slice A n c ∧ Sl W W.heap.size 1 A n (zs.map .bool) := by
  obtain ⟨A, n, c, zs, hv, _, hs, _⟩ := open_slN ht hc (by omega) (rd_bool he) hv h
  rw [flat_one] at hs
  exact ⟨A, n, c, zs, hv, hs⟩
/-- A struct of two integers. -/
theorem rd_two {H : Type} {enc : TypeId × Value → H} {P : Program} {W : World} {e : TypeId} {f0 f1 : Field} {k0 k1 : IntKind} (he : P.underlying e = some (.struct #[f0, f1])) (hc : P.cellsOf e = 2)
    (o0 : f0.offset = 0) (o1 : f1.offset = 1) (u0 : P.underlying f0.type = some (.int k0)) (u1 : P.underlying f1.type = some (.int k1)) (c0 : P.cellsOf f0.type = 1) (c1 : P.cellsOf f1.type = 1) :
    RdAs enc P W e (fun p : Int × Int => [.int k0 p.1, .int k1 p.2]) (fun p => (Lit.int k0 p.1).wf = true ∧ (Lit.int k1 p.2).wf = true) := by
  intro n cs y h
  obtain ⟨xs, m, _, _, hlen, hxl, hf⟩ := DataW.trod_struct he h
  rw [hc] at hlen
  match cs, hlen, xs, hxl with
  | [a, b], _, [y0, y1], _ =>
    have g0 := hf 0 f0 rfl
    have g1 := hf 1 f1 rfl
    simp [o0, o1, c0, c1] at g0 g1
    obtain ⟨z0, e0, _, w0⟩ := DataW.trod_int u0 g0
    obtain ⟨z1, e1, _, w1⟩ := DataW.trod_int u1 g1
    simp at e0 e1
    subst e0 e1
    exact ⟨(z0, z1), rfl, w0, w1⟩
end Go.Proofs.YtakfdlokgddaoaaDoor
