/- The head of a slice; few bytes. -/
import Derived.Test.YtbclfjdamklbpaaNC
namespace Go.Proofs.Ytbclfjdamklbpaa
open Go.RowKit Go.Maps

theorem _root_.Go.World.ownsRow.later {w w' : World} {base size n : Nat} {e : TypeId} {v : Value} {xs : List Value} (h : w.ownsRow base e size v n xs) (hb : Below w.heap.size w w') : w'.ownsRow base e size v n xs := own_keep h hb
theorem Sl.head {w : World} {B size n : Nat} {A : Option Addr} {xs : List Value} (h : Sl w B size A n xs) {k : Nat} (hk : k ≤ n) : Sl w B size A k (xs.take (k * size)) := by
  have hl := h.len; have hle := h.le
  have : k * size ≤ n * size := Nat.mul_le_mul_right _ hk
  refine ⟨by rw [List.length_take]; omega, by omega, fun h0 => ?_⟩
  obtain ⟨ad, e, hb, hc⟩ := h.mem (by omega)
  refine ⟨ad, e, hb, fun j u hu => hc j u ?_⟩
  rw [List.getElem?_take] at hu
  split at hu
  · exact hu
  · cases hu
theorem Sl.head1 {w : World} {B n : Nat} {A : Option Addr} {α : Type} {f : α → Value} {xs : List α} (h : Sl w B 1 A n (xs.map f)) {k : Nat} (hk : k ≤ n) : Sl w B 1 A k ((xs.take k).map f) := by
  have := h.head hk; rwa [Nat.mul_one, ← List.map_take] at this
section
variable {P : Program}
theorem min_run (ts : Array TypeId) (t : TypeId) (x y : Nat) (z : Int) (hz : z = (y : Int)) (w : World) : (Builtin.min_ ts t #[.int .i64 (x : Int), .int .i64 z]).run P w = .ok (.int .i64 ((min x y : Nat) : Int)) w := by
  subst hz
  rw [run_min_int2]
  congr 2
  split <;> omega
theorem head_run {t e : TypeId} {i : TypeInfo} (ht : P.underlying t = some (.slice e)) (hi : P.info? e = some i) (A : Option Addr) (n c k : Nat) (hk : k ≤ c) (w : World) :
    (Instr.slice t (.slice A n c) none (some (.int .i64 (k : Int))) none).run P w = .ok (.slice A k c) w := by
  have he : P.elem t = e := by simp [Program.elem, ht]
  rw [run_slice_h (P := P) (w := w) t A n c (by rw [he]; exact ht) .i64 k (by omega) (by omega)]
  have h0 : (A.map fun x => x.add 0) = A := by cases A <;> simp [Addr.add]
  simp [he, sizeOf, typeInfo, hi, sliced, h0]
end
theorem run_headB (A : Option Addr) (n c k : Nat) (hk : k ≤ c) (w : World) : (Instr.slice 56 (.slice A n c) none (some (.int .i64 (k : Int))) none).run Try.prog w = .ok (.slice A k c) w := by
  obtain ⟨i0, hi, _⟩ := info_parts Try.infoU8
  exact head_run Try.underlying56 hi A n c k hk w
theorem run_headI (A : Option Addr) (n c k : Nat) (hk : k ≤ c) (w : World) : (Instr.slice 27 (.slice A n c) none (some (.int .i64 (k : Int))) none).run Try.prog w = .ok (.slice A k c) w := by
  obtain ⟨i0, hi, _⟩ := info_parts Try.infoInt
  exact head_run Try.underlying27 hi A n c k hk w
theorem sta_pre {n : Int} {t : List Int} {p : Value} : staC n t p = (dl t ++ [.int .i64 n]) ++ ([p] ++ []) := by simp [staC]
end Go.Proofs.Ytbclfjdamklbpaa
