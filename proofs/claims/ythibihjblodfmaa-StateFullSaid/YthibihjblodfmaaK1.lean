/- Rows of digests. -/
import Derived.Test.YthibihjblodfmaaH6
namespace Go.Proofs.Ythibihjblodfmaa
open Go.RowKit

def cellsD (ls : List (List Int)) : List Value := ls.flatMap fun d => d.map (Value.int .u8)
def DsOk (ls : List (List Int)) : Prop := ∀ d ∈ ls, DgOk d
theorem cellsD_len {ls : List (List Int)} (h : DsOk ls) : (cellsD ls).length = ls.length * 8 := by
  induction ls with
  | nil => rfl
  | cons d ls ih =>
    have := ih (fun x hx => h x (by simp [hx]))
    have hd := (h d (by simp)).len
    unfold cellsD at this ⊢
    rw [List.flatMap_cons, List.length_append, this, List.length_map, hd, List.length_cons]; omega
theorem cellsD_get {ls : List (List Int)} (h : DsOk ls) {k : Nat} {d : List Int} (hk : ls[k]? = some d) {j : Nat} (hj : j < 8) : (cellsD ls)[k * 8 + j]? = (d.map (Value.int .u8))[j]? := by
  induction ls generalizing k with
  | nil => simp at hk
  | cons x ls ih =>
    have hx := (h x (by simp)).len
    unfold cellsD at ih ⊢
    cases k with
    | zero =>
      simp at hk; subst hk
      rw [List.flatMap_cons, List.getElem?_append_left (by rw [List.length_map, hx]; omega)]; simp
    | succ k =>
      rw [List.flatMap_cons, List.getElem?_append_right (by rw [List.length_map, hx]; omega), List.length_map, hx, show (k + 1) * 8 + j - 8 = k * 8 + j by omega]
      exact ih (fun y hy => h y (by simp [hy])) (by simpa using hk)
theorem Sl.dgs {w : World} {B n : Nat} {A : Option Addr} {ls : List (List Int)} (h : Sl w B 8 A n (cellsD ls)) (ho : DsOk ls) : ls.length = n := by
  have := h.len; rw [cellsD_len ho] at this; omega
theorem sl_dg {w : World} {B n b o : Nat} {ls : List (List Int)} (h : Sl w B 8 (some ⟨b, o, none⟩) n (cellsD ls)) (ho : DsOk ls) {k : Nat} {d : List Int} (hk : ls[k]? = some d) : w.rangeAt b (o + k * 8) (d.map (.int .u8)) := by
  intro j v hv
  have hkn : k < n := by rw [← h.dgs ho]; exact (List.getElem?_eq_some_iff.1 hk).1
  obtain ⟨ad, e, _, hc⟩ := h.mem (by omega)
  injection e with e; subst e
  have hj : j < 8 := by
    have := (List.getElem?_eq_some_iff.1 hv).1
    rw [List.length_map, (ho d (List.mem_of_getElem? hk)).len] at this; exact this
  have := hc (k * 8 + j) v (by rw [cellsD_get ho hk hj]; exact hv)
  rw [add_plain, ← Nat.add_assoc] at this
  exact this
end Go.Proofs.Ythibihjblodfmaa
