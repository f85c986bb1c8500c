/- Things that are signed one behind the other. -/
import Derived.Test.YthibihjblodfmaaUE
namespace Go.Proofs.Ythibihjblodfmaa
open Go.RowKit Go.Maps

theorem grown_none {w w' : World} (h : w.grownBy w' none) : Below w.heap.size w w' := (Below.refl _ _).grown h (Nat.le_refl _) (fun k hk => by cases hk)
theorem ThK.own {w1 w w' : World} {cs : List Value} {T : Tg} (h : ThK w1 w cs T) {base size n : Nat} {e : TypeId} {v : Value} {xs : List Value} (ho : w.ownsRow base e size v n xs) (hg : w.grownBy w' v.ownBlock) (hne : 5 ≠ e) : ThK w1 w' cs T := by
  rcases own_bk ho with ⟨rfl, _⟩ | ⟨q, cap, ys, rfl, _, hb, _⟩
  · exact h.later (grown_none hg)
  · exact h.grown hg hb hne
/-- What stands while things are signed. -/
structure FI (w wk : World) (lo g : Nat) (v : Value) (ys : List (List Value × Tg)) (es : List Ent) : Prop where
  row : wk.ownsRow lo 35 30 v ys.length (ys.map (·.1)).flatten
  th : ∀ y ∈ ys, ThK w wk y.1 y.2
  bk : BookAt wk lo g es
  hb : Below w.heap.size w wk
  lh : lo ≤ wk.heap.size
  wl : w.heap.size ≤ lo
section
variable {w wk wn : World} {lo g : Nat} {v : Value} {ys : List (List Value × Tg)} {es : List Ent}
theorem FI.later (h : FI w wk lo g v ys es) (hb : Below wk.heap.size wk wn) : FI w wn lo g v ys es :=
  ⟨own_keep h.row hb, fun y hy => (h.th y hy).later hb, h.bk.later hb, below_then h.hb hb, Nat.le_trans h.lh hb.size, h.wl⟩
theorem FI.sign (h : FI w wk lo g v ys es) {es' : List Ent} (hk : Keeps wk wn) (hb : Below lo wk wn) (hbk : BookAt wn lo g es') : FI w wn lo g v ys es' :=
  ⟨own_keeps h.row hk (by decide) (by decide), fun y hy => (h.th y hy).keeps hk, hbk, h.hb.trans (hb.mono h.wl), Nat.le_trans h.lh hb.size, h.wl⟩
theorem FI.app (h : FI w wk lo g v ys es) {y : List Value × Tg} (hy : ThK w wk y.1 y.2) {v' : Value} (ho : wn.ownsRow lo 35 30 v' (ys.length + 1) ((ys.map (·.1)).flatten ++ y.1)) (hg : wk.grownBy wn v.ownBlock) : FI w wn lo g v' (ys ++ [y]) es := by
  refine ⟨by simpa using ho, fun x hx => ?_, h.bk.own h.row hg (by decide) (by decide), grown_below h.hb h.row hg h.wl h.hb.size, Nat.le_trans h.lh hg.size, h.wl⟩
  rcases List.mem_append.1 hx with hx | hx
  · exact (h.th x hx).own h.row hg (by decide)
  · simp at hx
    subst hx
    exact hy.own h.row hg (by decide)
theorem FI.ths (h : FI w wk lo g v ys es) : ∃ A C, v = .slice A ys.length C ∧ Ths wk A ys.length ys := by
  obtain ⟨A, C, rfl⟩ := own_form h.row
  exact ⟨A, C, rfl, ⟨Sl.of_own h.row, fun y hy => (h.th y hy).thg h.hb⟩⟩
end
end Go.Proofs.Ythibihjblodfmaa
