/- Transactions and blocks cloned. -/
import Derived.Test.YtbpmomedhdmloaaGreatDoorBC
namespace Go.Proofs.YtbpmomedhdmloaaGreatDoor
set_option linter.unusedSimpArgs false
set_option linter.unusedVariables false
open Go.RowKit Go.Maps

/-- A transaction whose bytes lie in blocks of its own, from lo on. -/
structure TxgO (lo : Nat) (w : World) (cs : List Value) (t : TxT) : Prop where
  ex : ∃ (A B : Option Addr) (N C M D : Nat), cs = txC t (.slice A N C) (.slice B M D) ∧ w.ownsRow lo 5 1 (.slice A N C) N (t.b.map (.int .u8)) ∧ w.ownsRow lo 5 1 (.slice B M D) M (t.s.map (.int .u8))
  ok : TxOk t
theorem own_cap {w : World} {lo size n c : Nat} {A : Option Addr} {e : TypeId} {xs : List Value} (h : w.ownsRow lo e size (.slice A n c) n xs) : n ≤ c := by
  rcases own_bk h with ⟨e1, _⟩ | ⟨q, cap, zs, e1, _, _, hnc, _⟩
  · injection e1 with _ e2 e3; omega
  · injection e1 with _ _ e3; omega
theorem TxgO.g {lo : Nat} {w : World} {cs : List Value} {t : TxT} (h : TxgO lo w cs t) : Txg w cs t := by
  obtain ⟨⟨A, B, N, C, M, D, e, h1, h2⟩, ok⟩ := h
  exact ⟨⟨A, B, N, C, M, D, e, Sl.of_own h1, Sl.of_own h2, own_cap h1, own_cap h2⟩, ok⟩
theorem TxgO.later {lo : Nat} {w w' : World} {cs : List Value} {t : TxT} (h : TxgO lo w cs t) (hb : Below w.heap.size w w') : TxgO lo w' cs t := by
  obtain ⟨⟨A, B, N, C, M, D, e, h1, h2⟩, ok⟩ := h
  exact ⟨⟨A, B, N, C, M, D, e, own_keep h1 hb, own_keep h2 hb⟩, ok⟩
theorem TxgO.base {lo lo' : Nat} {w : World} {cs : List Value} {t : TxT} (h : TxgO lo w cs t) (hl : lo' ≤ lo) : TxgO lo' w cs t := by
  obtain ⟨⟨A, B, N, C, M, D, e, h1, h2⟩, ok⟩ := h
  exact ⟨⟨A, B, N, C, M, D, e, own_base h1 hl, own_base h2 hl⟩, ok⟩
theorem TxgO.grown {lo : Nat} {w w' : World} {cs : List Value} {t : TxT} {g : Nat} {ty : TypeId} {zs : List Value} (h : TxgO lo w cs t) (hg : w.grownBy w' (some g)) (hk : Bk w g ty zs) (hne : 5 ≠ ty) : TxgO lo w' cs t := by
  obtain ⟨⟨A, B, N, C, M, D, e, h1, h2⟩, ok⟩ := h
  exact ⟨⟨A, B, N, C, M, D, e, own_only h1 hg (own_bk_ne h1 hk hne), own_only h2 hg (own_bk_ne h2 hk hne)⟩, ok⟩
theorem own_apart2 {w w' : World} {b1 b2 s1 s2 n1 n2 : Nat} {e1 e2 : TypeId} {v1 v2 : Value} {xs ys : List Value} (h : w.ownsRow b1 e1 s1 v1 n1 xs) (h' : w.ownsRow b2 e2 s2 v2 n2 ys) (hne : e1 ≠ e2) (hg : w.grownBy w' v2.ownBlock) : w'.ownsRow b1 e1 s1 v1 n1 xs := by
  rcases own_bk h' with ⟨rfl, _⟩ | ⟨g, cap, zs, rfl, _, hb, _⟩
  · exact h.kept hg (by cases v1.ownBlock <;> simp [Value.ownBlock])
  · exact own_only h hg (own_bk_ne h hb hne)
/-- A block cloned: its transactions lie in blocks of their own. -/
structure OwnT (lo : Nat) (w : World) (v : Value) (N : Nat) (L : List TxT) (ys : List (List Value × TxT)) : Prop where
  own : w.ownsRow lo 76 13 v N (ys.map (·.1)).flatten
  map : ys.map (·.2) = L
  all : ∀ y ∈ ys, TxgO lo w y.1 y.2
theorem OwnT.later {lo N : Nat} {w w' : World} {v : Value} {L : List TxT} {ys : List (List Value × TxT)} (h : OwnT lo w v N L ys) (hb : Below w.heap.size w w') : OwnT lo w' v N L ys := ⟨own_keep h.own hb, h.map, fun y hy => (h.all y hy).later hb⟩
theorem OwnT.base {lo lo' N : Nat} {w : World} {v : Value} {L : List TxT} {ys : List (List Value × TxT)} (h : OwnT lo w v N L ys) (hl : lo' ≤ lo) : OwnT lo' w v N L ys := ⟨own_base h.own hl, h.map, fun y hy => (h.all y hy).base hl⟩
theorem OwnT.grown {lo N g : Nat} {w w' : World} {v : Value} {L : List TxT} {ys : List (List Value × TxT)} {ty : TypeId} {zs : List Value} (h : OwnT lo w v N L ys) (hg : w.grownBy w' (some g)) (hk : Bk w g ty zs) (hne : 5 ≠ ty) (hne' : 76 ≠ ty) : OwnT lo w' v N L ys := ⟨own_only h.own hg (own_bk_ne h.own hk hne'), h.map, fun y hy => (h.all y hy).grown hg hk hne⟩
theorem OwnT.txs {lo N : Nat} {w : World} {A : Option Addr} {c : Nat} {L : List TxT} {ys : List (List Value × TxT)} (h : OwnT lo w (.slice A N c) N L ys) : Txs w A N ys := ⟨Sl.of_own h.own, fun y hy => (h.all y hy).g⟩
theorem map_take2 {xs : List (List Value × TxT)} (k : Nat) : (xs.take k).map (·.2) = (xs.map (·.2)).take k := List.map_take
end Go.Proofs.YtbpmomedhdmloaaGreatDoor
