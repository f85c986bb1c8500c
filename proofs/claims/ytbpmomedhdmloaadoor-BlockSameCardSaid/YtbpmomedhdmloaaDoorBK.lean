/- A cloned block's transactions are turned, cell by cell. -/
import Derived.Test.YtbpmomedhdmloaaDoorBI
namespace Go.Proofs.YtbpmomedhdmloaaDoor
set_option linter.unusedSimpArgs false
set_option linter.unusedVariables false
open Go.RowKit Go.Maps

theorem own_setc {w : World} {base size n c g : Nat} {e : TypeId} {xs : List Value} (h : w.ownsRow base e size (.slice (some ⟨g, 0, none⟩) n c) n xs) (k : Nat) (u : Value) :
    (w.setCell ⟨g, k, none⟩ u).ownsRow base e size (.slice (some ⟨g, 0, none⟩) n c) n (xs.set k u) := by
  rcases own_bk h with ⟨e1, _⟩ | ⟨q, cap, ys, e1, hb, hk, hn, hc, hl, ht⟩
  · injection e1 with e1; cases e1
  · injection e1 with e1 e2 e3
    injection e1 with e1
    injection e1 with e1
    subst e1; subst e3
    exact (hk.set_ k u).own hb hn hc (by simp [hl]) (by rw [List.take_set, ht])
theorem flat_set {m : Nat} (v : Value) : ∀ (L : List (List Value)), (∀ l ∈ L, l.length = m) → ∀ (i : Nat) (l : List Value), L[i]? = some l → ∀ j, j < m → L.flatten.set (i * m + j) v = (L.set i (l.set j v)).flatten
  | [], _, i, l, hi, _, _ => by simp at hi
  | x :: L, h, 0, l, hi, j, hj => by
    simp at hi; subst hi
    have hx := h x (by simp)
    rw [Nat.zero_mul, Nat.zero_add, List.flatten_cons, List.set_append, if_pos (by omega), List.set_cons_zero, List.flatten_cons]
  | x :: L, h, i + 1, l, hi, j, hj => by
    have hx := h x (by simp)
    rw [List.flatten_cons, List.set_append, if_neg (by rw [hx, Nat.succ_mul]; omega), hx, show (i + 1) * m + j - m = i * m + j by rw [Nat.succ_mul]; omega, flat_set v L (fun y hy => h y (by simp [hy])) i l (by simpa using hi) j hj, List.set_cons_succ, List.flatten_cons]
theorem txC_set9 {t : TxT} (h : DgOk t.f) (p q : Value) (v : Int) : (txC t p q).set 9 (.int .i64 v) = txC { t with e := v } p q := by
  obtain ⟨f, n, e, k, b, s⟩ := t
  obtain ⟨x0, x1, x2, x3, x4, x5, x6, x7, rfl⟩ := list8 f h.len
  rfl
/-- Bytes of one's own, of which one cell is turned: they are bytes yet. -/
theorem own_u8_set {w : World} {lo n c g k : Nat} {A : Option Addr} {bs zs0 : List Int} {n0 c0 : Nat} {v : Int} (h0 : w.ownsRow lo 5 1 (.slice (some ⟨g, 0, none⟩) n0 c0) n0 (zs0.map (.int .u8)))
    (h : w.ownsRow lo 5 1 (.slice A n c) n (bs.map (.int .u8))) (hb : ByOk bs) (hv : 0 ≤ v ∧ v < 256) :
    ∃ bs', (w.setCell ⟨g, k, none⟩ (.int .u8 v)).ownsRow lo 5 1 (.slice A n c) n (bs'.map (.int .u8)) ∧ ByOk bs' ∧ bs'.length = bs.length := by
  have hgb : ∃ ys, Bk w g 5 ys := by
    rcases own_bk h0 with ⟨e1, _⟩ | ⟨q, cap, ys, e1, _, hk, _⟩
    · injection e1 with e1; cases e1
    · injection e1 with e1; injection e1 with e1; injection e1 with e1; subst e1; exact ⟨ys, hk⟩
  by_cases hg : (Value.slice A n c).ownBlock = some g
  · rcases own_bk h with ⟨e1, _⟩ | ⟨q, cap, ys, e1, hbq, hk, hn, hc, hl, ht⟩
    · rw [e1] at hg; simp [Value.ownBlock] at hg
    · injection e1 with e1 e2 e3
      subst e1
      have hq : q = g := by simpa [Value.ownBlock] using hg
      subst hq
      have := own_setc h k (.int .u8 v)
      rw [← List.map_set] at this
      refine ⟨bs.set k v, this, fun x hx => ?_, by simp⟩
      rcases List.mem_or_eq_of_mem_set hx with hx | rfl
      · exact hb x hx
      · exact hv
  · exact ⟨bs, own_only h (only_set (only_refl w g) k _) hg, hb, rfl⟩
theorem wrap_ne (e : Int) : wrap64 (e + 1) ≠ e := by unfold wrap64; omega
theorem wrap_rg (e : Int) : -9223372036854775808 ≤ wrap64 e ∧ wrap64 e < 9223372036854775808 := by unfold wrap64; omega
/-- The clone while it is turned: the first i fees are raised. -/
structure MutI (lo : Nat) (w : World) (A : Option Addr) (N c : Nat) (L : List TxT) (i : Nat) (ys : List (List Value × TxT)) : Prop where
  own : w.ownsRow lo 47 13 (.slice A N c) N (ys.map (·.1)).flatten
  len : ys.length = N
  all : ∀ y ∈ ys, TxgO lo w y.1 y.2
  ne : 0 < i → ∀ (y : List Value × TxT) (t : TxT), ys[0]? = some y → L[0]? = some t → y.2.e ≠ t.e
  eq : ∀ (j : Nat) (y : List Value × TxT) (t : TxT), i ≤ j → ys[j]? = some y → L[j]? = some t → y.2.e = t.e
theorem MutI.later {lo : Nat} {w w' : World} {A : Option Addr} {N c : Nat} {L : List TxT} {i : Nat} {ys : List (List Value × TxT)} (h : MutI lo w A N c L i ys) (hb : Below w.heap.size w w') : MutI lo w' A N c L i ys := ⟨own_keep h.own hb, h.len, fun y hy => (h.all y hy).later hb, h.ne, h.eq⟩
theorem MutI.lens {lo : Nat} {w : World} {A : Option Addr} {N c : Nat} {L : List TxT} {i : Nat} {ys : List (List Value × TxT)} (h : MutI lo w A N c L i ys) : ∀ l ∈ ys.map (·.1), l.length = 13 := fun l hl => by
  obtain ⟨x, hx, rfl⟩ := List.mem_map.1 hl
  exact (h.all x hx).g.len
theorem MutI.start {lo : Nat} {w : World} {A : Option Addr} {N c : Nat} {L : List TxT} {ys : List (List Value × TxT)} (h : OwnT lo w (.slice A N c) N L ys) : MutI lo w A N c L 0 ys :=
  ⟨h.own, (h.txs).length, h.all, fun h => absurd h (by omega), fun j y t _ hy ht => by
    rw [← h.map, List.getElem?_map, hy] at ht
    injection ht with ht; rw [← ht]⟩
theorem MutI.head {lo : Nat} {w : World} {A : Option Addr} {N c : Nat} {L : List TxT} {i : Nat} {ys : List (List Value × TxT)} (h : MutI lo w A N c L i ys) (hN : 0 < N) : ∃ g zs, A = some ⟨g, 0, none⟩ ∧ lo ≤ g ∧ Bk w g 47 zs := by
  rcases own_bk h.own with ⟨e1, e2, _⟩ | ⟨q, cap, ys', e1, hb, hk, _⟩
  · omega
  · injection e1 with e1; exact ⟨q, ys', e1, hb, hk⟩
/-- The cells of the i-th. -/
theorem MutI.cell {lo : Nat} {w : World} {g N c : Nat} {L : List TxT} {i j : Nat} {ys : List (List Value × TxT)} {cs : List Value} {t : TxT} {v : Value} (h : MutI lo w (some ⟨g, 0, none⟩) N c L i ys) {k : Nat} (hk : ys[k]? = some (cs, t)) (hj : cs[j]? = some v) : w.cell? ⟨g, k * 13 + j, none⟩ = some v := by
  have hl : (cs : List Value).length = 13 := (h.all _ (List.mem_of_getElem? hk)).g.len
  have := sl_flat (Sl.of_own h.own) h.lens (k := k) (l := cs) (by rw [List.getElem?_map, hk]; rfl) j v hj
  rw [Nat.zero_add] at this
  exact this
/-- A fee is raised. -/
theorem MutI.fee {lo : Nat} {w : World} {g N c : Nat} {L : List TxT} {i : Nat} {ys : List (List Value × TxT)} {cs : List Value} {t : TxT} (h : MutI lo w (some ⟨g, 0, none⟩) N c L i ys) (hL : L.length = N) (hk : ys[i]? = some (cs, t)) :
    ∃ ys', MutI lo (w.setCell ⟨g, i * 13 + 9, none⟩ (.int .i64 (wrap64 (t.e + 1)))) (some ⟨g, 0, none⟩) N c L (i + 1) ys' := by
  obtain ⟨zs, hgb⟩ : ∃ zs, Bk w g 47 zs := by
    rcases own_bk h.own with ⟨e1, _⟩ | ⟨q, cap, ys', e1, hb, hk, _⟩
    · injection e1 with e1; cases e1
    · injection e1 with e1; injection e1 with e1; injection e1 with e1; subst e1; exact ⟨ys', hk⟩
  have hlt : i < ys.length := (List.getElem?_eq_some_iff.1 hk).1
  obtain ⟨⟨A1, B1, N1, C1, M1, D1, e0, o1, o2⟩, ok⟩ := h.all _ (List.mem_of_getElem? hk)
  have e0 : cs = txC t (.slice A1 N1 C1) (.slice B1 M1 D1) := e0
  have ok : TxOk t := ok
  have ok' : TxOk { t with e := wrap64 (t.e + 1) } := ⟨ok.f, ok.b, ok.s, ok.n, wrap_rg _, ok.k⟩
  refine ⟨ys.set i (txC { t with e := wrap64 (t.e + 1) } (.slice A1 N1 C1) (.slice B1 M1 D1), { t with e := wrap64 (t.e + 1) }), ?_, by simp [h.len], fun y hy => ?_, fun _ y u hy hu => ?_, fun j y u hj hy hu => ?_⟩
  · have := own_setc h.own (i * 13 + 9) (.int .i64 (wrap64 (t.e + 1)))
    rw [flat_set _ _ h.lens i cs (by rw [List.getElem?_map, hk]; rfl) 9 (by omega), e0, txC_set9 ok.f] at this
    rw [List.map_set]
    exact this
  · have hap : ∀ y ∈ ys, TxgO lo (w.setCell ⟨g, i * 13 + 9, none⟩ (.int .i64 (wrap64 (t.e + 1)))) y.1 y.2 := fun y hy => (h.all y hy).grown (only_set (only_refl w g) _ _) hgb (by decide)
    rcases List.mem_or_eq_of_mem_set hy with hy | rfl
    · exact hap y hy
    · obtain ⟨⟨A2, B2, N2, C2, M2, D2, e2, p1, p2⟩, _⟩ := hap (cs, t) (List.mem_of_getElem? hk)
      have e2 : cs = txC t (.slice A2 N2 C2) (.slice B2 M2 D2) := e2
      have hq1 := own_only o1 (only_set (only_refl w g) (i * 13 + 9) (.int .i64 (wrap64 (t.e + 1)))) (own_bk_ne o1 hgb (by decide))
      have hq2 := own_only o2 (only_set (only_refl w g) (i * 13 + 9) (.int .i64 (wrap64 (t.e + 1)))) (own_bk_ne o2 hgb (by decide))
      exact ⟨⟨A1, B1, N1, C1, M1, D1, rfl, hq1, hq2⟩, ok'⟩
  · rw [List.getElem?_set] at hy
    by_cases h0 : i = 0
    · subst h0
      rw [if_pos rfl, if_pos hlt] at hy
      injection hy with hy; subst hy
      have := h.eq 0 _ u (Nat.le_refl _) hk hu
      show wrap64 (t.e + 1) ≠ u.e
      have e3 : t.e = u.e := this
      rw [← e3]; exact wrap_ne _
    · rw [if_neg h0] at hy
      exact h.ne (by omega) y u hy hu
  · rw [List.getElem?_set, if_neg (by omega)] at hy
    exact h.eq j y u (by omega) hy hu
/-- A byte of a body is raised. -/
theorem MutI.byte {lo : Nat} {w : World} {A : Option Addr} {N c : Nat} {L : List TxT} {i : Nat} {ys : List (List Value × TxT)} (h : MutI lo w A N c L i ys) {g k n0 c0 : Nat} {zs0 : List Int} {v : Int}
    (h0 : w.ownsRow lo 5 1 (.slice (some ⟨g, 0, none⟩) n0 c0) n0 (zs0.map (.int .u8))) (hv : 0 ≤ v ∧ v < 256) :
    ∃ ys', MutI lo (w.setCell ⟨g, k, none⟩ (.int .u8 v)) A N c L i ys' ∧ ys'.map (·.1) = ys.map (·.1) := by
  have hgb : ∃ zs, Bk w g 5 zs := by
    rcases own_bk h0 with ⟨e1, _⟩ | ⟨q, cap, ys, e1, _, hk, _⟩
    · injection e1 with e1; cases e1
    · injection e1 with e1; injection e1 with e1; injection e1 with e1; subst e1; exact ⟨ys, hk⟩
  obtain ⟨zs, hgb⟩ := hgb
  have hone : ∀ y : List Value × TxT, TxgO lo w y.1 y.2 → ∃ y' : List Value × TxT, y'.1 = y.1 ∧ y'.2.e = y.2.e ∧ TxgO lo (w.setCell ⟨g, k, none⟩ (.int .u8 v)) y'.1 y'.2 := fun y hy => by
    obtain ⟨⟨A1, B1, N1, C1, M1, D1, e0, o1, o2⟩, ok⟩ := hy
    obtain ⟨b', q1, r1, _⟩ := own_u8_set (k := k) h0 o1 ok.b hv
    obtain ⟨s', q2, r2, _⟩ := own_u8_set (k := k) h0 o2 ok.s hv
    exact ⟨(y.1, { y.2 with b := b', s := s' }), rfl, rfl, ⟨A1, B1, N1, C1, M1, D1, by rw [e0]; rfl, q1, q2⟩, ok.f, r1, r2, ok.n, ok.e, ok.k⟩
  have hall : ∀ zs : List (List Value × TxT), (∀ y ∈ zs, TxgO lo w y.1 y.2) → ∃ zs' : List (List Value × TxT), zs'.map (·.1) = zs.map (·.1) ∧ zs'.map (·.2.e) = zs.map (·.2.e) ∧ ∀ y ∈ zs', TxgO lo (w.setCell ⟨g, k, none⟩ (.int .u8 v)) y.1 y.2 := fun zs => by
    induction zs with
    | nil => exact fun _ => ⟨[], rfl, rfl, fun y hy => by simp at hy⟩
    | cons y zs ih =>
      intro hz
      obtain ⟨y', a1, a2, a3⟩ := hone y (hz y (by simp))
      obtain ⟨zs', b1, b2, b3⟩ := ih (fun x hx => hz x (by simp [hx]))
      exact ⟨y' :: zs', by simp [a1, b1], by simp [a2, b2], fun x hx => by
        rcases List.mem_cons.1 hx with rfl | hx
        · exact a3
        · exact b3 x hx⟩
  obtain ⟨ys', b1, b2, b3⟩ := hall ys h.all
  have hfee : ∀ (j : Nat) (y' : List Value × TxT), ys'[j]? = some y' → ∃ y, ys[j]? = some y ∧ y'.2.e = y.2.e := fun j y' hy' => by
    have h1 : (ys'.map (·.2.e))[j]? = some y'.2.e := by rw [List.getElem?_map, hy']; rfl
    rw [b2, List.getElem?_map] at h1
    cases hy : ys[j]? with
    | none => rw [hy] at h1; cases h1
    | some y => rw [hy] at h1; injection h1 with h1; exact ⟨y, rfl, h1.symm⟩
  refine ⟨ys', ⟨?_, ?_, b3, fun hi y t hy ht => ?_, fun j y t hj hy ht => ?_⟩, b1⟩
  · rw [b1]; exact own_only h.own (only_set (only_refl w g) k _) (own_bk_ne h.own hgb (by decide))
  · have := congrArg List.length b1; simp only [List.length_map] at this; rw [this, h.len]
  · obtain ⟨y0, h1, h2⟩ := hfee 0 y hy
    rw [h2]; exact h.ne hi y0 t h1 ht
  · obtain ⟨y0, h1, h2⟩ := hfee j y hy
    rw [h2]; exact h.eq j y0 t hj h1 ht
end Go.Proofs.YtbpmomedhdmloaaDoor
