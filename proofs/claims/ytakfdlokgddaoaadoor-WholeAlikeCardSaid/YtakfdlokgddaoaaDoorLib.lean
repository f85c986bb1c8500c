/- Words of my own for memory: a slice that reads as a list of cells, a block that is known whole, and how each is kept from world to world. No program in sight. -/
import Derived.WalkKit
import Derived.WalkSpells
import Derived.WalkLawsBesides
import Derived.Deep.Draws
import Derived.Deep.AppendLies
import Derived.Lib.Hide
import Derived.Maps.AppendAt
import Derived.RegionTactic
namespace Go.Proofs.YtakfdlokgddaoaaDoor
open Go.RowKit

theorem add_block (a : Addr) (n : Nat) : (a.add n).block = a.block := by unfold Addr.add; split <;> rfl
theorem add_add' (a : Addr) (i j : Nat) : (a.add i).add j = a.add (i + j) := by
  unfold Addr.add
  by_cases hi : i = 0 <;> by_cases hj : j = 0 <;> simp [hi, hj, Nat.add_assoc]

/-- The slice value '.slice A n c' of elements of 'size' cells reads as the cells 'xs', all in blocks below 'B'. -/
structure Sl (w : World) (B size : Nat) (A : Option Addr) (n : Nat) (xs : List Value) : Prop where
  len : xs.length = n * size
  le : n ≤ 9223372036854775807
  mem : 0 < n → ∃ ad, A = some ad ∧ ad.block < B ∧ ∀ (j : Nat) (u : Value), xs[j]? = some u → w.cell? (ad.add j) = some u

section
variable {w w' : World} {B B' size n : Nat} {A : Option Addr} {xs : List Value}
theorem Sl.nil : Sl w B size A 0 [] := ⟨by simp, by omega, fun h => absurd h (by omega)⟩
theorem Sl.keep (h : Sl w B size A n xs) (hk : ∀ p : Addr, p.block < B → w'.cell? p = w.cell? p) : Sl w' B size A n xs :=
  ⟨h.len, h.le, fun hn => by
    obtain ⟨ad, e, hb, hc⟩ := h.mem hn
    exact ⟨ad, e, hb, fun j u hu => (hk _ (by rw [add_block]; exact hb)).trans (hc j u hu)⟩⟩
theorem Sl.more (h : Sl w B size A n xs) (hB : B ≤ B') : Sl w B' size A n xs :=
  ⟨h.len, h.le, fun hn => by
    obtain ⟨ad, e, hb, hc⟩ := h.mem hn
    exact ⟨ad, e, by omega, hc⟩⟩
theorem Sl.below (h : Sl w B size A n xs) (hb : Below B w w') : Sl w' B size A n xs := h.keep fun _ hp => hb.cell hp
/-- In a later world, whatever was added to it: with the bound of that world. -/
theorem Sl.later (h : Sl w w.heap.size size A n xs) (hb : Below w.heap.size w w') : Sl w' w'.heap.size size A n xs := (h.below hb).more hb.size
theorem Sl.drew (h : Sl w B size A n xs) : Sl w.drew B size A n xs := h.keep fun _ _ => rfl
theorem Sl.drewN (h : Sl w B size A n xs) (k : Nat) : Sl (w.drewN k) B size A n xs := h.keep fun _ _ => rfl
theorem Sl.alloc (h : Sl w B size A n xs) (hB : B ≤ w.heap.size) (o : Obj) : Sl (w.alloc o) B size A n xs := h.keep fun p hp => World.cell?_alloc_lt w o p (by omega)
theorem Sl.setCell (h : Sl w B size A n xs) {p : Addr} (hB : B ≤ p.block) (u : Value) : Sl (w.setCell p u) B size A n xs :=
  h.keep fun q hq => World.cell?_setCell_other w p q u (fun e => by subst e; omega)
theorem Sl.at_ {f : Int → Value} {zs : List Int} {k : Nat} (h : Sl w B 1 A n (zs.map f)) (hk : k < n) : ∃ ad z, A = some ad ∧ ad.block < B ∧ zs[k]? = some z ∧ w.cell? (ad.add k) = some (f z) := by
  obtain ⟨ad, e, hb, hc⟩ := h.mem (by omega)
  have hl : k < zs.length := by have := h.len; simp at this; omega
  exact ⟨ad, zs[k], e, hb, List.getElem?_eq_getElem hl, hc k _ (by simp [hl])⟩
theorem Sl.length {α : Type} {f : α → Value} {zs : List α} (h : Sl w B 1 A n (zs.map f)) : zs.length = n := by have := h.len; simpa using this
theorem Sl.of_own {base : Nat} {e : TypeId} {c : Nat} (h : w.ownsRow base e size (.slice A n c) n xs) : Sl w w.heap.size size A n xs := by
  refine ⟨h.1, ?_, fun hn => ?_⟩
  · rcases h.2 with ⟨_, h0⟩ | ⟨g, cap, cur, _, _, _, hnc, hcm, _⟩
    · omega
    · unfold maxLen at hcm; omega
  · obtain ⟨g, cap, hv, _, hlt⟩ := h.form hn
    have hA : A = some ⟨g, 0, none⟩ := by injection hv
    subst hA
    exact ⟨_, rfl, hlt, h.cells (g := g) rfl⟩
/-- What is owned is a slice. -/
theorem own_form {base : Nat} {e : TypeId} {v : Value} (h : w.ownsRow base e size v n xs) : ∃ A c, v = .slice A n c := by
  rcases h.2 with ⟨rfl, rfl⟩ | ⟨g, cap, cur, rfl, _⟩
  · exact ⟨none, 0, rfl⟩
  · exact ⟨_, cap, rfl⟩
end

/-- Block g is just the cells 'xs' of element type t, none frozen. -/
def Bk (w : World) (g : Nat) (t : TypeId) (xs : List Value) : Prop := w.heap[g]? = some (.cells xs.toArray t (0, 0))

section
variable {w w' : World} {g : Nat} {t : TypeId} {xs : List Value}
theorem Bk.lt (h : Bk w g t xs) : g < w.heap.size := by
  rcases Nat.lt_or_ge g w.heap.size with hlt | hge
  · exact hlt
  · unfold Bk at h; rw [Array.getElem?_eq_none hge] at h; cases h
theorem Bk.cell (h : Bk w g t xs) (i : Nat) : w.cell? ⟨g, i, none⟩ = xs[i]? := (cell_of_row w g i _ t (0, 0) h).trans (by simp)
theorem Bk.frozen (h : Bk w g t xs) (i : Nat) : w.frozen? ⟨g, i, none⟩ = false := by
  unfold Bk at h
  simp [World.frozen?, h]
theorem Bk.new (w : World) (t : TypeId) (cs : Array Value) : Bk (w.alloc (.cells cs t)) w.heap.size t cs.toList := by
  unfold Bk; simpa using heap_alloc_new w (.cells cs t)
theorem Bk.new' (w : World) (t : TypeId) (cs : Array Value) {xs : List Value} (h : cs.toList = xs) : Bk (w.alloc (.cells cs t)) w.heap.size t xs := h ▸ Bk.new w t cs
theorem Bk.at_ (w : World) (t : TypeId) (cs : Array Value) {xs : List Value} {g : Nat} (hg : w.heap.size = g) (h : cs.toList = xs) : Bk (w.alloc (.cells cs t)) g t xs := hg ▸ Bk.new' w t cs h
theorem Bk.drew (h : Bk w g t xs) : Bk w.drew g t xs := h
theorem Bk.drewN (h : Bk w g t xs) (n : Nat) : Bk (w.drewN n) g t xs := h
theorem Bk.alloc (h : Bk w g t xs) (o : Obj) : Bk (w.alloc o) g t xs := (Below.heap_alloc w o g h.lt).trans h
theorem Bk.set_ (h : Bk w g t xs) (i : Nat) (u : Value) : Bk (w.setCell ⟨g, i, none⟩ u) g t (xs.set i u) := by
  unfold Bk at h ⊢
  simp [World.setCell, Array.getElem?_modify, h]
theorem Bk.far (h : Bk w g t xs) {p : Addr} (hp : g ≠ p.block) (u : Value) : Bk (w.setCell p u) g t xs := (Below.heap_setCell w p u g hp).trans h
theorem Bk.below {B : Nat} (h : Bk w g t xs) (hb : Below B w w') (hg : g < B) : Bk w' g t xs := (hb.block g hg).trans h
theorem Bk.later (h : Bk w g t xs) (hb : Below w.heap.size w w') : Bk w' g t xs := h.below hb h.lt
theorem Bk.grown {row : Option Nat} (h : Bk w g t xs) (hb : w.grownBy w' row) (hg : some g ≠ row) : Bk w' g t xs := (hb.block g h.lt hg).trans h
theorem Bk.ne_ {g' : Nat} {t' : TypeId} {xs' : List Value} (h : Bk w g t xs) (h' : Bk w g' t' xs') (hne : t ≠ t') : g ≠ g' := by
  rintro rfl
  unfold Bk at h h'
  rw [h] at h'
  injection h' with h'
  injection h' with _ ht
  exact hne ht
theorem Bk.own {base size n cap : Nat} {ys : List Value} (h : Bk w g t xs) (hg : base ≤ g) (hn : n ≤ cap) (hc : cap ≤ 9223372036854775807) (hx : xs.length = cap * size) (hy : xs.take (n * size) = ys) :
    w.ownsRow base t size (.slice (some ⟨g, 0, none⟩) n cap) n ys := by
  have hn' : n * size ≤ cap * size := Nat.mul_le_mul_right _ hn
  exact ⟨by rw [← hy, List.length_take]; omega, .inr ⟨g, cap, xs.toArray, rfl, hg, h, hn, by unfold maxLen; omega, by simpa using hx, by simpa using hy⟩⟩
theorem Bk.sl {size n : Nat} {ys : List Value} (h : Bk w g t xs) (hl : ys.length = n * size) (hn : n ≤ 9223372036854775807) (hy : ∀ (j : Nat) (u : Value), ys[j]? = some u → xs[j]? = some u) : Sl w w.heap.size size (some ⟨g, 0, none⟩) n ys :=
  ⟨hl, hn, fun _ => ⟨_, rfl, h.lt, fun j u hu => by
    have e : (⟨g, 0, none⟩ : Addr).add j = ⟨g, j, none⟩ := by unfold Addr.add; split <;> simp_all
    rw [e, h.cell, hy j u hu]⟩⟩
end

/-- What is owned is one block, or nothing. -/
theorem own_bk {w : World} {base size n : Nat} {e : TypeId} {v : Value} {xs : List Value} (h : w.ownsRow base e size v n xs) :
    (v = .slice none 0 0 ∧ n = 0 ∧ xs = []) ∨ ∃ g cap ys, v = .slice (some ⟨g, 0, none⟩) n cap ∧ base ≤ g ∧ Bk w g e ys ∧ n ≤ cap ∧ cap ≤ 9223372036854775807 ∧ ys.length = cap * size ∧ ys.take (n * size) = xs := by
  obtain ⟨hl, h⟩ := h
  rcases h with ⟨rfl, rfl⟩ | ⟨g, cap, cur, rfl, hb, hh, hnc, hcm, hcs, ht⟩
  · exact .inl ⟨rfl, rfl, List.eq_nil_of_length_eq_zero (by simpa using hl)⟩
  · exact .inr ⟨g, cap, cur.toList, rfl, hb, by unfold Bk; simpa using hh, hnc, by unfold maxLen at hcm; omega, by simpa using hcs, ht⟩

/-! ### append onto a row of the call's own, the source nil, empty or not -/
section
variable {P : Program}
theorem run_app_nil (w : World) (base : Nat) (t ty e : TypeId) (i : TypeInfo) (size : Nat) (ht : P.underlying t = some (.slice e)) (hi : P.info? e = some i)
    (v : Value) (n : Nat) (xs : List Value) (hown : w.ownsRow base e size v n xs) (c : Nat) : (Builtin.append_ #[t, t] ty #[v, .slice none 0 c]).run P w = .ok v w := by
  rcases hown.2 with ⟨rfl, rfl⟩ | ⟨g, cap, cur, rfl, _, _, hnc, _⟩ <;>
    simp [Builtin.append_, run_underlying ht, sizeOf, typeInfo, Builtin.lenOf, Builtin.firstCells, storeCells, *]

theorem run_app (w : World) (base : Nat) (t ty e : TypeId) (i : TypeInfo) (z : Value) (size bytes : Nat) (ht : P.underlying t = some (.slice e)) (hi : P.info? e = some i) (hz : i.zero = some z)
    (hsize : i.size = size) (hby : i.bytes = bytes) (hzs : z.cells.size = size) (hsz : 0 < size)
    (v : Value) (n : Nat) (xs : List Value) (hown : w.ownsRow base e size v n xs)
    (B : Nat) (A : Option Addr) (m c : Nat) (news : List Value) (hr : Sl w B size A m news) (h1 : ∀ u ∈ news, u.oneCell' = true)
    (h63 : n + m ≤ maxLen) (hbytes : (n + m) * bytes ≤ 140737488355328) (hbase : base ≤ w.heap.size) :
    ∃ v' w', (Builtin.append_ #[t, t] ty #[v, .slice A m c]).run P w = .ok v' w' ∧ w'.ownsRow base e size v' (n + m) (xs ++ news) ∧ w.grownBy w' v.ownBlock ∧
      (v'.ownBlock = v.ownBlock ∨ v'.ownBlock = some w.heap.size) := by
  cases A with
  | none =>
    have hm : m = 0 := by
      rcases Nat.eq_zero_or_pos m with h0 | h0
      · exact h0
      · obtain ⟨_, h, _⟩ := hr.mem h0; cases h
    subst hm
    have hn : news = [] := List.eq_nil_of_length_eq_zero (by simpa using hr.len)
    subst hn
    exact ⟨v, w, run_app_nil w base t ty e i size ht hi v n xs hown c, by simpa using hown, World.grownBy.refl w _, .inl rfl⟩
  | some ad =>
    have hcells : ∀ (j : Nat) (u : Value), news[j]? = some u → w.cell? (ad.add j) = some u := by
      intro j u hu
      rcases Nat.eq_zero_or_pos m with h0 | h0
      · subst h0
        have hn : news = [] := List.eq_nil_of_length_eq_zero (by simpa using hr.len)
        subst hn; simp at hu
      · obtain ⟨ad', h, _, hc⟩ := hr.mem h0
        injection h with h; subst h
        exact hc j u hu
    obtain ⟨v', w', hrun, h2, h3, _, h5⟩ := run_append_own_at (P := P) w base t ty e i z size bytes ht hi hz hsize hby hzs hsz v n xs hown ad m c news hr.len hcells h1 h63 hbytes hbase
    exact ⟨v', w', hrun, h2, h3, h5⟩

theorem wp_app (w : World) {o : Oper} {a : Act} {K : Act → World → Prop} {Q : Exit → Act → World → Prop} (s x : Operand) (t : TypeId)
    (ho : o.op = .call { callee := .builtin .append, args := #[s, x], argTypes := #[t, t] })
    (base : Nat) (e : TypeId) (i : TypeInfo) (z : Value) (size bytes : Nat) (ht : P.underlying t = some (.slice e)) (hi : P.info? e = some i) (hz : i.zero = some z)
    (hsize : i.size = size) (hby : i.bytes = bytes) (hzs : z.cells.size = size) (hsz : 0 < size)
    (v : Value) (n : Nat) (xs : List Value) (hs : a.eval s = v) (hown : w.ownsRow base e size v n xs)
    (B : Nat) (A : Option Addr) (m c : Nat) (news : List Value) (hx : a.eval x = .slice A m c) (hr : Sl w B size A m news) (h1 : ∀ u ∈ news, u.oneCell' = true)
    (h63 : n + m ≤ maxLen) (hbytes : (n + m) * bytes ≤ 140737488355328) (hbase : base ≤ w.heap.size)
    (h : ∀ v' w', w'.ownsRow base e size v' (n + m) (xs ++ news) → w.grownBy w' v.ownBlock → (v'.ownBlock = v.ownBlock ∨ v'.ownBlock = some w.heap.size) → K (a.put o.dst v') w') : o.wp P a w K Q := by
  obtain ⟨v', w', hrun, h2, h3, h4⟩ := run_app (P := P) w base t o.type e i z size bytes ht hi hz hsize hby hzs hsz v n xs hown B A m c news hr h1 h63 hbytes hbase
  unfold Oper.wp execOp
  simp only [ho, resolve, invoke, builtin, Sem.run_bind, Sem.run_pure, Result.andThen_ok, List.map_toArray, List.map_cons, List.map_nil, hs, hx, hrun]
  exact h v' w' h2 h3 h4

theorem wpList_app (w : World) {ops : Array Oper} {rest : List Oper} {o : Oper} {a : Act} {Q : Exit → Act → World → Prop} (hgd : o.guard = none) (s x : Operand) (t : TypeId)
    (ho : o.op = .call { callee := .builtin .append, args := #[s, x], argTypes := #[t, t] })
    (base : Nat) (e : TypeId) (i : TypeInfo) (z : Value) (size bytes : Nat) (ht : P.underlying t = some (.slice e)) (hi : P.info? e = some i) (hz : i.zero = some z)
    (hsize : i.size = size) (hby : i.bytes = bytes) (hzs : z.cells.size = size) (hsz : 0 < size)
    (v : Value) (n : Nat) (xs : List Value) (hs : a.eval s = v) (hown : w.ownsRow base e size v n xs)
    (B : Nat) (A : Option Addr) (m c : Nat) (news : List Value) (hx : a.eval x = .slice A m c) (hr : Sl w B size A m news) (h1 : ∀ u ∈ news, u.oneCell' = true)
    (h63 : n + m ≤ maxLen) (hbytes : (n + m) * bytes ≤ 140737488355328) (hbase : base ≤ w.heap.size)
    (h : ∀ v' w', w'.ownsRow base e size v' (n + m) (xs ++ news) → w.grownBy w' v.ownBlock → (v'.ownBlock = v.ownBlock ∨ v'.ownBlock = some w.heap.size) → wpList P ops Q rest (a.put o.dst v') w') : wpList P ops Q (o :: rest) a w :=
  wpList_plain hgd fun _ hK => wp_app w s x t ho base e i z size bytes ht hi hz hsize hby hzs hsz v n xs hs hown B A m c news hx hr h1 h63 hbytes hbase fun v' w' h2 h3 h4 => hK _ _ (h v' w' h2 h3 h4)

theorem step_app (w : World) {ops : Array Oper} {o : Oper} {a : Act} {K : Act → World → Prop} {Q : Exit → Act → World → Prop} {E : Prop} (hgd : o.guard = none) (s x : Operand) (t : TypeId)
    (ho : o.op = .call { callee := .builtin .append, args := #[s, x], argTypes := #[t, t] })
    (base : Nat) (e : TypeId) (i : TypeInfo) (z : Value) (size bytes : Nat) (ht : P.underlying t = some (.slice e)) (hi : P.info? e = some i) (hz : i.zero = some z)
    (hsize : i.size = size) (hby : i.bytes = bytes) (hzs : z.cells.size = size) (hsz : 0 < size)
    (v : Value) (n : Nat) (xs : List Value) (hs : a.eval s = v) (hown : w.ownsRow base e size v n xs)
    (B : Nat) (A : Option Addr) (m c : Nat) (news : List Value) (hx : a.eval x = .slice A m c) (hr : Sl w B size A m news) (h1 : ∀ u ∈ news, u.oneCell' = true)
    (h63 : n + m ≤ maxLen) (hbytes : (n + m) * bytes ≤ 140737488355328) (hbase : base ≤ w.heap.size)
    (h : ∀ v' w', w'.ownsRow base e size v' (n + m) (xs ++ news) → w.grownBy w' v.ownBlock → (v'.ownBlock = v.ownBlock ∨ v'.ownBlock = some w.heap.size) → K (a.put o.dst v') w') :
    if Region.wanted o (yielded ops a.tmps) = true then Oper.wp P o a w K Q else E := by
  have hw : Region.wanted o (yielded ops a.tmps) = true := by simp [Region.wanted, hgd]
  rw [if_pos hw]
  exact wp_app w s x t ho base e i z size bytes ht hi hz hsize hby hzs hsz v n xs hs hown B A m c news hx hr h1 h63 hbytes hbase h
end

/-- The cells of a block that has just been made, as a source. -/
theorem sl_new (w : World) (cs : Array Value) (e : TypeId) (size m : Nat) (hl : cs.size = m * size) (hm : m ≤ 9223372036854775807) :
    Sl (w.alloc (.cells cs e)) (w.alloc (.cells cs e)).heap.size size (some ⟨w.heap.size, 0, none⟩) m cs.toList :=
  (Bk.new w e cs).sl (by simpa using hl) hm fun _ _ h => h
theorem ints_one (k : IntKind) (zs : List Int) : ∀ u ∈ zs.map (Value.int k), u.oneCell' = true := by
  intro u hu; obtain ⟨z, _, rfl⟩ := List.mem_map.1 hu; rfl
theorem grown_below {B base : Nat} {w0 w w' : World} {e : TypeId} {size n : Nat} {v : Value} {xs : List Value} (h : Below B w0 w) (hown : w.ownsRow base e size v n xs) (hg : w.grownBy w' v.ownBlock) (hB : B ≤ base) (hw : B ≤ w.heap.size) : Below B w0 w' :=
  h.grown hg hw fun k hk => Nat.le_trans hB (hown.lt k hk).1

theorem own_last {w : World} {base g n cap : Nat} {e : TypeId} {xs : List Value} {u : Value} (h : w.ownsRow base e 1 (.slice (some ⟨g, 0, none⟩) (n + 1) cap) (n + 1) (xs ++ [u])) : w.cell? ⟨g, n, none⟩ = some u := by
  have hl : xs.length = n := by have := h.1; simp at this; omega
  rw [h.cellAt n (by omega), ← hl]; simp

theorem own_base {w : World} {base base' size n : Nat} {e : TypeId} {v : Value} {xs : List Value} (h : w.ownsRow base e size v n xs) (hb : base' ≤ base) : w.ownsRow base' e size v n xs := by
  obtain ⟨h2, h3⟩ := h
  refine ⟨h2, h3.imp id ?_⟩
  rintro ⟨g', cap, cur, e1, e2, r⟩
  exact ⟨g', cap, cur, e1, Nat.le_trans hb e2, r⟩
theorem own_keep {w w' : World} {base size n : Nat} {e : TypeId} {v : Value} {xs : List Value} (h : w.ownsRow base e size v n xs) (hb : Below w.heap.size w w') : w'.ownsRow base e size v n xs :=
  h.kept (row := none) ⟨hb.os, hb.tape, hb.output, hb.size, fun k hk _ => hb.block k hk⟩ (by cases v.ownBlock <;> simp)
theorem own_only {w w' : World} {base size n g : Nat} {e : TypeId} {v : Value} {xs : List Value} (h : w.ownsRow base e size v n xs) (hg : w.grownBy w' (some g)) (hne : v.ownBlock ≠ some g) : w'.ownsRow base e size v n xs :=
  h.kept hg (.inr hne)
theorem own_bk_ne {w : World} {base size n g : Nat} {e t : TypeId} {v : Value} {xs ys : List Value} (h : w.ownsRow base e size v n xs) (hg : Bk w g t ys) (hne : e ≠ t) : v.ownBlock ≠ some g := by
  rcases own_bk h with ⟨rfl, _⟩ | ⟨g', cap, zs, rfl, _, hb, _⟩
  · simp [Value.ownBlock]
  · intro he
    have : g' = g := by simpa [Value.ownBlock] using he
    subst this
    exact hb.ne_ hg hne rfl
theorem own_empty_at {w : World} {e : TypeId} {size : Nat} {base g : Nat} (hg : w.heap.size = g) (h : base ≤ g) : (w.alloc (.cells #[] e)).ownsRow base e size (.slice (some ⟨g, 0, none⟩) 0 0) 0 [] := by
  subst hg
  exact (Bk.new w e #[]).own h (Nat.le_refl _) (by omega) (by simp) (by simp)
theorem own_empty (w : World) (e : TypeId) (size : Nat) (base : Nat) (h : base ≤ w.heap.size) : (w.alloc (.cells #[] e)).ownsRow base e size (.slice (some ⟨w.heap.size, 0, none⟩) 0 0) 0 [] :=
  (Bk.new w e #[]).own h (Nat.le_refl _) (by omega) (by simp) (by simp)

/-- What the walk may use as rules behind a step that has turned one block alone. -/
theorem grow_rules {w w' : World} {g : Nat} (hg : w.grownBy w' (some g)) :
    (∀ b o, b < w.heap.size → ¬ b = g → w'.cell? ⟨b, o, none⟩ = w.cell? ⟨b, o, none⟩) ∧ (∀ b o, b < w.heap.size → ¬ b = g → w'.frozen? ⟨b, o, none⟩ = w.frozen? ⟨b, o, none⟩) :=
  ⟨fun b o hb hne => World.cell?_of_block (a := ⟨b, o, none⟩) (hg.block b hb (by rintro h; injection h with h; exact hne h)),
   fun b o hb hne => World.frozen?_of_block (a := ⟨b, o, none⟩) (hg.block b hb (by rintro h; injection h with h; exact hne h))⟩
theorem below_rules {w w' : World} (hb : Below w.heap.size w w') :
    (∀ b o, b < w.heap.size → w'.cell? ⟨b, o, none⟩ = w.cell? ⟨b, o, none⟩) ∧ (∀ b o, b < w.heap.size → w'.frozen? ⟨b, o, none⟩ = w.frozen? ⟨b, o, none⟩) :=
  ⟨fun b o h => hb.cell (p := ⟨b, o, none⟩) h, fun b o h => hb.frozen (p := ⟨b, o, none⟩) h⟩

theorem below_new (w : World) (o : Obj) : Below w.heap.size w (w.alloc o) := (Below.refl _ _).alloc (Nat.le_refl _) o
theorem below_draws (w : World) (B n : Nat) : Below B w (w.drewN n) := ⟨rfl, rfl, rfl, Nat.le_refl _, fun _ _ => rfl⟩
/-- Two steps, each of which leaves what it found. -/
theorem below_then {a b c : World} (h : Below a.heap.size a b) (k : Below b.heap.size b c) : Below a.heap.size a c := h.trans (k.mono h.size)

/-! ### Arrays of integers, compared -/
def eqL (xs ys : List Int) : Bool := decide (xs = ys)
theorem eqL_self (xs : List Int) : eqL xs xs = true := by simp [eqL]
theorem all_range_eqL : ∀ (xs ys : List Int), xs.length = ys.length → ((List.range xs.length).all fun i => xs.getD i 0 == ys.getD i 0) = eqL xs ys
  | [], [], _ => rfl
  | x :: xs, y :: ys, h => by
    have ih := all_range_eqL xs ys (by simpa using h)
    rw [List.length_cons, List.range_succ_eq_map, List.all_cons, List.all_map]
    simp only [List.getD_cons_zero, Function.comp_def, List.getD_cons_succ, ih]
    by_cases hx : x = y <;> simp [eqL, hx]
  | [], _ :: _, h => by simp at h
  | _ :: _, [], h => by simp at h
theorem run_equalIn_ints {P : Program} {k : IntKind} (d : Nat) (t e : TypeId) (n : Nat) (ht : P.underlying t = some (.array n e)) (he : P.underlying e = some (.int k)) {i : TypeInfo} (hi : P.info? e = some i) (hsz : i.size = 1)
    (xs ys : List Int) (hx : xs.length = n) (hy : ys.length = n) (w : World) :
    (Op.equalIn (d + 2) t (.agg (xs.map (Value.int k)).toArray) (.agg (ys.map (Value.int k)).toArray)).run P w = .ok (eqL xs ys) w := by
  rw [← all_range_eqL xs ys (hx.trans hy.symm), hx, List.range_eq_range', Op.equalIn]
  have hs : ∀ w, (sizeOf e).run P w = .ok 1 w := fun w => by simp [sizeOf, typeInfo, hi, hsz]
  simp only [Sem.run_bind, run_underlying ht, Result.andThen_ok, hs, Std.Legacy.Range.forIn_eq_forIn_range', Std.Legacy.Range.size, Nat.sub_zero, Nat.add_sub_cancel, Nat.div_one]
  have hl : ∀ i ∈ List.range' 0 n 1, i < n := fun i hi => by simpa using (List.mem_range'_1.1 hi).2
  generalize List.range' 0 n 1 = l at hl ⊢
  induction l with
  | nil => simp
  | cons j l ih =>
    have hj : j < n := hl j (by simp)
    have px : (part e (xs.map (Value.int k)).toArray (j * 1)).run P w = .ok (.int k (xs.getD j 0)) w := by
      simp [part, isAgg, run_underlying he, List.getD, List.getElem?_eq_getElem (show j < xs.length by omega)]
    have py : (part e (ys.map (Value.int k)).toArray (j * 1)).run P w = .ok (.int k (ys.getD j 0)) w := by
      simp [part, isAgg, run_underlying he, List.getD, List.getElem?_eq_getElem (show j < ys.length by omega)]
    have pe : (Op.equalIn (d + 1) e (.int k (xs.getD j 0)) (.int k (ys.getD j 0))).run P w = .ok (xs.getD j 0 == ys.getD j 0) w := run_equalIn_int w d e k k _ _ he
    simp only [List.forIn_cons, Sem.run_bind, px, py, pe, Result.andThen_ok, List.all_cons]
    cases hb : (xs.getD j 0 == ys.getD j 0)
    · simp
    · simp only [Bool.not_true, Bool.false_eq_true, if_false, Sem.run_pure, Result.andThen_ok, Bool.true_and]
      exact ih fun i hi => hl i (by simp [hi])

/-! ### What has turned is one block, and what is new -/
theorem only_drew {a w : World} {row : Option Nat} (h : a.grownBy w row) : a.grownBy w.drew row := ⟨h.os, h.tape, h.output, h.size, h.block⟩
theorem only_drewN {a w : World} {row : Option Nat} (h : a.grownBy w row) (n : Nat) : a.grownBy (w.drewN n) row := ⟨h.os, h.tape, h.output, h.size, h.block⟩
theorem only_alloc {a w : World} {row : Option Nat} (h : a.grownBy w row) (o : Obj) : a.grownBy (w.alloc o) row :=
  ⟨h.os, h.tape, h.output, Nat.le_trans h.size (by simp), fun i hi hne => (Below.heap_alloc w o i (Nat.lt_of_lt_of_le hi h.size)).trans (h.block i hi hne)⟩
theorem only_set {a w : World} {g : Nat} (h : a.grownBy w (some g)) (i : Nat) (u : Value) : a.grownBy (w.setCell ⟨g, i, none⟩ u) (some g) :=
  ⟨h.os, h.tape, h.output, by simpa [World.setCell] using h.size, fun k hk hne => (Below.heap_setCell w ⟨g, i, none⟩ u k (by rintro rfl; exact hne rfl)).trans (h.block k hk hne)⟩
theorem only_new {a w : World} {row : Option Nat} (h : a.grownBy w row) {p : Addr} (hp : a.heap.size ≤ p.block) (u : Value) : a.grownBy (w.setCell p u) row :=
  ⟨h.os, h.tape, h.output, by simpa [World.setCell] using h.size, fun k hk hne => (Below.heap_setCell w p u k (by omega)).trans (h.block k hk hne)⟩
theorem only_below {a w w' : World} {row : Option Nat} (h : a.grownBy w row) (hb : Below w.heap.size w w') : a.grownBy w' row :=
  ⟨hb.os.trans h.os, hb.tape.trans h.tape, hb.output.trans h.output, Nat.le_trans h.size hb.size, fun i hi hne => (hb.block i (Nat.lt_of_lt_of_le hi h.size)).trans (h.block i hi hne)⟩
theorem only_trans {a b c : World} {row : Option Nat} (h : a.grownBy b row) (k : b.grownBy c row) : a.grownBy c row :=
  ⟨k.os.trans h.os, k.tape.trans h.tape, k.output.trans h.output, Nat.le_trans h.size k.size, fun i hi hne => (k.block i (Nat.lt_of_lt_of_le hi h.size) hne).trans (h.block i hi hne)⟩
theorem below_only {B : Nat} {w0 w w' : World} {g : Nat} (h : Below B w0 w) (hg : w.grownBy w' (some g)) (hB : B ≤ w.heap.size) (hgB : B ≤ g) : Below B w0 w' :=
  h.grown hg hB fun k hk => by injection hk with hk; omega
theorem sl_only {w w' : World} {B size n : Nat} {A : Option Addr} {xs : List Value} {row : Option Nat} (h : Sl w B size A n xs) (hg : w.grownBy w' row) (hB : B ≤ w.heap.size) (hr : ∀ g, row = some g → B ≤ g) : Sl w' B size A n xs :=
  h.keep fun p hp => World.cell?_of_block (hg.block p.block (by omega) (fun e => by have := hr _ e.symm; omega))

/-- A list's step, as the loops take it. -/
theorem take_snoc {α : Type} {l : List α} {k : Nat} {z : α} (h : l[k]? = some z) : l.take (k + 1) = l.take k ++ [z] := by
  rw [List.take_add_one, h]; rfl
theorem drop_cons {α : Type} {l : List α} {k : Nat} {z : α} (h : l[k]? = some z) : l.drop k = z :: l.drop (k + 1) := by
  obtain ⟨hl, rfl⟩ := List.getElem?_eq_some_iff.1 h
  exact List.drop_eq_getElem_cons hl
end Go.Proofs.YtakfdlokgddaoaaDoor
