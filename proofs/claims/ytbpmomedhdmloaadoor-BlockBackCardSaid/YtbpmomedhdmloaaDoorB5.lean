/- Transactions in a slice; the map of turns that were seen. -/
import Derived.Test.YtbpmomedhdmloaaDoorB4
import Derived.DeepKeys4
namespace Go.Proofs.YtbpmomedhdmloaaDoor
set_option linter.unusedSimpArgs false
set_option linter.unusedVariables false
open Go.RowKit Go.Maps

theorem flats_get {m : Nat} : ∀ (L : List (List Value)), (∀ l ∈ L, l.length = m) → ∀ (k : Nat) (l : List Value), L[k]? = some l → ∀ j, j < m → L.flatten[k * m + j]? = l[j]?
  | [], _, k, l, hk, _, _ => by simp at hk
  | x :: L, h, 0, l, hk, j, hj => by
    simp at hk; subst hk
    rw [List.flatten_cons, List.getElem?_append_left (by rw [h x (by simp)]; omega)]
    simp
  | x :: L, h, k + 1, l, hk, j, hj => by
    have hx := h x (by simp)
    rw [List.flatten_cons, List.getElem?_append_right (by rw [hx, Nat.succ_mul]; omega), hx, show (k + 1) * m + j - m = k * m + j by rw [Nat.succ_mul]; omega]
    exact flats_get L (fun y hy => h y (by simp [hy])) k l (by simpa using hk) j hj
theorem flats_len {m : Nat} : ∀ (L : List (List Value)), (∀ l ∈ L, l.length = m) → L.flatten.length = L.length * m
  | [], _ => by simp
  | x :: L, h => by
    rw [List.flatten_cons, List.length_append, h x (by simp), flats_len L (fun y hy => h y (by simp [hy])), List.length_cons, Nat.succ_mul]; omega
theorem sl_flat {w : World} {B n b o m : Nat} {L : List (List Value)} (h : Sl w B m (some ⟨b, o, none⟩) n L.flatten) (hL : ∀ l ∈ L, l.length = m) {k : Nat} {l : List Value} (hk : L[k]? = some l) : w.rangeAt b (o + k * m) l := by
  intro j v hv
  have hj : j < m := by
    have := (List.getElem?_eq_some_iff.1 hv).1
    rw [hL l (List.mem_of_getElem? hk)] at this; exact this
  have hkl : k < L.length := (List.getElem?_eq_some_iff.1 hk).1
  have hn : 0 < n := by
    have h1 := h.len
    rw [flats_len L hL] at h1
    have : n = L.length := by
      rcases Nat.eq_zero_or_pos m with hm | hm
      · omega
      · exact (Nat.eq_of_mul_eq_mul_right hm h1).symm
    omega
  obtain ⟨ad, e, _, hc⟩ := h.mem hn
  injection e with e; subst e
  have := hc (k * m + j) v (by rw [flats_get L hL k l hk j hj]; exact hv)
  rw [add_plain] at this
  rw [Nat.add_assoc]; exact this
theorem range_later {w w' : World} {b o : Nat} {cs : List Value} (h : w.rangeAt b o cs) (hb : Below w.heap.size w w') (hlt : b < w.heap.size) : w'.rangeAt b o cs := fun j v hv => (hb.cell (p := ⟨b, o + j, none⟩) hlt).trans (h j v hv)

/-- A transaction's numbers fit, its digest and bytes are such. -/
structure TxOk (t : TxT) : Prop where
  f : DgOk t.f
  b : ByOk t.b
  s : ByOk t.s
  n : -9223372036854775808 ≤ t.n ∧ t.n < 9223372036854775808
  e : -9223372036854775808 ≤ t.e ∧ t.e < 9223372036854775808
  k : -9223372036854775808 ≤ t.k ∧ t.k < 9223372036854775808
/-- A transaction's cells, and where its bytes lie. -/
structure Txg (w : World) (cs : List Value) (t : TxT) : Prop where
  ex : ∃ (A B : Option Addr) (N C M D : Nat), cs = txC t (.slice A N C) (.slice B M D) ∧ Sl w w.heap.size 1 A N (t.b.map (.int .u8)) ∧ Sl w w.heap.size 1 B M (t.s.map (.int .u8)) ∧ N ≤ C ∧ M ≤ D
  ok : TxOk t
theorem Txg.later {w w' : World} {cs : List Value} {t : TxT} (h : Txg w cs t) (hb : Below w.heap.size w w') : Txg w' cs t := by
  obtain ⟨⟨A, B, N, C, M, D, e, h1, h2, h3⟩, h4⟩ := h
  exact ⟨⟨A, B, N, C, M, D, e, h1.later hb, h2.later hb, h3⟩, h4⟩
theorem Txg.len {w : World} {cs : List Value} {t : TxT} (h : Txg w cs t) : cs.length = 13 := by
  obtain ⟨⟨A, B, N, C, M, D, e, _⟩, h4⟩ := h
  rw [e]; exact txC_len h4.f _ _
theorem dl_one1 (ds : List Int) : ∀ v ∈ dl ds, v.oneCell' = true := ints_one _ _
theorem txC_one {t : TxT} {A B : Option Addr} {N C M D : Nat} : ∀ v ∈ txC t (.slice A N C) (.slice B M D), v.oneCell' = true := by
  intro v hv
  rcases List.mem_append.1 hv with hv | hv
  · exact dl_one1 _ v hv
  · simp only [List.mem_cons, List.not_mem_nil, or_false] at hv
    rcases hv with rfl | rfl | rfl | rfl | rfl <;> rfl
theorem Txg.one {w : World} {cs : List Value} {t : TxT} (h : Txg w cs t) : ∀ v ∈ cs, v.oneCell' = true := by
  obtain ⟨⟨A, B, N, C, M, D, e, _⟩, h4⟩ := h
  rw [e]; exact txC_one
theorem Txg.size {w : World} {cs : List Value} {t : TxT} (h : Txg w cs t) : (Tryd.prog.info? 47).map (·.size) = some cs.length := by rw [h.len]; exact tx_size
theorem txg_check {w : World} {cs : List Value} {t : TxT} (h : Txg w cs t) : Calls Tryd.prog 17 #[.agg cs.toArray] w fun e w' => e = .returned (.int .i64 (txE t)) ∧ Below w.heap.size w w' := by
  obtain ⟨⟨A, B, N, C, M, D, e, h1, h2, _⟩, h4⟩ := h
  rw [e]; exact txCheck_any w t h4.f A B N C M D h1 h2 h4.b
/-- Transactions in a slice. -/
structure Txs (w : World) (A : Option Addr) (N : Nat) (xs : List (List Value × TxT)) : Prop where
  sl : Sl w w.heap.size 13 A N (xs.map (·.1)).flatten
  th : ∀ x ∈ xs, Txg w x.1 x.2
theorem Txs.later {w w' : World} {A : Option Addr} {N : Nat} {xs : List (List Value × TxT)} (h : Txs w A N xs) (hb : Below w.heap.size w w') : Txs w' A N xs := ⟨h.sl.later hb, fun x hx => (h.th x hx).later hb⟩
theorem Txs.lens {w : World} {A : Option Addr} {N : Nat} {xs : List (List Value × TxT)} (h : Txs w A N xs) : ∀ l ∈ xs.map (·.1), l.length = 13 := fun l hl => by
  obtain ⟨x, hx, rfl⟩ := List.mem_map.1 hl
  exact (h.th x hx).len
theorem Txs.length {w : World} {A : Option Addr} {N : Nat} {xs : List (List Value × TxT)} (h : Txs w A N xs) : xs.length = N := by
  have h1 := h.sl.len
  rw [flats_len _ h.lens, List.length_map] at h1
  omega
theorem Txs.nil (w : World) : Txs w none 0 [] := ⟨Sl.nil, fun x hx => by simp at hx⟩
theorem Txs.at_ {w wk : World} {A : Option Addr} {N : Nat} {xs : List (List Value × TxT)} (h : Txs w A N xs) (hb : Below w.heap.size w wk) {k : Nat} {x : List Value × TxT} (hk : xs[k]? = some x) : ∃ b o, A = some ⟨b, o, none⟩ ∧ wk.rangeAt b (o + k * 13) x.1 ∧ b < w.heap.size := by
  have hkl : k < xs.length := (List.getElem?_eq_some_iff.1 hk).1
  obtain ⟨b, o, rfl, hlt, _⟩ := h.sl.spot (by have := h.length; omega) (by omega)
  have hs := h.sl.later hb
  exact ⟨b, o, rfl, sl_flat hs h.lens (by rw [List.getElem?_map, hk]; rfl), hlt⟩

/-! ### A block's cells -/
def bkC (p : List Int) (h : Int) (m : List Int) (s : Value) : List Value := dl p ++ .int .i64 h :: (dl m ++ [s])
structure BkcM (w : World) (g : Nat) (p : List Int) (h : Int) (m : List Int) (s : Value) : Prop where
  r0 : w.rangeAt g 0 (dl p)
  c8 : w.cell? ⟨g, 8, none⟩ = some (.int .i64 h)
  r9 : w.rangeAt g 9 (dl m)
  c17 : w.cell? ⟨g, 17, none⟩ = some s
theorem bkc_mem {w : World} {g : Nat} {p : List Int} {h : Int} {m : List Int} {s : Value} {ty : TypeId} (hp : DgOk p) (hm : DgOk m) (hk : Bk w g ty (bkC p h m s)) : BkcM w g p h m s := by
  have lp := hp.len; have lm := hm.len
  have h1 : Bk w g ty ([] ++ (dl p ++ (.int .i64 h :: (dl m ++ [s])))) := hk
  have h2 : Bk w g ty (dl p ++ .int .i64 h :: (dl m ++ [s])) := hk
  have h3 : Bk w g ty ((dl p ++ [.int .i64 h]) ++ (dl m ++ [s])) := by have := hk; simpa [bkC] using this
  have h4 : Bk w g ty ((dl p ++ .int .i64 h :: dl m) ++ s :: []) := by have := hk; simpa [bkC] using this
  exact ⟨h1.range rfl, h2.at1 (by simp [dl_len, lp]), h3.range (by simp [dl_len, lp]), h4.at1 (by simp [dl_len, lp, lm])⟩
theorem bkC_len {p : List Int} {h : Int} {m : List Int} {s : Value} (hp : DgOk p) (hm : DgOk m) : (bkC p h m s).length = 18 := by simp [bkC, dl_len, hp.len, hm.len]
theorem bkC_one {p : List Int} {h : Int} {m : List Int} {A : Option Addr} {N C : Nat} : ∀ v ∈ bkC p h m (.slice A N C), v.oneCell' = true := by
  intro v hv
  rcases List.mem_append.1 hv with hv | hv
  · exact dl_one1 _ v hv
  · rcases List.mem_cons.1 hv with rfl | hv
    · rfl
    · rcases List.mem_append.1 hv with hv | hv
      · exact dl_one1 _ v hv
      · simp only [List.mem_cons, List.not_mem_nil, or_false] at hv
        subst hv; rfl
theorem blk_size : (Tryd.prog.info? 31).map (·.size) = some 18 := by kernel_rfl
theorem blk_sz {p : List Int} {h : Int} {m : List Int} {s : Value} (hp : DgOk p) (hm : DgOk m) : (Tryd.prog.info? 31).map (·.size) = some (bkC p h m s).length := by rw [bkC_len hp hm]; exact blk_size

/-! ### The map of turns -/
def turnC (t : TxT) : List Value := dl t.f ++ [.int .i64 t.n]
theorem turnC_len {t : TxT} (h : DgOk t.f) : (turnC t).length = 9 := by simp [turnC, dl_len, h.len]
theorem turnC_one (t : TxT) : ∀ v ∈ turnC t, v.oneCell' = true := by
  intro v hv
  rcases List.mem_append.1 hv with hv | hv
  · exact dl_one1 _ v hv
  · simp only [List.mem_cons, List.not_mem_nil, or_false] at hv
    subst hv; rfl
def turnK (t : TxT) : Lit := .string (keyBytes (t.f.map (Lit.int .u8) ++ [Lit.int .i64 t.n]))
theorem Tryd.deepTurn : WideMaps.KeyLaw Tryd.prog 76 := deep_law_laid (by kernel_rfl) (m := 4) (by omega) (of_decide_eq_true (by kernel_rfl)) (by kernel_rfl) (by kernel_rfl)
theorem Tryd.keyedTurn : Keyed Tryd.prog 76 := Keyed.of_law Tryd.deepTurn
theorem keyType_turn : Tryd.prog.keyType 76 = true := by kernel_rfl
theorem cells_turn : Tryd.prog.cellsOf 76 = 9 := by kernel_rfl
theorem wf8b {x : Int} (h : 0 ≤ x ∧ x < 256) : (Lit.int .u8 x).wf = true := by
  have h1 : IntKind.u8.min = 0 := by decide
  have h2 : IntKind.u8.max = 255 := by decide
  simp only [Lit.wf, h1, h2, Bool.and_eq_true, decide_eq_true_eq]; omega
theorem wf64 {x : Int} (h : -9223372036854775808 ≤ x ∧ x < 9223372036854775808) : (Lit.int .i64 x).wf = true := by
  have h1 : IntKind.i64.min = -9223372036854775808 := by decide
  have h2 : IntKind.i64.max = 9223372036854775807 := by decide
  simp only [Lit.wf, h1, h2, Bool.and_eq_true, decide_eq_true_eq]; omega
theorem lits_dgb {d : Nat} {a : List Int} (h : DgOk a) : Tryd.prog.keyLits (d + 2) 28 (dl a) = some (a.map (Lit.int .u8)) := by
  obtain ⟨a0, a1, a2, a3, a4, a5, a6, a7, rfl⟩ := list8 a h.len
  have b := h.byt
  have w0 := wf8b (b a0 (by simp)); have w1 := wf8b (b a1 (by simp)); have w2 := wf8b (b a2 (by simp)); have w3 := wf8b (b a3 (by simp))
  have w4 := wf8b (b a4 (by simp)); have w5 := wf8b (b a5 (by simp)); have w6 := wf8b (b a6 (by simp)); have w7 := wf8b (b a7 (by simp))
  have c1 : Tryd.prog.cellsOf 5 = 1 := by kernel_rfl
  have c8 : Tryd.prog.cellsOf 28 = 8 := by kernel_rfl
  have hu : ∀ x : Int, (Lit.int .u8 x).wf = true → Tryd.prog.keyLits (d + 1) 5 [.int .u8 x] = some [.int .u8 x] := fun x hx => by
    unfold Program.keyLits
    simp [Tryd.underlying5, hx]
  unfold Program.keyLits
  simp only [Tryd.underlying28]
  rw [if_pos (by rw [c8]; rfl), c1]
  simp [List.range, List.range.loop, dl, hu _ w0, hu _ w1, hu _ w2, hu _ w3, hu _ w4, hu _ w5, hu _ w6, hu _ w7]
theorem keyOf_turn {t : TxT} (h : DgOk t.f) (hn : -9223372036854775808 ≤ t.n ∧ t.n < 9223372036854775808) : keyOf Tryd.prog 76 (.agg (turnC t).toArray) = some (turnK t) := by
  have cd : Tryd.prog.cellsOf 28 = 8 := by kernel_rfl
  have ci : Tryd.prog.cellsOf 3 = 1 := by kernel_rfl
  have hl := turnC_len h
  have hsz : ∃ m, Tryd.prog.types.size + 1 = m + 3 := ⟨Tryd.prog.types.size - 2, by have : 2 ≤ Tryd.prog.types.size := of_decide_eq_true (by kernel_rfl); omega⟩
  obtain ⟨m, hm⟩ := hsz
  have t1 : (turnC t).take 8 = dl t.f := by rw [turnC, List.take_append_of_le_length (by rw [dl_len, h.len]; omega), List.take_of_length_le (by rw [dl_len, h.len]; omega)]
  have t2 : ((turnC t).drop 8).take 1 = [.int .i64 t.n] := by
    rw [turnC, List.drop_append, List.drop_of_length_le (by rw [dl_len, h.len]; omega), List.nil_append, dl_len, h.len, Nat.sub_self]; rfl
  have hi : Tryd.prog.keyLits (m + 2) 3 [.int .i64 t.n] = some [.int .i64 t.n] := by
    unfold Program.keyLits
    simp [Tryd.underlying3, wf64 hn]
  unfold keyOf
  simp only [Tryd.underlying76]
  rw [if_pos (by rw [keyType_turn]; simp [Value.formed, Tryd.underlying76, cells_turn, hl]), hm]
  unfold Program.keyLits
  simp only [Tryd.underlying76, Value.cells]
  rw [if_pos ⟨by rw [cells_turn]; simpa using hl, by simp⟩]
  simp [cd, ci, t1, t2, lits_dgb h, hi, turnK]
theorem dl_injb {a b : List Int} (h : dl a = dl b) : a = b := by
  have : ∀ (a b : List Int), dl a = dl b → a = b := by
    intro a
    induction a with
    | nil => intro b h; cases b with
      | nil => rfl
      | cons y b => simp [dl] at h
    | cons x a ih => intro b h; cases b with
      | nil => simp [dl] at h
      | cons y b =>
        simp only [dl, List.map_cons, List.cons.injEq, Value.int.injEq, true_and] at h
        rw [h.1, ih b h.2]
  exact this a b h
theorem turnK_inj {t u : TxT} (ht : TxOk t) (hu : TxOk u) : turnK t = turnK u ↔ turnB t u = true := by
  constructor
  · intro h
    have h2 := keyOf_turn hu.f hu.n
    rw [← h] at h2
    have h3 := Tryd.keyedTurn.inj (keyOf_turn ht.f ht.n) h2
    have h3 := Value.agg.inj h3
    have h3 : turnC t = turnC u := by simpa using h3
    have h4 := List.append_inj h3 (by rw [dl_len, dl_len, ht.f.len, hu.f.len])
    have h5 : t.n = u.n := by simpa using h4.2
    unfold turnB
    rw [dl_injb h4.1, h5]
    simp
  · intro h
    unfold turnB at h
    simp only [Bool.and_eq_true, beq_iff_eq] at h
    unfold turnK
    rw [h.1, h.2]
theorem turnK_lit (t : TxT) : WideAt.IsKeyLit (turnK t) := trivial
def turnF : List TxT → DataW Unit → DataW Unit
  | [], D => D
  | t :: l, D => turnF l (D.put (turnK t) (.lit (.bool true)))
def turnD (l : List TxT) : DataW Unit := turnF l (.map [])
theorem turnF_snoc : ∀ (l : List TxT) (t : TxT) (D : DataW Unit), turnF (l ++ [t]) D = (turnF l D).put (turnK t) (.lit (.bool true))
  | [], t, D => rfl
  | x :: l, t, D => by rw [List.cons_append, turnF, turnF_snoc l t, turnF]
theorem turnD_snoc (l : List TxT) (t : TxT) : turnD (l ++ [t]) = (turnD l).put (turnK t) (.lit (.bool true)) := turnF_snoc l t _
theorem turnF_map : ∀ (l : List TxT) (D : DataW Unit), IsMap D → IsMap (turnF l D)
  | [], _, h => h
  | _t :: l, _D, h => turnF_map l _ (h.put _ _)
theorem turnD_map (l : List TxT) : IsMap (turnD l) := turnF_map l _ isMap_empty
theorem turn_at : ∀ (n : Nat) (l : List TxT), l.length = n → (∀ u ∈ l, TxOk u) → ∀ t, TxOk t → (turnD l).atKey (turnK t) (.lit (.bool false)) = .lit (.bool (l.any (turnB t)))
  | 0, l, hl, _, t, _ => by
    obtain rfl : l = [] := List.eq_nil_of_length_eq_zero hl
    generalize turnK t = k
    rfl
  | n + 1, l, hl, hok, t, ht => by
    obtain ⟨l', u, rfl⟩ : ∃ l' u, l = l' ++ [u] := ⟨l.dropLast, l.getLast (by intro e; subst e; simp at hl), (List.dropLast_concat_getLast _).symm⟩
    have hu : TxOk u := hok u (by simp)
    rw [turnD_snoc, List.any_append]
    by_cases h : turnB t u = true
    · rw [(turnK_inj ht hu).2 h, atKey_put_same (turnD_map l') (turnK_lit u)]
      simp [h]
    · rw [atKey_put_other (fun hk => h ((turnK_inj ht hu).1 hk)), turn_at n l' (by simpa using hl) (fun x hx => hok x (by simp [hx])) t ht]
      simp [h]
set_option maxRecDepth 20000 in
theorem zeroBool (w : World) : (zeroValue 4).run Tryd.prog w = .ok (.bool false) w := by kernel_rfl
theorem plainElem_bool_inv' {P : Program} {e : TypeId} (he : P.underlying e = some .bool) {v : Value} {z : DataW Unit × List MemPlace} (h : plainElem P e v = some z) : ∃ x, v = .bool x ∧ z = (.lit (.bool x), []) := by
  unfold plainElem at h
  rw [he] at h
  cases v <;> simp at h
  exact ⟨_, rfl, h.symm⟩
theorem turn_look {w : World} {b n : Nat} {l : List TxT} {t : TxT} (h : w.ownsMap (H := Unit) Tryd.prog 76 (plainElem Tryd.prog 4) b n (turnD l)) (hok : ∀ u ∈ l, TxOk u) (ht : TxOk t) :
    (Instr.lookup 74 (.map (some b)) (.agg (turnC t).toArray) false).run Tryd.prog w = .ok (.bool (l.any (turnB t))) w := by
  obtain ⟨v, ps, hrun, hv⟩ := h.lookup Tryd.keyedTurn Tryd.underlying74 (zeroBool w) (plainElem_bool Tryd.underlying4 false) (keyOf_turn ht.f ht.n)
  obtain ⟨x, rfl, hx⟩ := plainElem_bool_inv' Tryd.underlying4 hv
  have hx := congrArg Prod.fst hx
  simp only at hx
  rw [turn_at _ l rfl hok t ht] at hx
  have hx : l.any (turnB t) = x := Lit.bool.inj (DataW.lit.inj hx)
  rw [hrun, hx]
theorem turn_store {w : World} {b n : Nat} {l : List TxT} {t : TxT} (h : w.ownsMap (H := Unit) Tryd.prog 76 (plainElem Tryd.prog 4) b n (turnD l)) (ht : TxOk t) (hl : n ≤ 65536) :
    ∃ w', (Instr.mapUpdate 74 (.map (some b)) (.agg (turnC t).toArray) (.bool true)).run Tryd.prog w = .ok () w' ∧ w'.ownsMap (H := Unit) Tryd.prog 76 (plainElem Tryd.prog 4) b (n + 1) (turnD (l ++ [t])) ∧ w.grownBy w' (some b) := by
  obtain ⟨w', h1, h2, h3⟩ := h.update Tryd.keyedTurn Tryd.underlying74 (by unfold maxLen; omega) (keyOf_turn ht.f ht.n) (plainElem_bool Tryd.underlying4 true)
  exact ⟨w', h1, by rw [turnD_snoc]; exact h2, h3⟩
theorem build_turn {t : TxT} (h : DgOk t.f) (w : World) : (Instr.build 76 #[(0, .agg (dl t.f).toArray), (1, .int .i64 t.n)]).run Tryd.prog w = .ok (.agg (turnC t).toArray) w := by
  obtain ⟨f, n, e, k, b, s⟩ := t
  obtain ⟨x0, x1, x2, x3, x4, x5, x6, x7, rfl⟩ := list8 f h.len
  kernel_rfl
end Go.Proofs.YtbpmomedhdmloaaDoor
