/- Transactions and blocks cloned. -/
import Derived.Test.YtbpmomedhdmloaaDoorBC
namespace Go.Proofs.YtbpmomedhdmloaaDoor
set_option linter.unusedSimpArgs false
set_option linter.unusedVariables false
open Go.RowKit Go.Maps

theorem bclone_b (w : World) (A : Option Addr) (n c : Nat) (bs : List Int) (hs : Sl w w.heap.size 1 A n (bs.map (.int .u8))) (hn4 : n ≤ 4294967296) :
    Calls Tryd.prog 63 #[.slice A n c] w (RetB w.heap.size bs w) := by
  have hnil : ∀ (w : World) (a : Option Addr) (n c n' c' : Nat), (binOp .eql 40 (.slice a n c) (.slice none n' c')).run Tryd.prog w = .ok (.bool a.isNone) w := fun w a n c n' c' => Lib.run_eql_slice_nil w _ _ a n c n' c' Tryd.underlying40
  have hlen := hs.length
  cases A with
  | none =>
    have hn0 : n = 0 := by
      rcases Nat.eq_zero_or_pos n with h | h
      · exact h
      · obtain ⟨_, e, _⟩ := hs.mem h; cases e
    subst hn0
    obtain rfl : bs = [] := List.eq_nil_of_length_eq_zero hlen
    clear hs hlen
    go_enter Tryd.func63, Tryd.ntmps63
    go_wp2_with fail
    go_ret
    exact ⟨_, rfl, World.ownsRow_nil _ _ _ _, Below.refl _ _⟩
  | some ad =>
    obtain ⟨i0, hi, hi0, hi1, hi2⟩ := info_parts Tryd.infoU8
    have HS := Lib.hid hs; have HL := Lib.hid hlen
    clear hs hlen
    go_enter Tryd.func63, Tryd.ntmps63
    go_wp2_with (at_builtin; refine wpList_app _ rfl (.tmp 5) (.tmp 6) 40 rfl w.heap.size 5 i0 (.int .u8 0) 1 1 Tryd.underlying40 hi hi0 hi1 hi2 rfl (by decide) _ _ _ rfl (own_empty w 5 1 w.heap.size (Nat.le_refl _)) _ _ n c (bs.map (.int .u8)) rfl (HS.out.alloc (Nat.le_refl _) _) (ints_one _ _) (by unfold maxLen; omega) (by omega) (by simp) ?_; intro v1 w3 hown1 hg1 hat1)
    rw [Nat.zero_add, List.nil_append] at hown1
    have hb3 := grown_below (below_new w (.cells #[] 5)) (own_empty w 5 1 w.heap.size (Nat.le_refl _)) hg1 (Nat.le_refl _) (by simp)
    have HO := Lib.hid hown1; have HB := Lib.hid hb3
    clear hown1 hg1 hat1 hb3
    go_wp2_with fail
    go_ret
    exact ⟨_, rfl, by rw [HL.out]; exact HO.out, HB.out⟩
/-- A transaction whose bytes lie in blocks of its own, from lo on. -/
structure TxgO (lo : Nat) (w : World) (cs : List Value) (t : TxT) : Prop where
  ex : ∃ (A B : Option Addr) (N C M D : Nat), cs = txC t (.slice A N C) (.slice B M D) ∧ w.ownsRow lo 5 1 (.slice A N C) N (t.b.map (.int .u8)) ∧ w.ownsRow lo 5 1 (.slice B M D) M (t.s.map (.int .u8))
  ok : TxOk t
theorem own_cap {w : World} {lo size n c : Nat} {A : Option Addr} {e : TypeId} {xs : List Value} (h : w.ownsRow lo e size (.slice A n c) n xs) : n ≤ c := by
  rcases own_bk h with ⟨e1, _⟩ | ⟨q, cap, zs, e1, _, _, hnc, _⟩
  · injection e1 with _ e2 e3; omega
  · injection e1 with _ _ e3; omega
theorem TxgO.g {lo : Nat} {w : World} {cs : List Value} {t : TxT} (h : TxgO lo w cs t) : Txg w cs t := by
  obtain ⟨⟨A, B, N, C, M, D, e, h1, h2⟩, ok⟩ := h
  exact ⟨⟨A, B, N, C, M, D, e, Sl.of_own h1, Sl.of_own h2, own_cap h1, own_cap h2⟩, ok⟩
theorem TxgO.later {lo : Nat} {w w' : World} {cs : List Value} {t : TxT} (h : TxgO lo w cs t) (hb : Below w.heap.size w w') : TxgO lo w' cs t := by
  obtain ⟨⟨A, B, N, C, M, D, e, h1, h2⟩, ok⟩ := h
  exact ⟨⟨A, B, N, C, M, D, e, own_keep h1 hb, own_keep h2 hb⟩, ok⟩
theorem TxgO.base {lo lo' : Nat} {w : World} {cs : List Value} {t : TxT} (h : TxgO lo w cs t) (hl : lo' ≤ lo) : TxgO lo' w cs t := by
  obtain ⟨⟨A, B, N, C, M, D, e, h1, h2⟩, ok⟩ := h
  exact ⟨⟨A, B, N, C, M, D, e, own_base h1 hl, own_base h2 hl⟩, ok⟩
theorem TxgO.grown {lo : Nat} {w w' : World} {cs : List Value} {t : TxT} {g : Nat} {ty : TypeId} {zs : List Value} (h : TxgO lo w cs t) (hg : w.grownBy w' (some g)) (hk : Bk w g ty zs) (hne : 5 ≠ ty) : TxgO lo w' cs t := by
  obtain ⟨⟨A, B, N, C, M, D, e, h1, h2⟩, ok⟩ := h
  exact ⟨⟨A, B, N, C, M, D, e, own_only h1 hg (own_bk_ne h1 hk hne), own_only h2 hg (own_bk_ne h2 hk hne)⟩, ok⟩
set_option maxRecDepth 20000 in
set_option maxHeartbeats 4000000 in
theorem tClone_any (w : World) (cs : List Value) (t : TxT) (ht : Txg w cs t) (hl : t.b.length ≤ 4294967296 ∧ t.s.length ≤ 4294967296) :
    Calls Tryd.prog 37 #[.agg cs.toArray] w fun e w' => (∃ cs', e = .returned (.agg cs'.toArray) ∧ TxgO w.heap.size w' cs' t) ∧ Below w.heap.size w w' := by
  obtain ⟨⟨A, B, N, C, M, D, rfl, s1, s2, _, _⟩, ok⟩ := ht
  obtain ⟨l, hl'⟩ : ∃ x, txC t (.slice A N C) (.slice B M D) = x := ⟨_, rfl⟩
  obtain ⟨X, hX⟩ : ∃ X, l.toArray = X := ⟨_, rfl⟩
  obtain ⟨z, hz⟩ : ∃ z, w.heap.size = z := ⟨_, rfl⟩
  obtain ⟨w1, hw1⟩ : ∃ w1, (w.alloc (.cells X 47)).alloc (.cells #[.int .u8 0, .int .u8 0, .int .u8 0, .int .u8 0, .int .u8 0, .int .u8 0, .int .u8 0, .int .u8 0, .int .i64 0, .int .i64 0, .int .i64 0, .slice none 0 0, .slice none 0 0] 47) = w1 := ⟨_, rfl⟩
  have hb1 : Below w.heap.size w w1 := hw1 ▸ (below_new w _).alloc (by simp) _
  have kx : Bk w1 z 47 (txC t (.slice A N C) (.slice B M D)) := hw1 ▸ (Bk.at_ w _ X hz (by rw [← hX, ← hl'])).alloc _
  have kr : Bk w1 (z + 1) 47 ([] ++ (zTx ++ [])) := hw1 ▸ Bk.at_ _ _ #[.int .u8 0, .int .u8 0, .int .u8 0, .int .u8 0, .int .u8 0, .int .u8 0, .int .u8 0, .int .u8 0, .int .i64 0, .int .i64 0, .int .i64 0, .slice none 0 0, .slice none 0 0] (by simp [hz]) rfl
  have e1 := s1.length; have e2 := s2.length
  have HSA1 := Lib.hid (s1.later hb1); have HSB1 := Lib.hid (s2.below hb1)
  have HW := Lib.hid hw1; have HBB1 := Lib.hid hb1; have HZ := Lib.hid hz; have HK1 := Lib.hid kx; have HR1 := Lib.hid kr; have HOK := Lib.hid ok
  have h11 := (tx_mem ok.f kx).c11
  simp only [Nat.zero_add] at h11
  rw [hl', hX]
  clear hl' hX hw1 hb1 kx kr hz s1 s2 ok
  go_enter Tryd.func37, Tryd.ntmps37
  go_upto_region 1 with fail
  rw [HW.out, HZ.out]
  go_wp2_with fail
  refine (bclone_b w1 A N C t.b HSA1.out (by omega)).mono ?_
  rintro e w2 ⟨v2, rfl, hown⟩
  obtain ⟨A2, c2, rfl⟩ := hown.form
  have hbn := hown.2
  have HSB2 := Lib.hid (HSB1.out.below (hbn.mono HBB1.out.size))
  have HBB2 := Lib.hid (below_then HBB1.out hbn)
  have HK2 := Lib.hid (HK1.out.later hbn)
  have HR2 := Lib.hid (HR1.out.later hbn)
  clear hbn
  have ho := hown.1
  rw [e1] at ho
  have HO2 := Lib.hid ho
  clear hown ho h11
  go_wp2_with (with_reducible refine stop_store 40 _ _ rfl ?_)
  refine StopD.go ?_
  refine wpList_store_part rfl 40 _ _ rfl z 11 (.slice A2 N c2) [.slice A2 N c2] rfl rfl rfl 47 (dl t.f ++ [.int .i64 t.n, .int .i64 t.e, .int .i64 t.k]) [.slice A N C] [.slice B M D] (by have := HK2.out; simpa [txC] using this) (by simp [dl_len, HOK.out.f.len]) rfl (by kernel_rfl) (by intro x hx; simp at hx; subst hx; rfl) ?_
  intro w3 hp
  have HK3 : Hid (Bk w3 z 47 (txC t (.slice A2 N c2) (.slice B M D))) := by show Bk _ _ _ _; have := hp.bk; simpa [txC] using this
  have HO3 := Lib.hid (own_only HO2.out hp.only (own_bk_ne HO2.out HK2.out (by decide)))
  have HR3 := Lib.hid (HR2.out.grown hp.only (by intro e; injection e with e; omega))
  have HSB3 := Lib.hid (sl_only HSB2.out hp.only HBB2.out.size (fun g e => by injection e with e; have := HZ.out; omega))
  have HBB3 := Lib.hid (below_only HBB2.out hp.only HBB2.out.size (Nat.le_of_eq HZ.out))
  have h12 := (tx_mem HOK.out.f HK3.out).c12
  simp only [Nat.zero_add] at h12
  clear hp HK2 HO2 HR2 HSB2
  go_wp2_with fail
  refine (bclone_b w3 B M D t.s (HSB3.out.more HBB3.out.size) (by omega)).mono ?_
  rintro e w4 ⟨v4, rfl, hown⟩
  obtain ⟨B4, d4, rfl⟩ := hown.form
  have hbn := hown.2
  have HO4 := Lib.hid (own_keep HO3.out hbn)
  have ho := hown.1
  rw [e2] at ho
  have HP4 := Lib.hid (own_base ho HBB3.out.size)
  have HBB4 := Lib.hid (below_then HBB3.out hbn)
  have HK4 := Lib.hid (HK3.out.later hbn)
  have HR4 := Lib.hid (HR3.out.later hbn)
  clear hbn
  clear hown ho h12 HO3 HK3 HR3 HSB3
  go_wp2_with (with_reducible refine stop_store 40 _ _ rfl ?_)
  refine StopD.go ?_
  refine wpList_store_part rfl 40 _ _ rfl z 12 (.slice B4 M d4) [.slice B4 M d4] rfl rfl rfl 47 (dl t.f ++ [.int .i64 t.n, .int .i64 t.e, .int .i64 t.k, .slice A2 N c2]) [.slice B M D] [] (by have := HK4.out; simpa [txC] using this) (by simp [dl_len, HOK.out.f.len]) rfl (by kernel_rfl) (by intro x hx; simp at hx; subst hx; rfl) ?_
  intro w5 hp
  have HK5 : Hid (Bk w5 z 47 (txC t (.slice A2 N c2) (.slice B4 M d4))) := by show Bk _ _ _ _; have := hp.bk; simpa [txC] using this
  have HO5 := Lib.hid (own_only HO4.out hp.only (own_bk_ne HO4.out HK4.out (by decide)))
  have HP5 := Lib.hid (own_only HP4.out hp.only (own_bk_ne HP4.out HK4.out (by decide)))
  have HR5 := Lib.hid (HR4.out.grown hp.only (by intro e; injection e with e; omega))
  have HBB5 := Lib.hid (below_only HBB4.out hp.only HBB4.out.size (Nat.le_of_eq HZ.out))
  clear hp HO4 HP4 HK4 HR4
  go_wp2_with (first
    | (with_reducible refine wpList_load_bk rfl 47 _ rfl z rfl (txC t (.slice A2 N c2) (.slice B4 M d4)) 47 HK5.out _ Tryd.underlying47 rfl (tx_sz HOK.out.f _ _) ?_)
    | (with_reducible refine stop_store 47 _ _ rfl ?_))
  refine StopD.go ?_
  refine wpList_store_part rfl 47 _ _ rfl (z + 1) 0 (.agg (txC t (.slice A2 N c2) (.slice B4 M d4)).toArray) (txC t (.slice A2 N c2) (.slice B4 M d4)) rfl rfl rfl 47 [] zTx [] HR5.out rfl (by rw [txC_len HOK.out.f]; rfl) (tx_sz HOK.out.f _ _) txC_one ?_
  intro w6 hp
  have HR6 : Hid (Bk w6 (z + 1) 47 (txC t (.slice A2 N c2) (.slice B4 M d4))) := by show Bk _ _ _ _; have := hp.bk; simpa using this
  have HO6 := Lib.hid (own_only HO5.out hp.only (own_bk_ne HO5.out HR5.out (by decide)))
  have HP6 := Lib.hid (own_only HP5.out hp.only (own_bk_ne HP5.out HR5.out (by decide)))
  have HBB6 := Lib.hid (below_only HBB5.out hp.only HBB5.out.size (by have := HZ.out; omega))
  clear hp
  go_wp2_with fail
  refine bodyPost_ret (results_cell_bk rfl _ _ (z + 1) 47 (txC t (.slice A2 N c2) (.slice B4 M d4)) _ rfl HR6.out Tryd.underlying47 rfl (tx_sz HOK.out.f _ _)) rfl ?_
  exact ⟨⟨_, rfl, ⟨A2, B4, N, c2, M, d4, rfl, own_base HO6.out HBB1.out.size, HP6.out⟩, HOK.out⟩, HBB6.out⟩
theorem own_apart2 {w w' : World} {b1 b2 s1 s2 n1 n2 : Nat} {e1 e2 : TypeId} {v1 v2 : Value} {xs ys : List Value} (h : w.ownsRow b1 e1 s1 v1 n1 xs) (h' : w.ownsRow b2 e2 s2 v2 n2 ys) (hne : e1 ≠ e2) (hg : w.grownBy w' v2.ownBlock) : w'.ownsRow b1 e1 s1 v1 n1 xs := by
  rcases own_bk h' with ⟨rfl, _⟩ | ⟨g, cap, zs, rfl, _, hb, _⟩
  · exact h.kept hg (by cases v1.ownBlock <;> simp [Value.ownBlock])
  · exact own_only h hg (own_bk_ne h hb hne)
/-- A block cloned: its transactions lie in blocks of their own. -/
structure OwnT (lo : Nat) (w : World) (v : Value) (N : Nat) (L : List TxT) (ys : List (List Value × TxT)) : Prop where
  own : w.ownsRow lo 47 13 v N (ys.map (·.1)).flatten
  map : ys.map (·.2) = L
  all : ∀ y ∈ ys, TxgO lo w y.1 y.2
theorem OwnT.later {lo N : Nat} {w w' : World} {v : Value} {L : List TxT} {ys : List (List Value × TxT)} (h : OwnT lo w v N L ys) (hb : Below w.heap.size w w') : OwnT lo w' v N L ys := ⟨own_keep h.own hb, h.map, fun y hy => (h.all y hy).later hb⟩
theorem OwnT.base {lo lo' N : Nat} {w : World} {v : Value} {L : List TxT} {ys : List (List Value × TxT)} (h : OwnT lo w v N L ys) (hl : lo' ≤ lo) : OwnT lo' w v N L ys := ⟨own_base h.own hl, h.map, fun y hy => (h.all y hy).base hl⟩
theorem OwnT.grown {lo N g : Nat} {w w' : World} {v : Value} {L : List TxT} {ys : List (List Value × TxT)} {ty : TypeId} {zs : List Value} (h : OwnT lo w v N L ys) (hg : w.grownBy w' (some g)) (hk : Bk w g ty zs) (hne : 5 ≠ ty) (hne' : 47 ≠ ty) : OwnT lo w' v N L ys := ⟨own_only h.own hg (own_bk_ne h.own hk hne'), h.map, fun y hy => (h.all y hy).grown hg hk hne⟩
theorem OwnT.txs {lo N : Nat} {w : World} {A : Option Addr} {c : Nat} {L : List TxT} {ys : List (List Value × TxT)} (h : OwnT lo w (.slice A N c) N L ys) : Txs w A N ys := ⟨Sl.of_own h.own, fun y hy => (h.all y hy).g⟩
theorem map_take2 {xs : List (List Value × TxT)} (k : Nat) : (xs.take k).map (·.2) = (xs.map (·.2)).take k := List.map_take
set_option maxRecDepth 20000 in
set_option maxHeartbeats 8000000 in
theorem bClone_any (w : World) (p : List Int) (h : Int) (m : List Int) (hp : DgOk p) (hm : DgOk m) (A : Option Addr) (N C : Nat) (xs : List (List Value × TxT)) (hx : Txs w A N xs) (hN : N ≤ 1000) (hl : ∀ x ∈ xs, x.2.b.length ≤ 4294967296 ∧ x.2.s.length ≤ 4294967296) :
    Calls Tryd.prog 16 #[.agg (bkC p h m (.slice A N C)).toArray] w fun e w' => (∃ v ys, e = .returned (.agg (bkC p h m v).toArray) ∧ OwnT w.heap.size w' v N (xs.map (·.2)) ys) ∧ Below w.heap.size w w' := by
  have HBS := Lib.hid (fun s => blk_sz (h := h) (s := s) hp hm)
  obtain ⟨l, hl0⟩ : ∃ x, bkC p h m (.slice A N C) = x := ⟨_, rfl⟩
  obtain ⟨X, hX⟩ : ∃ X, l.toArray = X := ⟨_, rfl⟩
  obtain ⟨z, hz⟩ : ∃ z, w.heap.size = z := ⟨_, rfl⟩
  obtain ⟨w1, hw1⟩ : ∃ w1, (w.alloc (.cells X 31)).alloc (.cells #[.int .u8 0, .int .u8 0, .int .u8 0, .int .u8 0, .int .u8 0, .int .u8 0, .int .u8 0, .int .u8 0, .int .i64 0, .int .u8 0, .int .u8 0, .int .u8 0, .int .u8 0, .int .u8 0, .int .u8 0, .int .u8 0, .int .u8 0, .slice none 0 0] 31) = w1 := ⟨_, rfl⟩
  have hb1 : Below w.heap.size w w1 := hw1 ▸ (below_new w _).alloc (by simp) _
  have kx : Bk w1 z 31 l := hw1 ▸ (Bk.at_ w _ X hz (by rw [← hX])).alloc _
  have kr : Bk w1 (z + 1) 31 zBk := hw1 ▸ Bk.at_ _ _ #[.int .u8 0, .int .u8 0, .int .u8 0, .int .u8 0, .int .u8 0, .int .u8 0, .int .u8 0, .int .u8 0, .int .i64 0, .int .u8 0, .int .u8 0, .int .u8 0, .int .u8 0, .int .u8 0, .int .u8 0, .int .u8 0, .int .u8 0, .slice none 0 0] (by simp [hz]) rfl
  have c17 := (bkc_mem hp hm (by rw [hl0]; exact kx)).c17
  have HW := Lib.hid hw1; have HBB1 := Lib.hid hb1; have HZ := Lib.hid hz; have HK1 := Lib.hid kx; have HR1 := Lib.hid kr; have HPO := Lib.hid hp; have HMO := Lib.hid hm; have HLE := Lib.hid hl0
  have HXS := Lib.hid (hx.later hb1); have HLN := Lib.hid hx.length; have HLB := Lib.hid hl
  rw [hl0, hX]
  obtain ⟨i0, hi, hi0, hi1, hi2⟩ := info_parts Tryd.infoTx
  clear hl0 hX hw1 hb1 kx kr hz hp hm hx hl
  go_enter Tryd.func16, Tryd.ntmps16
  go_upto_region 1 with fail
  rw [HW.out, HZ.out]
  go_wp2_with (at_make; refine stop_here2 ?_)
  refine StopD.go ?_
  refine wpList_make_own _ rfl _ _ 29 rfl w1.heap.size 47 i0 (.agg zTx.toArray) 13 Tryd.underlying29 hi hi0 hi1 .i64 .i64 _ N rfl rfl rfl (by rw [hi2]; omega) (by unfold maxLen; omega) (Nat.le_refl _) ?_
  intro w2 hown2 hg2
  have hbn := below_grow hg2
  have HL2 := Lib.hid hown2; have HB2 := Lib.hid hbn
  have hc17 : w2.cell? ⟨z, 17, none⟩ = some (.slice A N C) := (hbn.cell (p := ⟨z, 17, none⟩) HK1.out.lt).trans c17
  clear hown2 hg2 hbn c17
  go_wp2_with fail
  clear hc17
  go_loopw [3, 5, 13] (fun lv _ kv wr => ∃ (k : Nat) (ys : List (List Value × TxT)), k ≤ N ∧ kv = .int .i64 k ∧ Hid (OwnT w1.heap.size wr lv k ((xs.map (·.2)).take k) ys) ∧ Hid (Below w1.heap.size w1 wr)) (fun _ _ kv _ => N - (intOf kv).toNat)
  case atStart => exact ⟨0, [], Nat.zero_le _, rfl, ⟨HL2.out, rfl, fun y hy => by simp at hy⟩, HB2.out⟩
  case round =>
    obtain ⟨k, ys, hk, rfl, HJ, HB⟩ := hrel
    by_cases hlt : k < N
    · have hki : (k : Int) < N := by omega
      have hk0 : (0 : Int) ≤ k := by omega
      obtain ⟨⟨cs, t⟩, hx⟩ : ∃ x, xs[k]? = some x := ⟨xs[k]'(by rw [HLN.out]; omega), List.getElem?_eq_getElem _⟩
      have hg : Txg wr cs t := (HXS.out.later HB.out).th (cs, t) (List.mem_of_getElem? hx)
      have hlb : t.b.length ≤ 4294967296 ∧ t.s.length ≤ 4294967296 := HLB.out (cs, t) (List.mem_of_getElem? hx)
      obtain ⟨b, o, rfl, hr, _⟩ := HXS.out.at_ HB.out hx
      have hr : wr.rangeAt b (o + k * 13) cs := hr
      have hLk : (xs.map (·.2))[k]? = some t := by rw [List.getElem?_map, hx]; rfl
      have HG := Lib.hid hg; have HR := Lib.hid hr; have HLK := Lib.hid hLk; have HLL := Lib.hid hlb
      clear hr hx hg hLk hlb
      go_wp2_with (first
        | (with_reducible refine wpList_load_mid rfl 47 _ rfl b (o + k * 13) rfl cs _ HR.out Tryd.underlying47 rfl HG.out.size ?_)
        | (with_reducible refine stop_store 47 _ _ rfl ?_))
      refine StopD.go ?_
      obtain ⟨g5, hg5⟩ : ∃ g, wr.heap.size = g := ⟨_, rfl⟩
      have hbn : Below wr.heap.size wr (wr.alloc (.cells #[.int .u8 0, .int .u8 0, .int .u8 0, .int .u8 0, .int .u8 0, .int .u8 0, .int .u8 0, .int .u8 0, .int .i64 0, .int .i64 0, .int .i64 0, .slice none 0 0, .slice none 0 0] 47)) := below_new wr _
      have kt : Bk (wr.alloc (.cells #[.int .u8 0, .int .u8 0, .int .u8 0, .int .u8 0, .int .u8 0, .int .u8 0, .int .u8 0, .int .u8 0, .int .i64 0, .int .i64 0, .int .i64 0, .slice none 0 0, .slice none 0 0] 47)) g5 47 ([] ++ (zTx ++ [])) := by rw [← hg5]; exact Bk.new' wr _ #[.int .u8 0, .int .u8 0, .int .u8 0, .int .u8 0, .int .u8 0, .int .u8 0, .int .u8 0, .int .u8 0, .int .i64 0, .int .i64 0, .int .i64 0, .slice none 0 0, .slice none 0 0] rfl
      rw [hg5]
      refine wpList_store_part rfl 47 _ _ rfl g5 0 (.agg (cs).toArray) (cs) rfl rfl rfl 47 [] zTx [] kt rfl (by rw [HG.out.len]; rfl) HG.out.size HG.out.one ?_
      intro w5 hp
      have hbn : Below wr.heap.size wr w5 := hbn.grown hp.only hbn.size (fun q hq => by injection hq with hq; omega)
      have HT5 : Hid (Bk w5 g5 47 (cs)) := by show Bk _ _ _ _; have := hp.bk; simpa using this
      clear hp kt hg5
      have HB5 := Lib.hid (below_then HB.out hbn); have HJ5 := Lib.hid (HJ.out.later hbn); have HG5 := Lib.hid (HG.out.later hbn)
      clear hbn HJ HB
      go_wp2_with (with_reducible refine wpList_load_bk rfl 47 _ rfl g5 rfl cs 47 HT5.out _ Tryd.underlying47 rfl HG5.out.size ?_)
      refine (tClone_any w5 cs t HG5.out HLL.out).mono ?_
      rintro e w6 ⟨⟨cs6, rfl, hg6⟩, hbn⟩
      have HB6 := Lib.hid (below_then HB5.out hbn); have HJ6 := Lib.hid (HJ5.out.later hbn); have HG6 := Lib.hid (hg6.base HB5.out.size)
      obtain ⟨⟨A1, B1, N1, C1, M1, D1, rfl, _⟩, hok⟩ := hg6
      have HTO := Lib.hid hok.f
      clear hbn HJ5 HB5 HT5 HG5 hok
      go_wp2_with (with_reducible refine stop_bs2 29 _ _ rfl ?_)
      refine StopD.go ?_
      refine wpList_bsliceG2 rfl 29 1 _ rfl #[(0, .agg (txC t (.slice A1 N1 C1) (.slice B1 M1 D1)).toArray)] ?_ 47 (txC t (.slice A1 N1 C1) (.slice B1 M1 D1)) (fun w => bs_tx HTO.out A1 B1 N1 C1 M1 D1 w) ?_
      · simp [Act.eval, Act.put]
      intro q8 w8 hq8 hb8 hbn
      have HB8 := Lib.hid (below_then HB6.out hbn); have HJ8 := Lib.hid (HJ6.out.later hbn); have HG8 := Lib.hid (HG6.out.later hbn); have HC8 := Lib.hid hb8
      clear hq8 hb8 hbn HB6 HJ6 HG6
      go_wp2_with (at_builtin; refine stop_here2 ?_)
      refine StopD.go ?_
      refine wpList_app _ rfl (.tmp 17) (.tmp 20) 29 rfl w1.heap.size 47 i0 (.agg zTx.toArray) 13 80 Tryd.underlying29 hi hi0 hi1 hi2 rfl (by decide) _ _ _ rfl HJ8.out.own _ _ _ _ _ rfl (Sl.of_own (HC8.out.own (base := 0) (size := 13) (cap := 1) (n := 1) (Nat.zero_le _) (Nat.le_refl _) (by omega) (by rw [txC_len HTO.out]) (by rw [List.take_of_length_le (by rw [txC_len HTO.out]; exact Nat.le_refl _)]))) txC_one (by unfold maxLen; omega) (by omega) HB8.out.size ?_
      intro v9 w9 hown hgr hat
      have HB9 := Lib.hid (grown_below HB8.out HJ8.out.own hgr (Nat.le_refl _) HB8.out.size)
      have hap : ∀ (cs : List Value) (t : TxT), TxgO w1.heap.size w8 cs t → TxgO w1.heap.size w9 cs t := fun cs t h => by
        obtain ⟨⟨A, B, N, C, M, D, e, h1, h2⟩, ok⟩ := h
        exact ⟨⟨A, B, N, C, M, D, e, own_apart2 h1 HJ8.out.own (by decide) hgr, own_apart2 h2 HJ8.out.own (by decide) hgr⟩, ok⟩
      have HJ9 : Hid (OwnT w1.heap.size w9 v9 (k + 1) ((xs.map (·.2)).take (k + 1)) (ys ++ [(txC t (.slice A1 N1 C1) (.slice B1 M1 D1), t)])) := by
        refine ⟨?_, ?_, fun y hy => ?_⟩
        · rw [List.map_append, List.flatten_append]
          simpa using hown
        · rw [List.map_append, HJ8.out.map, take_snoc HLK.out]; rfl
        · rcases List.mem_append.1 hy with hy | hy
          · exact hap _ _ (HJ8.out.all y hy)
          · rw [List.mem_singleton] at hy; subst hy; exact hap _ _ HG8.out
      clear hown hgr hat hap HJ8 HG8
      go_wp2_with fail
      go_roundw
      case rel => exact ⟨k + 1, _, hlt, by go_num, HJ9, HB9⟩
      case measure => simp [intOf]; omega
    · have hki : ¬ ((k : Int) < N) := by omega
      obtain rfl : k = N := by omega
      have HKr := Lib.hid (HK1.out.later HB.out); have HRr := Lib.hid (HR1.out.later HB.out)
      obtain ⟨A0, c0, rfl⟩ := own_form HJ.out.own
      rw [List.take_of_length_le (by rw [List.length_map, HLN.out]; exact Nat.le_refl _)] at HJ
      rw [← HLE.out] at HKr
      go_wp2_with (with_reducible refine stop_store 29 _ _ rfl ?_)
      refine StopD.go ?_
      refine wpList_store_part rfl 29 _ _ rfl z 17 (.slice A0 k c0) [.slice A0 k c0] rfl rfl rfl 31 (dl p ++ .int .i64 h :: dl m) [.slice A k C] [] (by have := HKr.out; simpa [bkC] using this) (by simp [dl_len, HPO.out.len, HMO.out.len]) rfl (by kernel_rfl) (by intro x hx; simp at hx; subst hx; rfl) ?_
      intro w3 hp
      have HK3 : Hid (Bk w3 z 31 (bkC p h m (.slice A0 k c0))) := by show Bk _ _ _ _; have := hp.bk; simpa [bkC] using this
      have HJ3 := Lib.hid (HJ.out.grown hp.only HKr.out (by decide) (by decide))
      have HR3 := Lib.hid (HRr.out.grown hp.only (by intro e; injection e with e; omega))
      have HB3 := Lib.hid (below_only (below_then HBB1.out HB.out) hp.only (below_then HBB1.out HB.out).size (Nat.le_of_eq HZ.out))
      clear hp HJ HB HKr HRr
      go_wp2_with (first
        | (with_reducible refine wpList_load_bk rfl 31 _ rfl z rfl (bkC p h m (.slice A0 k c0)) 31 HK3.out _ Tryd.underlying31 rfl (HBS.out _) ?_)
        | (with_reducible refine stop_store 31 _ _ rfl ?_))
      refine StopD.go ?_
      refine wpList_store_part rfl 31 _ _ rfl (z + 1) 0 (.agg (bkC p h m (.slice A0 k c0)).toArray) (bkC p h m (.slice A0 k c0)) rfl rfl rfl 31 [] zBk [] (by have := HR3.out; simpa using this) rfl (by rw [bkC_len HPO.out HMO.out]; rfl) (HBS.out _) bkC_one ?_
      intro w4 hp
      have HR4 : Hid (Bk w4 (z + 1) 31 (bkC p h m (.slice A0 k c0))) := by show Bk _ _ _ _; have := hp.bk; simpa using this
      have HJ4 := Lib.hid (HJ3.out.grown hp.only HR3.out (by decide) (by decide))
      have HB4 := Lib.hid (below_only HB3.out hp.only HB3.out.size (by have := HZ.out; omega))
      clear hp HJ3 HB3 HK3 HR3
      go_wp2_with fail
      refine bodyPost_ret (results_cell_bk rfl _ _ (z + 1) 31 (bkC p h m (.slice A0 k c0)) _ rfl HR4.out Tryd.underlying31 rfl (HBS.out _)) rfl ?_
      exact ⟨⟨_, _, rfl, HJ4.out.base HBB1.out.size⟩, HB4.out⟩
end Go.Proofs.YtbpmomedhdmloaaDoor
