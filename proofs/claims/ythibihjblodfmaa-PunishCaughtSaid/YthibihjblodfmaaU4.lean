/- The first two of things that show it. -/
import Derived.Test.YthibihjblodfmaaU3
namespace Go.Proofs.Ythibihjblodfmaa
open Go.RowKit Go.Maps

theorem flats_get {m : Nat} : ∀ (L : List (List Value)), (∀ l ∈ L, l.length = m) → ∀ (k : Nat) (l : List Value), L[k]? = some l → ∀ j, j < m → L.flatten[k * m + j]? = l[j]?
  | [], _, k, l, hk, _, _ => by simp at hk
  | x :: L, h, 0, l, hk, j, hj => by
    simp at hk; subst hk
    rw [List.flatten_cons, List.getElem?_append_left (by rw [h x (by simp)]; omega)]
    simp
  | x :: L, h, k + 1, l, hk, j, hj => by
    have hx := h x (by simp)
    rw [List.flatten_cons, List.getElem?_append_right (by rw [hx, Nat.succ_mul]; omega), hx, show (k + 1) * m + j - m = k * m + j by rw [Nat.succ_mul]; omega]
    exact flats_get L (fun y hy => h y (by simp [hy])) k l (by simpa using hk) j hj
theorem flats_len {m : Nat} : ∀ (L : List (List Value)), (∀ l ∈ L, l.length = m) → L.flatten.length = L.length * m
  | [], _ => by simp
  | x :: L, h => by
    rw [List.flatten_cons, List.length_append, h x (by simp), flats_len L (fun y hy => h y (by simp [hy])), List.length_cons, Nat.succ_mul]; omega
theorem sl_flat {w : World} {B n b o m : Nat} {L : List (List Value)} (h : Sl w B m (some ⟨b, o, none⟩) n L.flatten) (hL : ∀ l ∈ L, l.length = m) {k : Nat} {l : List Value} (hk : L[k]? = some l) : w.rangeAt b (o + k * m) l := by
  intro j v hv
  have hj : j < m := by
    have := (List.getElem?_eq_some_iff.1 hv).1
    rw [hL l (List.mem_of_getElem? hk)] at this; exact this
  have hkl : k < L.length := (List.getElem?_eq_some_iff.1 hk).1
  have hn : 0 < n := by
    have h1 := h.len
    rw [flats_len L hL] at h1
    have : n = L.length := by
      rcases Nat.eq_zero_or_pos m with hm | hm
      · omega
      · exact (Nat.eq_of_mul_eq_mul_right hm h1).symm
    omega
  obtain ⟨ad, e, _, hc⟩ := h.mem hn
  injection e with e; subst e
  have := hc (k * m + j) v (by rw [flats_get L hL k l hk j hj]; exact hv)
  rw [add_plain] at this
  rw [Nat.add_assoc]; exact this
theorem range_later {w w' : World} {b o : Nat} {cs : List Value} (h : w.rangeAt b o cs) (hb : Below w.heap.size w w') (hlt : b < w.heap.size) : w'.rangeAt b o cs := fun j v hv => (hb.cell (p := ⟨b, o + j, none⟩) hlt).trans (h j v hv)
/-- Things in a slice. -/
structure Ths (w : World) (A : Option Addr) (N : Nat) (xs : List (List Value × Tg)) : Prop where
  sl : Sl w w.heap.size 30 A N (xs.map (·.1)).flatten
  th : ∀ x ∈ xs, Thg w x.1 x.2
theorem Ths.later {w w' : World} {A : Option Addr} {N : Nat} {xs : List (List Value × Tg)} (h : Ths w A N xs) (hb : Below w.heap.size w w') : Ths w' A N xs := ⟨h.sl.later hb, fun x hx => (h.th x hx).later hb⟩
theorem Ths.lens {w : World} {A : Option Addr} {N : Nat} {xs : List (List Value × Tg)} (h : Ths w A N xs) : ∀ l ∈ xs.map (·.1), l.length = 30 := fun l hl => by
  obtain ⟨x, hx, rfl⟩ := List.mem_map.1 hl
  exact (h.th x hx).len
theorem Ths.length {w : World} {A : Option Addr} {N : Nat} {xs : List (List Value × Tg)} (h : Ths w A N xs) : xs.length = N := by
  have h1 := h.sl.len
  rw [flats_len _ h.lens, List.length_map] at h1
  omega
theorem Ths.at_ {w : World} {A : Option Addr} {N : Nat} {xs : List (List Value × Tg)} (h : Ths w A N xs) {k : Nat} {x : List Value × Tg} (hk : xs[k]? = some x) : ∃ b o, A = some ⟨b, o, none⟩ ∧ w.rangeAt b (o + k * 30) x.1 := by
  have hkl : k < xs.length := (List.getElem?_eq_some_iff.1 hk).1
  obtain ⟨b, o, rfl, _, _⟩ := h.sl.spot (by have := h.length; omega) (by omega)
  exact ⟨b, o, rfl, sl_flat h.sl h.lens (by rw [List.getElem?_map, hk]; rfl)⟩
set_option maxRecDepth 20000 in
set_option maxHeartbeats 4000000 in
theorem twice_nil (w : World) (tb ky ca cb : List Value) : Calls Try.prog 35 #[.nilIface, .agg tb.toArray, .agg ky.toArray, .agg ca.toArray, .agg cb.toArray] w fun e w' => e = .returned (.int .i64 1) ∧ Below w.heap.size w w' := by
  obtain ⟨X1, hX1⟩ : ∃ X, tb.toArray = X := ⟨_, rfl⟩
  obtain ⟨X2, hX2⟩ : ∃ X, ky.toArray = X := ⟨_, rfl⟩
  obtain ⟨X3, hX3⟩ : ∃ X, ca.toArray = X := ⟨_, rfl⟩
  obtain ⟨X4, hX4⟩ : ∃ X, cb.toArray = X := ⟨_, rfl⟩
  obtain ⟨w1, hw1⟩ : ∃ w1, ((((w.alloc (.cells #[.nilIface] 156)).alloc (.cells X1 29)).alloc (.cells X2 29)).alloc (.cells X3 35)).alloc (.cells X4 35) = w1 := ⟨_, rfl⟩
  have hb1 : Below w.heap.size w w1 := hw1 ▸ ((((below_new w _).alloc (by simp) _).alloc (by simp <;> omega) _).alloc (by simp <;> omega) _).alloc (by simp <;> omega) _
  have k0 : Bk w1 w.heap.size 156 [.nilIface] := by rw [← hw1]; exact ((((Bk.new' w _ #[.nilIface] rfl).alloc _).alloc _).alloc _).alloc _
  have HW := Lib.hid hw1; have HBB1 := Lib.hid hb1
  have c0 := one_cell k0
  rw [hX1, hX2, hX3, hX4]
  clear hX1 hX2 hX3 hX4 hw1 hb1 k0
  go_enter Try.func35, Try.ntmps35
  go_upto_region 1 with fail
  rw [HW.out]
  go_wp2_with fail
  go_ret
  exact ⟨rfl, HBB1.out⟩
/-- What the search says: the first pair, the second one leading. -/
def FindR (N : Nat) (tw : Nat → Nat → Int) (i j : Nat) (is : Bool) : Prop :=
  (is = true ∧ i < j ∧ j < N ∧ tw i j = 0 ∧ (∀ k, k < j → ∀ m, m < k → tw m k ≠ 0) ∧ ∀ m, m < i → tw m j ≠ 0) ∨ (is = false ∧ i = 0 ∧ j = 0 ∧ ∀ k, k < N → ∀ m, m < k → tw m k ≠ 0)
def twI (es : List Ent) (tb ky : List Int) (xs : List (List Value × Tg)) (i j : Nat) : Int :=
  match xs[i]?, xs[j]? with
  | some x, some y => twT es tb ky x.2 y.2
  | _, _ => 1
def RetF (N : Nat) (tw : Nat → Nat → Int) (w : World) (e : Ending) (w' : World) : Prop := ∃ i j is, e = .returned (.tuple #[.int .i64 (i : Nat), .int .i64 (j : Nat), .bool is]) ∧ FindR N tw i j is ∧ Below w.heap.size w w'
set_option maxRecDepth 20000 in
set_option maxHeartbeats 8000000 in
theorem find_any (w : World) (lo g : Nat) (es : List Ent) (hbk : BookAt w lo g es) (hel : es.length ≤ 65536) (tb ky : List Int) (htb : DgOk tb) (hky : DgOk ky) (A : Option Addr) (N C : Nat) (xs : List (List Value × Tg)) (hx : Ths w A N xs) (hN : N ≤ 1000000) :
    Calls Try.prog 40 #[.iface 49 (.pointer (some ⟨g, 0, none⟩)), .agg (dl tb).toArray, .agg (dl ky).toArray, .slice A N C] w (RetF N (twI es tb ky xs) w) := by
  obtain ⟨X1, hX1⟩ : ∃ X, (dl tb).toArray = X := ⟨_, rfl⟩
  obtain ⟨X2, hX2⟩ : ∃ X, (dl ky).toArray = X := ⟨_, rfl⟩
  obtain ⟨z, hz⟩ : ∃ z, w.heap.size = z := ⟨_, rfl⟩
  obtain ⟨w1, hw1⟩ : ∃ w1, (w.alloc (.cells X1 29)).alloc (.cells X2 29) = w1 := ⟨_, rfl⟩
  have hb1 : Below w.heap.size w w1 := hw1 ▸ (below_new w _).alloc (by simp) _
  have k1 : Bk w1 z 29 (dl tb) := hw1 ▸ (Bk.at_ w _ X1 hz (by rw [← hX1])).alloc _
  have k2 : Bk w1 (z + 1) 29 (dl ky) := hw1 ▸ Bk.at_ _ _ X2 (by simp [hz]) (by rw [← hX2])
  have HW := Lib.hid hw1; have HBB1 := Lib.hid hb1; have H11 := Lib.hid k1; have H21 := Lib.hid k2
  have HX1 := Lib.hid (hx.later hb1); have HK1 := Lib.hid (hbk.later hb1); have HTO := Lib.hid htb; have HKO := Lib.hid hky; have HLN := Lib.hid hx.length
  rw [hX1, hX2]
  clear hX1 hX2 hw1 hb1 k1 k2 hbk hx htb hky
  go_enter Try.func40, Try.ntmps40
  go_wp2_with fail
  rw [HW.out]
  go_step3
  go_wp2_with fail
  go_step3
  go_wp2_with fail
  go_loopw [11, 12, 13, 18] (fun iv jv sv kv wr => ∃ k : Nat, k ≤ N ∧ kv = .int .i64 k ∧ iv = .int .i64 0 ∧ jv = .int .i64 0 ∧ sv = .bool false ∧ Hid (∀ k', k' < k → ∀ m, m < k' → twI es tb ky xs m k' ≠ 0) ∧ Hid (Below w1.heap.size w1 wr)) (fun _ _ _ kv _ => N - (intOf kv).toNat)
  case atStart => exact ⟨0, Nat.zero_le _, rfl, rfl, rfl, rfl, fun k' h => absurd h (by omega), Below.refl _ _⟩
  case round =>
    obtain ⟨k, hk, rfl, rfl, rfl, rfl, HJ, HB⟩ := hrel
    by_cases hlt : k < N
    · have hki : (k : Int) < N := by omega
      have hk0 : (0 : Int) ≤ k := by omega
      go_wp2_with fail
      go_loopw [11, 12, 13, 22] (fun fv sv bv iv wr => ∃ i : Nat, i ≤ k ∧ iv = .int .i64 i ∧ fv = .int .i64 0 ∧ sv = .int .i64 0 ∧ bv = .bool false ∧ Hid (∀ m, m < i → twI es tb ky xs m k ≠ 0) ∧ Hid (Below w1.heap.size w1 wr)) (fun _ _ _ iv _ => k - (intOf iv).toNat)
      case atStart => exact ⟨0, Nat.zero_le _, rfl, rfl, rfl, rfl, fun m h => absurd h (by omega), HB.out⟩
      case round =>
        clear HB
        obtain ⟨i, hi, rfl, rfl, rfl, rfl, HI, HB⟩ := hrel
        by_cases hil : i < k
        · have hii : (i : Int) < k := by omega
          have hi0 : (0 : Int) ≤ i := by omega
          have hiN : (i : Int) < N := by omega
          obtain ⟨x, hx⟩ : ∃ x, xs[i]? = some x := ⟨xs[i]'(by rw [HLN.out]; omega), List.getElem?_eq_getElem _⟩
          obtain ⟨y, hy⟩ : ∃ y, xs[k]? = some y := ⟨xs[k]'(by rw [HLN.out]; omega), List.getElem?_eq_getElem _⟩
          have HTW : Hid (twI es tb ky xs i k = twT es tb ky x.2 y.2) := by show _ = _; rw [twI, hx, hy]
          have HX := Lib.hid ((HX1.out.later HB.out).th x (List.mem_of_getElem? hx))
          have HY := Lib.hid ((HX1.out.later HB.out).th y (List.mem_of_getElem? hy))
          obtain ⟨b, o, rfl, hrx⟩ := (HX1.out.later HB.out).at_ hx
          obtain ⟨b', o', e, hry⟩ := (HX1.out.later HB.out).at_ hy
          injection e with e; injection e with e1 e2; subst e1; subst e2
          have HRX := Lib.hid hrx; have HRY := Lib.hid hry
          have HKr := Lib.hid (HK1.out.later HB.out); have H1r := Lib.hid (H11.out.later HB.out); have H2r := Lib.hid (H21.out.later HB.out)
          clear hx hy hrx hry
          have hbl : b < wr.heap.size := by
            obtain ⟨v, hv⟩ : ∃ v, x.1[0]? = some v := ⟨x.1[0]'(by rw [HX.out.len]; omega), List.getElem?_eq_getElem _⟩
            exact World.block_lt_of_cell? wr ⟨b, _, none⟩ (HRX.out 0 v hv)
          have HTC := Lib.hid (twice_any wr.drew lo g es (HKr.out.later (below_draws wr _ 1)) hel tb ky HTO.out HKO.out x.1 y.1 x.2 y.2 (HX.out.later (below_draws wr _ 1)) (HY.out.later (below_draws wr _ 1)))
          obtain ⟨E, hE⟩ : ∃ E, twT es tb ky x.2 y.2 = E := ⟨_, rfl⟩
          rw [hE] at HTC HTW
          clear hE
          go_wp2_with fail
          refine wp_region_held_drew (S := fun w' => Bk w' z 29 (dl tb) ∧ Bk w' (z + 1) 29 (dl ky) ∧ w'.rangeAt b (o + i * 30) x.1 ∧ w'.rangeAt b (o + k * 30) y.1) (by kernel_rfl) ⟨Bk.drew H1r.out, Bk.drew H2r.out, range_later HRX.out (below_draws wr _ 1) hbl, range_later HRY.out (below_draws wr _ 1) hbl⟩ (fun hHeld => ?_)
          refine wpAnyH_take (i := 0) (v := ?_) rfl (by kernel_rfl) (by kernel_rfl) (by kernel_rfl) (fun _ _ _ h => h) (Or.inl ⟨by rfl, ?_⟩) (by assumption) ?_
          rotate_left
          · intro w hSw
            (try dsimp only at hSw)
            go_simp
            try with_reducible rfl
          try simp only [Act.put, List.setIfInBounds_toArray, List.set_cons_zero, List.set_cons_succ, List.getElem_toArray, List.getElem_cons_zero, List.getElem_cons_succ]
          refine wpAnyH_take (i := 1) (v := .agg (List.toArray (dl tb))) rfl (by kernel_rfl) (by kernel_rfl) (by kernel_rfl) (fun _ _ _ h => h) (yieldsIf_load_mid (by rfl) _ _ rfl _ _ rfl (dl tb) _ (fun w hSw => (Bk.range (pre := []) (post := []) (by simpa using hSw.1) rfl)) Try.underlying29 rfl ((dg_sz HTO.out))) (by assumption) ?_
          try simp only [Act.put, List.setIfInBounds_toArray, List.set_cons_zero, List.set_cons_succ, List.getElem_toArray, List.getElem_cons_zero, List.getElem_cons_succ]
          refine wpAnyH_take (i := 2) (v := .agg (List.toArray (dl ky))) rfl (by kernel_rfl) (by kernel_rfl) (by kernel_rfl) (fun _ _ _ h => h) (yieldsIf_load_mid (by rfl) _ _ rfl _ _ rfl (dl ky) _ (fun w hSw => (Bk.range (pre := []) (post := []) (by simpa using hSw.2.1) rfl)) Try.underlying29 rfl ((dg_sz HKO.out))) (by assumption) ?_
          try simp only [Act.put, List.setIfInBounds_toArray, List.set_cons_zero, List.set_cons_succ, List.getElem_toArray, List.getElem_cons_zero, List.getElem_cons_succ]
          refine wpAnyH_take (i := 3) (v := ?_) rfl (by kernel_rfl) (by kernel_rfl) (by kernel_rfl) (fun _ _ _ h => h) (Or.inl ⟨by rfl, ?_⟩) (by assumption) ?_
          rotate_left
          · intro w hSw
            (try dsimp only at hSw)
            go_simp
            try with_reducible rfl
          try simp only [Act.put, List.setIfInBounds_toArray, List.set_cons_zero, List.set_cons_succ, List.getElem_toArray, List.getElem_cons_zero, List.getElem_cons_succ]
          refine wpAnyH_take (i := 4) (v := ?_) rfl (by kernel_rfl) (by kernel_rfl) (by kernel_rfl) (fun _ _ _ h => h) (Or.inl ⟨by rfl, ?_⟩) (by assumption) ?_
          rotate_left
          · intro w hSw
            (try dsimp only at hSw)
            go_simp
            try with_reducible rfl
          try simp only [Act.put, List.setIfInBounds_toArray, List.set_cons_zero, List.set_cons_succ, List.getElem_toArray, List.getElem_cons_zero, List.getElem_cons_succ]
          refine wpAnyH_take (i := 7) (v := ?_) rfl (by kernel_rfl) (by kernel_rfl) (by kernel_rfl) (fun _ _ _ h => h) (Or.inl ⟨by rfl, ?_⟩) (by assumption) ?_
          rotate_left
          · intro w hSw
            (try dsimp only at hSw)
            go_simp
            try with_reducible rfl
          try simp only [Act.put, List.setIfInBounds_toArray, List.set_cons_zero, List.set_cons_succ, List.getElem_toArray, List.getElem_cons_zero, List.getElem_cons_succ]
          refine wpAnyH_take (i := 8) (v := ?_) rfl (by kernel_rfl) (by kernel_rfl) (by kernel_rfl) (fun _ _ _ h => h) (Or.inl ⟨by rfl, ?_⟩) (by assumption) ?_
          rotate_left
          · intro w hSw
            (try dsimp only at hSw)
            go_simp
            try with_reducible rfl
          try simp only [Act.put, List.setIfInBounds_toArray, List.set_cons_zero, List.set_cons_succ, List.getElem_toArray, List.getElem_cons_zero, List.getElem_cons_succ]
          refine wpAnyH_take (i := 5) (v := ?_) rfl (by kernel_rfl) (by kernel_rfl) (by kernel_rfl) (fun _ _ _ h => h) (Or.inl ⟨by rfl, ?_⟩) (by assumption) ?_
          rotate_left
          · intro w hSw
            (try dsimp only at hSw)
            go_simp
            try with_reducible rfl
          try simp only [Act.put, List.setIfInBounds_toArray, List.set_cons_zero, List.set_cons_succ, List.getElem_toArray, List.getElem_cons_zero, List.getElem_cons_succ]
          refine wpAnyH_take (i := 9) (v := ?_) rfl (by kernel_rfl) (by kernel_rfl) (by kernel_rfl) (fun _ _ _ h => h) (Or.inl ⟨by rfl, ?_⟩) (by assumption) ?_
          rotate_left
          · intro w hSw
            (try dsimp only at hSw)
            go_simp
            try with_reducible rfl
          try simp only [Act.put, List.setIfInBounds_toArray, List.set_cons_zero, List.set_cons_succ, List.getElem_toArray, List.getElem_cons_zero, List.getElem_cons_succ]
          refine wpAnyH_take (i := 6) (v := .agg (List.toArray (x.1))) rfl (by kernel_rfl) (by kernel_rfl) (by kernel_rfl) (fun _ _ _ h => h) (yieldsIf_load_mid (by rfl) _ _ rfl _ _ rfl (x.1) _ (fun w hSw => hSw.2.2.1) Try.underlying35 rfl (HX.out.info)) (by assumption) ?_
          try simp only [Act.put, List.setIfInBounds_toArray, List.set_cons_zero, List.set_cons_succ, List.getElem_toArray, List.getElem_cons_zero, List.getElem_cons_succ]
          refine wpAnyH_take (i := 10) (v := .agg (List.toArray (y.1))) rfl (by kernel_rfl) (by kernel_rfl) (by kernel_rfl) (fun _ _ _ h => h) (yieldsIf_load_mid (by rfl) _ _ rfl _ _ rfl (y.1) _ (fun w hSw => hSw.2.2.2) Try.underlying35 rfl (HY.out.info)) (by assumption) ?_
          try simp only [Act.put, List.setIfInBounds_toArray, List.set_cons_zero, List.set_cons_succ, List.getElem_toArray, List.getElem_cons_zero, List.getElem_cons_succ]
          refine wpAnyH_ready (rs := [11]) (by kernel_rfl) (by simp) ?_
          refine AllReadyH.cons rfl (fun K hK => ?_) AllReadyH.nil
          go_simp
          (go_at_call 35; refine HTC.out.mono ?_; rintro e w2 ⟨rfl, hbn⟩; have hbn := (below_draws wr _ 1).trans hbn; have HB2 := Lib.hid (HB.out.trans (hbn.mono HB.out.size)); have hS2 := And.intro (H1r.out.later hbn) (And.intro (H2r.out.later hbn) (And.intro (range_later HRX.out hbn hbl) (range_later HRY.out hbn hbl))); clear hbn)
          refine hK.out _ _ (hS2) (fun hHeld => ?_)
          clear hK K
          try simp only [Act.put, List.setIfInBounds_toArray, List.set_cons_zero, List.set_cons_succ, List.getElem_toArray, List.getElem_cons_zero, List.getElem_cons_succ]
          clear hS2
          by_cases h0 : E = 0
          · have h1 : (E == 0) = true := by simp [h0]
            have HF : Hid (FindR N (twI es tb ky xs) i k true) := .inl ⟨rfl, hil, hlt, HTW.out.trans h0, HJ.out, HI.out⟩
            clear h0
            refine wpAnyH_take (i := 12) (v := ?_) rfl (by kernel_rfl) (by kernel_rfl) (by kernel_rfl) (fun _ _ _ h => h) (Or.inl ⟨by rfl, ?_⟩) (by assumption) ?_
            rotate_left
            · intro w hSw
              (try dsimp only at hSw)
              go_simp
              try with_reducible rfl
            try simp only [Act.put, List.setIfInBounds_toArray, List.set_cons_zero, List.set_cons_succ, List.getElem_toArray, List.getElem_cons_zero, List.getElem_cons_succ]
            refine wpAnyH_done (by kernel_rfl) ?_ _
            clear hHeld
            go_wp2_with fail
            go_ret3
            exact ⟨i, k, true, rfl, HF.out, below_then HBB1.out HB2.out⟩
          · have h1 : (E == 0) = false := by simpa using h0
            have HI2 : Hid (∀ m, m < i + 1 → twI es tb ky xs m k ≠ 0) := fun m hm => by
              by_cases h : m = i
              · subst h; rw [HTW.out]; exact h0
              · exact HI.out m (by omega)
            clear h0
            refine wpAnyH_take (i := 12) (v := ?_) rfl (by kernel_rfl) (by kernel_rfl) (by kernel_rfl) (fun _ _ _ h => h) (Or.inl ⟨by rfl, ?_⟩) (by assumption) ?_
            rotate_left
            · intro w hSw
              (try dsimp only at hSw)
              go_simp
              try with_reducible rfl
            try simp only [Act.put, List.setIfInBounds_toArray, List.set_cons_zero, List.set_cons_succ, List.getElem_toArray, List.getElem_cons_zero, List.getElem_cons_succ]
            refine wpAnyH_done (by kernel_rfl) ?_ _
            clear hHeld
            go_wp2_with fail
            go_roundw
            case rel => exact ⟨i + 1, by omega, by go_num, rfl, rfl, rfl, HI2.out, HB2.out⟩
            case measure => simp [intOf]; omega
        · have hik : k = i := by omega
          subst hik
          have HJ2 : Hid (∀ k', k' < k + 1 → ∀ m, m < k' → twI es tb ky xs m k' ≠ 0) := fun k' hk' m hm => by
            by_cases h : k' = k
            · subst h; exact HI.out m hm
            · exact HJ.out k' (by omega) m hm
          go_wp2_with fail
          go_roundw
          case rel => exact ⟨k + 1, by omega, by go_num, rfl, rfl, rfl, HJ2.out, HB.out⟩
          case measure => simp [intOf]; omega
    · have hkk : N = k := by omega
      subst hkk
      go_wp2_with fail
      go_ret3
      exact ⟨0, 0, false, rfl, .inr ⟨rfl, rfl, rfl, HJ.out⟩, below_then HBB1.out HB.out⟩
end Go.Proofs.Ythibihjblodfmaa
