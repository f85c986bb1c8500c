/- Blocks compared: the program's and the document's. -/
import Derived.Test.YtbpmomedhdmloaaDoorBH
namespace Go.Proofs.YtbpmomedhdmloaaDoor
set_option linter.unusedSimpArgs false
set_option linter.unusedVariables false
open Go.RowKit Go.Maps

def sameL : List TxT → List TxT → Bool
  | [], [] => true
  | t :: l, u :: l' => sameT t u && sameL l l'
  | _, _ => false
theorem sameL_no : ∀ (i : Nat) {L L' : List TxT} {t u : TxT}, L[i]? = some t → L'[i]? = some u → sameT t u = false → sameL L L' = false
  | 0, t :: l, u :: l', _, _, h1, h2, h3 => by
    simp at h1 h2; subst h1; subst h2
    rw [sameL, h3, Bool.false_and]
  | i + 1, t :: l, u :: l', _, _, h1, h2, h3 => by
    rw [sameL, sameL_no i (L := l) (L' := l') (by simpa using h1) (by simpa using h2) h3, Bool.and_false]
  | i, [], _, _, _, h1, _, _ => by simp at h1
  | i, _ :: _, [], _, _, _, h2, _ => by simp at h2
theorem sameL_yes : ∀ {L L' : List TxT}, L.length = L'.length → (∀ (i : Nat) (t u : TxT), L[i]? = some t → L'[i]? = some u → sameT t u = true) → sameL L L' = true
  | [], [], _, _ => rfl
  | t :: l, u :: l', h, k => by
    rw [sameL, k 0 t u rfl rfl, Bool.true_and]
    exact sameL_yes (by simpa using h) (fun i t' u' h1 h2 => k (i + 1) t' u' (by simpa using h1) (by simpa using h2))
  | [], _ :: _, h, _ => by simp at h
  | _ :: _, [], h, _ => by simp at h
theorem sameT_refl (t : TxT) : sameT t t = true := by unfold sameT; simp [eqL_self]
theorem sameL_refl (L : List TxT) : sameL L L = true := sameL_yes rfl (fun i t u h1 h2 => by rw [h1] at h2; injection h2 with h2; subst h2; exact sameT_refl t)
def sameB (p : List Int) (h : Int) (m : List Int) (L : List TxT) (p' : List Int) (h' : Int) (m' : List Int) (L' : List TxT) : Bool :=
  eqL p p' && (h == h') && eqL m m' && decide (L.length = L'.length) && sameL L L'
set_option maxRecDepth 20000 in
set_option maxHeartbeats 8000000 in
theorem bSame_any (w : World) (p : List Int) (h : Int) (m : List Int) (hp : DgOk p) (hm : DgOk m) (A : Option Addr) (N C : Nat) (xs : List (List Value × TxT)) (hx : Txs w A N xs)
    (p' : List Int) (h' : Int) (m' : List Int) (hp' : DgOk p') (hm' : DgOk m') (A' : Option Addr) (N' C' : Nat) (ys : List (List Value × TxT)) (hy : Txs w A' N' ys) :
    Calls Tryd.prog 19 #[.agg (bkC p h m (.slice A N C)).toArray, .agg (bkC p' h' m' (.slice A' N' C')).toArray] w fun e w' => e = .returned (.bool (sameB p h m (xs.map (·.2)) p' h' m' (ys.map (·.2)))) ∧ Below w.heap.size w w' := by
  have HBS := Lib.hid (bk_fit (p := p) (h := h) (m := m) (A := A) (N := N) (C := C) hp hm)
  have HBS' := Lib.hid (bk_fit (p := p') (h := h') (m := m') (A := A') (N := N') (C := C') hp' hm')
  obtain ⟨l, hl⟩ : ∃ x, bkC p h m (.slice A N C) = x := ⟨_, rfl⟩
  obtain ⟨X, hX⟩ : ∃ X, l.toArray = X := ⟨_, rfl⟩
  obtain ⟨l', hl'⟩ : ∃ x, bkC p' h' m' (.slice A' N' C') = x := ⟨_, rfl⟩
  obtain ⟨Y, hY⟩ : ∃ X, l'.toArray = X := ⟨_, rfl⟩
  obtain ⟨z, hz⟩ : ∃ z, w.heap.size = z := ⟨_, rfl⟩
  obtain ⟨w1, hw1⟩ : ∃ w1, (w.alloc (.cells X 31)).alloc (.cells Y 31) = w1 := ⟨_, rfl⟩
  have hb1 : Below w.heap.size w w1 := hw1 ▸ (below_new w _).alloc (by simp) _
  have kx : Bk w1 z 31 l := hw1 ▸ (Bk.at_ w _ X hz (by rw [← hX])).alloc _
  have ky : Bk w1 (z + 1) 31 l' := hw1 ▸ Bk.at_ _ _ Y (by simp [hz]) (by rw [← hY])
  have HM : Hid (∀ w' g', Bk w' g' 31 l → BkcM w' g' p h m (.slice A N C)) := fun w' g' k => by rw [← hl] at k; exact bkc_mem hp hm k
  have HM' : Hid (∀ w' g', Bk w' g' 31 l' → BkcM w' g' p' h' m' (.slice A' N' C')) := fun w' g' k => by rw [← hl'] at k; exact bkc_mem hp' hm' k
  have hm1 := HM.out _ _ kx; have hm2 := HM'.out _ _ ky
  have c8 := hm1.c8; have c17 := hm1.c17; have d8 := hm2.c8; have d17 := hm2.c17
  have HR0 := Lib.hid hm1.r0; have HR9 := Lib.hid hm1.r9; have HR0' := Lib.hid hm2.r0; have HR9' := Lib.hid hm2.r9
  have HW := Lib.hid hw1; have HBB1 := Lib.hid hb1; have HZ := Lib.hid hz; have HK1 := Lib.hid kx; have HK1' := Lib.hid ky
  have HXS := Lib.hid (hx.later hb1); have HYS := Lib.hid (hy.later hb1); have HLN := Lib.hid hx.length; have HLN' := Lib.hid hy.length
  have HPO := Lib.hid hp; have HMO := Lib.hid hm; have HPO' := Lib.hid hp'; have HMO' := Lib.hid hm'
  have heq := dg_eqb p p' hp hp'
  have heq2 := dg_eqb m m' hm hm'
  obtain ⟨L, hL⟩ : ∃ L, xs.map (·.2) = L := ⟨_, rfl⟩
  obtain ⟨L', hL'⟩ : ∃ L, ys.map (·.2) = L := ⟨_, rfl⟩
  have hl1 : L.length = N := by rw [← hL, List.length_map, hx.length]
  have hl2 : L'.length = N' := by rw [← hL', List.length_map, hy.length]
  rw [hl, hX, hl', hY, hL, hL']
  have HLL := Lib.hid hL; have HLL' := Lib.hid hL'; have HL1 := Lib.hid hl1; have HL2 := Lib.hid hl2
  have HSM : Hid (sameB p h m L p' h' m' L' = (eqL p p' && (h == h') && eqL m m' && decide ((N : Int) = N') && sameL L L')) := by
    show _ = _
    rw [sameB, hl1, hl2]
    congr 2
    apply decide_eq_decide.2
    omega
  obtain ⟨b1, hb1'⟩ : ∃ b, eqL p p' = b := ⟨_, rfl⟩
  obtain ⟨b2, hb2⟩ : ∃ b, (h == h') = b := ⟨_, rfl⟩
  obtain ⟨b3, hb3⟩ : ∃ b, eqL m m' = b := ⟨_, rfl⟩
  rw [hb1', hb2, hb3] at HSM
  rw [hb1'] at heq
  rw [hb3] at heq2
  have hne : (h != h') = !b2 := by rw [bne, hb2]
  clear hl hX hl' hY hw1 hb1 kx ky hm1 hm2 hz hp hm hp' hm' hx hy hL hL' hl1 hl2 hb1' hb3
  cases b1
  ·
    go_enter Tryd.func19, Tryd.ntmps19
    go_upto_region 1 with fail
    rw [HW.out, HZ.out]
    go_wp2_with (first
      | (with_reducible refine wpList_load_mid rfl 28 _ rfl z 0 rfl (dl p) _ HR0.out Tryd.underlying28 rfl (hdg_size _ HPO.out) ?_)
      | (with_reducible refine wpList_load_mid rfl 28 _ rfl (z + 1) 0 rfl (dl p') _ HR0'.out Tryd.underlying28 rfl (hdg_size _ HPO'.out) ?_)
      | ((with_reducible refine wpList_load_midG2 ?_ 28 _ rfl z 9 rfl (dl m) _ HR9.out Tryd.underlying28 rfl (hdg_size _ HMO.out) ?_); rfl)
      | ((with_reducible refine wpList_load_midG2 ?_ 28 _ rfl (z + 1) 9 rfl (dl m') _ HR9'.out Tryd.underlying28 rfl (hdg_size _ HMO'.out) ?_); rfl))
    go_ret
    exact ⟨by rw [HSM.out]; rfl, HBB1.out⟩
  cases b2
  ·
    go_enter Tryd.func19, Tryd.ntmps19
    go_upto_region 1 with fail
    rw [HW.out, HZ.out]
    go_wp2_with (first
      | (with_reducible refine wpList_load_mid rfl 28 _ rfl z 0 rfl (dl p) _ HR0.out Tryd.underlying28 rfl (hdg_size _ HPO.out) ?_)
      | (with_reducible refine wpList_load_mid rfl 28 _ rfl (z + 1) 0 rfl (dl p') _ HR0'.out Tryd.underlying28 rfl (hdg_size _ HPO'.out) ?_)
      | ((with_reducible refine wpList_load_midG2 ?_ 28 _ rfl z 9 rfl (dl m) _ HR9.out Tryd.underlying28 rfl (hdg_size _ HMO.out) ?_); rfl)
      | ((with_reducible refine wpList_load_midG2 ?_ 28 _ rfl (z + 1) 9 rfl (dl m') _ HR9'.out Tryd.underlying28 rfl (hdg_size _ HMO'.out) ?_); rfl))
    go_ret
    exact ⟨by rw [HSM.out]; rfl, HBB1.out⟩
  cases b3
  ·
    go_enter Tryd.func19, Tryd.ntmps19
    go_upto_region 1 with fail
    rw [HW.out, HZ.out]
    go_wp2_with (first
      | (with_reducible refine wpList_load_mid rfl 28 _ rfl z 0 rfl (dl p) _ HR0.out Tryd.underlying28 rfl (hdg_size _ HPO.out) ?_)
      | (with_reducible refine wpList_load_mid rfl 28 _ rfl (z + 1) 0 rfl (dl p') _ HR0'.out Tryd.underlying28 rfl (hdg_size _ HPO'.out) ?_)
      | ((with_reducible refine wpList_load_midG2 ?_ 28 _ rfl z 9 rfl (dl m) _ HR9.out Tryd.underlying28 rfl (hdg_size _ HMO.out) ?_); rfl)
      | ((with_reducible refine wpList_load_midG2 ?_ 28 _ rfl (z + 1) 9 rfl (dl m') _ HR9'.out Tryd.underlying28 rfl (hdg_size _ HMO'.out) ?_); rfl))
    go_ret
    exact ⟨by rw [HSM.out]; rfl, HBB1.out⟩
  by_cases hNN : (N : Int) = N'
  rotate_left
  · have HSM : Hid (sameB p h m L p' h' m' L' = false) := by have := HSM.out; rw [decide_eq_false hNN] at this; exact this
    have hn1 : ((N : Int) != N') = true := by simp [hNN]
    go_enter Tryd.func19, Tryd.ntmps19
    go_upto_region 1 with fail
    rw [HW.out, HZ.out]
    go_wp2_with (first
      | (with_reducible refine wpList_load_mid rfl 28 _ rfl z 0 rfl (dl p) _ HR0.out Tryd.underlying28 rfl (hdg_size _ HPO.out) ?_)
      | (with_reducible refine wpList_load_mid rfl 28 _ rfl (z + 1) 0 rfl (dl p') _ HR0'.out Tryd.underlying28 rfl (hdg_size _ HPO'.out) ?_)
      | ((with_reducible refine wpList_load_midG2 ?_ 28 _ rfl z 9 rfl (dl m) _ HR9.out Tryd.underlying28 rfl (hdg_size _ HMO.out) ?_); rfl)
      | ((with_reducible refine wpList_load_midG2 ?_ 28 _ rfl (z + 1) 9 rfl (dl m') _ HR9'.out Tryd.underlying28 rfl (hdg_size _ HMO'.out) ?_); rfl))
    go_ret
    exact ⟨by rw [HSM.out]; rfl, HBB1.out⟩
  have HSM : Hid (sameB p h m L p' h' m' L' = sameL L L') := by have := HSM.out; rw [decide_eq_true hNN] at this; show _ = _; simpa using this
  have hNe : N = N' := by omega
  subst hNe
  have hn1 : ((N : Int) != N) = false := by simp
  clear hNN
  go_enter Tryd.func19, Tryd.ntmps19
  go_upto_region 1 with fail
  rw [HW.out, HZ.out]
  go_wp2_with (first
    | (with_reducible refine wpList_load_mid rfl 28 _ rfl z 0 rfl (dl p) _ HR0.out Tryd.underlying28 rfl (hdg_size _ HPO.out) ?_)
    | (with_reducible refine wpList_load_mid rfl 28 _ rfl (z + 1) 0 rfl (dl p') _ HR0'.out Tryd.underlying28 rfl (hdg_size _ HPO'.out) ?_)
    | ((with_reducible refine wpList_load_midG2 ?_ 28 _ rfl z 9 rfl (dl m) _ HR9.out Tryd.underlying28 rfl (hdg_size _ HMO.out) ?_); rfl)
    | ((with_reducible refine wpList_load_midG2 ?_ 28 _ rfl (z + 1) 9 rfl (dl m') _ HR9'.out Tryd.underlying28 rfl (hdg_size _ HMO'.out) ?_); rfl))
  go_loopw [5, 6, 38] (fun _ _ kv wr => ∃ k : Nat, k ≤ N ∧ kv = .int .i64 k ∧ Hid (∀ (i : Nat) (t u : TxT), i < k → L[i]? = some t → L'[i]? = some u → sameT t u = true) ∧ Hid (Below w1.heap.size w1 wr)) (fun _ _ kv _ => N - (intOf kv).toNat)
  case atStart => exact ⟨0, Nat.zero_le _, rfl, fun i t u hi => absurd hi (by omega), Below.refl _ _⟩
  case round =>
    obtain ⟨k, hk, rfl, HJ, HB⟩ := hrel
    have hNl : N ≤ 9223372036854775807 := HXS.out.sl.le
    by_cases hlt : k < N
    · have hki : (k : Int) < N := by omega
      have hk0 : (0 : Int) ≤ k := by omega
      obtain ⟨⟨cs, t⟩, hx⟩ : ∃ x, xs[k]? = some x := ⟨xs[k]'(by rw [HLN.out]; omega), List.getElem?_eq_getElem _⟩
      obtain ⟨⟨ds, u⟩, hy⟩ : ∃ x, ys[k]? = some x := ⟨ys[k]'(by rw [HLN'.out]; omega), List.getElem?_eq_getElem _⟩
      have hg : Txg wr cs t := (HXS.out.later HB.out).th (cs, t) (List.mem_of_getElem? hx)
      have hg' : Txg wr ds u := (HYS.out.later HB.out).th (ds, u) (List.mem_of_getElem? hy)
      obtain ⟨b, o, rfl, hr, hbl⟩ := HXS.out.at_ HB.out hx
      obtain ⟨b', o', rfl, hr', hbl'⟩ := HYS.out.at_ HB.out hy
      have hr : wr.rangeAt b (o + k * 13) cs := hr
      have hr' : wr.rangeAt b' (o' + k * 13) ds := hr'
      have hLk : L[k]? = some t := by rw [← HLL.out, List.getElem?_map, hx]; rfl
      have hLk' : L'[k]? = some u := by rw [← HLL'.out, List.getElem?_map, hy]; rfl
      have HG := Lib.hid hg; have HG' := Lib.hid hg'; have HR := Lib.hid hr; have HR' := Lib.hid hr'; have HLK := Lib.hid hLk; have HLK' := Lib.hid hLk'
      have HBL : Hid (b < wr.heap.size ∧ b' < wr.heap.size) := ⟨Nat.lt_of_lt_of_le hbl HB.out.size, Nat.lt_of_lt_of_le hbl' HB.out.size⟩
      have HKr := Lib.hid (HK1.out.later HB.out); have HKr' := Lib.hid (HK1'.out.later HB.out)
      clear hr hr' hx hy hg hg' hLk hLk' hbl hbl'
      go_wp2_with (first
        | (with_reducible refine wpList_load_mid rfl 47 _ rfl b (o + k * 13) rfl cs _ HR.out Tryd.underlying47 rfl HG.out.size ?_)
        | (with_reducible refine stop_store 47 _ _ rfl ?_))
      refine StopD.go ?_
      obtain ⟨g7, hg7⟩ : ∃ g, wr.heap.size = g := ⟨_, rfl⟩
      have hbn : Below wr.heap.size wr (wr.alloc (.cells #[.int .u8 0, .int .u8 0, .int .u8 0, .int .u8 0, .int .u8 0, .int .u8 0, .int .u8 0, .int .u8 0, .int .i64 0, .int .i64 0, .int .i64 0, .slice none 0 0, .slice none 0 0] 47)) := below_new wr _
      have kt : Bk (wr.alloc (.cells #[.int .u8 0, .int .u8 0, .int .u8 0, .int .u8 0, .int .u8 0, .int .u8 0, .int .u8 0, .int .u8 0, .int .i64 0, .int .i64 0, .int .i64 0, .slice none 0 0, .slice none 0 0] 47)) g7 47 ([] ++ (zTx ++ [])) := by rw [← hg7]; exact Bk.new' wr _ #[.int .u8 0, .int .u8 0, .int .u8 0, .int .u8 0, .int .u8 0, .int .u8 0, .int .u8 0, .int .u8 0, .int .i64 0, .int .i64 0, .int .i64 0, .slice none 0 0, .slice none 0 0] rfl
      rw [hg7]
      refine wpList_store_part rfl 47 _ _ rfl g7 0 (.agg (cs).toArray) (cs) rfl rfl rfl 47 [] zTx [] kt rfl (by rw [HG.out.len]; rfl) HG.out.size HG.out.one ?_
      intro w7 hp
      have hbn : Below wr.heap.size wr w7 := hbn.grown hp.only hbn.size (fun q hq => by injection hq with hq; omega)
      have HT7 : Hid (Bk w7 g7 47 (cs)) := by show Bk _ _ _ _; have := hp.bk; simpa using this
      clear hp kt hg7
      have HBL7 : Hid (b' < w7.heap.size) := Nat.lt_of_lt_of_le HBL.out.2 hbn.size
      have HR7' := Lib.hid (range_later HR'.out hbn HBL.out.2); have HKy := Lib.hid (HKr'.out.later hbn); have HB7 := Lib.hid (below_then HB.out hbn); have HG7 := Lib.hid (HG.out.later hbn); have HG7' := Lib.hid (HG'.out.later hbn)
      clear hbn
      go_wp2_with fail
      refine wp_region_held_drew (S := fun w' => Bk w' g7 47 cs ∧ Bk w' (z + 1) 31 l' ∧ w'.rangeAt b' (o' + k * 13) ds) (by kernel_rfl) ⟨Bk.drew HT7.out, Bk.drew HKy.out, HR7'.out⟩ (fun hHeld => ?_)
      have hbd : Below w7.heap.size w7 w7.drew := below_draws w7 w7.heap.size 1
      obtain ⟨wa, hwa⟩ : ∃ wa, w7.drew = wa := ⟨_, rfl⟩
      rw [hwa] at hbd hHeld ⊢
      have HBa := Lib.hid (below_then HB7.out hbd); have HTa := Lib.hid (HT7.out.later hbd); have HKa := Lib.hid (HKy.out.later hbd); have HRa := Lib.hid (range_later HR7'.out hbd HBL7.out); have HBLa : Hid (b' < wa.heap.size) := Nat.lt_of_lt_of_le HBL7.out hbd.size
      have HSC := Lib.hid (txSame_any wa cs t ds u (HG7.out.later hbd) (HG7'.out.later hbd))
      obtain ⟨E, hE⟩ : ∃ E, sameT t u = E := ⟨_, rfl⟩
      have HSE := Lib.hid hE
      rw [hE] at HSC
      clear hwa hbd hE
      refine wpAnyH_take (i := 0) (v := .agg (List.toArray (cs))) rfl (by kernel_rfl) (by kernel_rfl) (by kernel_rfl) (fun _ _ _ h => h) (yieldsIf_load_mid (by rfl) _ _ rfl _ _ rfl (cs) _ (fun w hSw => (Bk.range (pre := []) (post := []) (by simpa using hSw.1) rfl)) Tryd.underlying47 rfl (HG.out.size)) (by assumption) ?_
      try simp only [Act.put, List.setIfInBounds_toArray, List.set_cons_zero, List.set_cons_succ, List.getElem_toArray, List.getElem_cons_zero, List.getElem_cons_succ]
      refine wpAnyH_take (i := 1) (v := ?_) rfl (by kernel_rfl) (by kernel_rfl) (by kernel_rfl) (fun _ _ _ h => h) (Or.inl ⟨by rfl, ?_⟩) (by assumption) ?_
      rotate_left
      · intro w hSw
        (try dsimp only at hSw)
        go_simp
        try with_reducible rfl
      try simp only [Act.put, List.setIfInBounds_toArray, List.set_cons_zero, List.set_cons_succ, List.getElem_toArray, List.getElem_cons_zero, List.getElem_cons_succ]
      refine wpAnyH_take (i := 3) (v := ?_) rfl (by kernel_rfl) (by kernel_rfl) (by kernel_rfl) (fun _ _ _ h => h) (Or.inl ⟨by rfl, ?_⟩) (by assumption) ?_
      rotate_left
      · intro w hSw
        (try dsimp only at hSw)
        go_simp
        try with_reducible rfl
      try simp only [Act.put, List.setIfInBounds_toArray, List.set_cons_zero, List.set_cons_succ, List.getElem_toArray, List.getElem_cons_zero, List.getElem_cons_succ]
      refine wpAnyH_take (i := 2) (v := ?_) rfl (by kernel_rfl) (by kernel_rfl) (by kernel_rfl) (fun _ _ _ h => h) (Or.inl ⟨by rfl, ?_⟩) (by assumption) ?_
      rotate_left
      · intro w hSw
        have hcell := (HM'.out _ _ hSw.2.1).c17
        clear hSw
        go_simp
        try with_reducible rfl
      try simp only [Act.put, List.setIfInBounds_toArray, List.set_cons_zero, List.set_cons_succ, List.getElem_toArray, List.getElem_cons_zero, List.getElem_cons_succ]
      refine wpAnyH_take (i := 4) (v := ?_) rfl (by kernel_rfl) (by kernel_rfl) (by kernel_rfl) (fun _ _ _ h => h) (Or.inl ⟨by rfl, ?_⟩) (by assumption) ?_
      rotate_left
      · intro w hSw
        (try dsimp only at hSw)
        go_simp
        try with_reducible rfl
      try simp only [Act.put, List.setIfInBounds_toArray, List.set_cons_zero, List.set_cons_succ, List.getElem_toArray, List.getElem_cons_zero, List.getElem_cons_succ]
      refine wpAnyH_take (i := 5) (v := .agg (List.toArray (ds))) rfl (by kernel_rfl) (by kernel_rfl) (by kernel_rfl) (fun _ _ _ h => h) (yieldsIf_load_mid (by rfl) _ _ rfl _ _ rfl (ds) _ (fun w hSw => hSw.2.2) Tryd.underlying47 rfl (HG'.out.size)) (by assumption) ?_
      try simp only [Act.put, List.setIfInBounds_toArray, List.set_cons_zero, List.set_cons_succ, List.getElem_toArray, List.getElem_cons_zero, List.getElem_cons_succ]
      refine wpAnyH_ready (rs := [6]) (by kernel_rfl) (by simp) ?_
      refine AllReadyH.cons rfl (fun K hK => ?_) AllReadyH.nil
      go_simp
      (refine HSC.out.mono ?_; rintro e wb ⟨rfl, hbn⟩; have HBb := Lib.hid (below_then HBa.out hbn))
      refine hK.out _ _ (⟨HTa.out.later hbn, HKa.out.later hbn, range_later HRa.out hbn HBLa.out⟩) (fun hHeld => ?_)
      clear hK K
      try simp only [Act.put, List.setIfInBounds_toArray, List.set_cons_zero, List.set_cons_succ, List.getElem_toArray, List.getElem_cons_zero, List.getElem_cons_succ]
      refine wpAnyH_take (i := 7) (v := ?_) rfl (by kernel_rfl) (by kernel_rfl) (by kernel_rfl) (fun _ _ _ h => h) (Or.inl ⟨by rfl, ?_⟩) (by assumption) ?_
      rotate_left
      · intro w hSw
        (try dsimp only at hSw)
        go_simp
        try with_reducible rfl
      try simp only [Act.put, List.setIfInBounds_toArray, List.set_cons_zero, List.set_cons_succ, List.getElem_toArray, List.getElem_cons_zero, List.getElem_cons_succ]
      refine wpAnyH_done rfl ?_ _
      clear HTa HKa HRa HBa HSC
      cases E
      · have HSM : Hid (sameB p h m L p' h' m' L' = false) := HSM.out.trans (sameL_no k HLK.out HLK'.out HSE.out)
        go_wp2_with fail
        go_ret
        exact ⟨by rw [HSM.out]; rfl, below_then HBB1.out HBb.out⟩
      · have HJ' : Hid (∀ (i : Nat) (t u : TxT), i < k + 1 → L[i]? = some t → L'[i]? = some u → sameT t u = true) := fun i t' u' hi h1 h2 => by
          rcases Nat.lt_or_ge i k with h3 | h3
          · exact HJ.out i t' u' h3 h1 h2
          · obtain rfl : i = k := by omega
            rw [HLK.out] at h1; rw [HLK'.out] at h2
            injection h1 with h1; injection h2 with h2; subst h1; subst h2
            exact HSE.out
        go_wp2_with fail
        go_roundw
        case rel => exact ⟨k + 1, hlt, by go_num, HJ', HBb⟩
        case measure => simp [intOf]; omega
    · have hki : ¬ ((k : Int) < N) := by omega
      obtain rfl : k = N := by omega
      have HSM : Hid (sameB p h m L p' h' m' L' = true) := HSM.out.trans (sameL_yes (by rw [HL1.out, HL2.out]) (fun i t u h1 h2 => HJ.out i t u (by have := (List.getElem?_eq_some_iff.1 h1).1; rw [HL1.out] at this; exact this) h1 h2))
      go_wp2_with fail
      go_ret
      exact ⟨by rw [HSM.out]; rfl, below_then HBB1.out HB.out⟩
set_option maxRecDepth 20000 in
set_option maxHeartbeats 8000000 in
theorem rbSame_any (w : World) (p : List Int) (h : Int) (m : List Int) (hp : DgOk p) (hm : DgOk m) (A : Option Addr) (N C : Nat) (xs : List (List Value × TxT)) (hx : Txs w A N xs)
    (p' : List Int) (h' : Int) (m' : List Int) (hp' : DgOk p') (hm' : DgOk m') (A' : Option Addr) (N' C' : Nat) (ys : List (List Value × TxT)) (hy : Txs w A' N' ys) :
    Calls Tryd.prog 20 #[.agg (bkC p h m (.slice A N C)).toArray, .agg (bkC p' h' m' (.slice A' N' C')).toArray] w fun e w' => e = .returned (.bool (sameB p h m (xs.map (·.2)) p' h' m' (ys.map (·.2)))) ∧ Below w.heap.size w w' := by
  have HBS := Lib.hid (bk_fit (p := p) (h := h) (m := m) (A := A) (N := N) (C := C) hp hm)
  have HBS' := Lib.hid (bk_fit (p := p') (h := h') (m := m') (A := A') (N := N') (C := C') hp' hm')
  obtain ⟨l, hl⟩ : ∃ x, bkC p h m (.slice A N C) = x := ⟨_, rfl⟩
  obtain ⟨X, hX⟩ : ∃ X, l.toArray = X := ⟨_, rfl⟩
  obtain ⟨l', hl'⟩ : ∃ x, bkC p' h' m' (.slice A' N' C') = x := ⟨_, rfl⟩
  obtain ⟨Y, hY⟩ : ∃ X, l'.toArray = X := ⟨_, rfl⟩
  obtain ⟨z, hz⟩ : ∃ z, w.heap.size = z := ⟨_, rfl⟩
  obtain ⟨w1, hw1⟩ : ∃ w1, (w.alloc (.cells X 25)).alloc (.cells Y 25) = w1 := ⟨_, rfl⟩
  have hb1 : Below w.heap.size w w1 := hw1 ▸ (below_new w _).alloc (by simp) _
  have kx : Bk w1 z 25 l := hw1 ▸ (Bk.at_ w _ X hz (by rw [← hX])).alloc _
  have ky : Bk w1 (z + 1) 25 l' := hw1 ▸ Bk.at_ _ _ Y (by simp [hz]) (by rw [← hY])
  have HM : Hid (∀ w' g', Bk w' g' 25 l → BkcM w' g' p h m (.slice A N C)) := fun w' g' k => by rw [← hl] at k; exact bkc_mem hp hm k
  have HM' : Hid (∀ w' g', Bk w' g' 25 l' → BkcM w' g' p' h' m' (.slice A' N' C')) := fun w' g' k => by rw [← hl'] at k; exact bkc_mem hp' hm' k
  have hm1 := HM.out _ _ kx; have hm2 := HM'.out _ _ ky
  have c8 := hm1.c8; have c17 := hm1.c17; have d8 := hm2.c8; have d17 := hm2.c17
  have HR0 := Lib.hid hm1.r0; have HR9 := Lib.hid hm1.r9; have HR0' := Lib.hid hm2.r0; have HR9' := Lib.hid hm2.r9
  have HW := Lib.hid hw1; have HBB1 := Lib.hid hb1; have HZ := Lib.hid hz; have HK1 := Lib.hid kx; have HK1' := Lib.hid ky
  have HXS := Lib.hid (hx.later hb1); have HYS := Lib.hid (hy.later hb1); have HLN := Lib.hid hx.length; have HLN' := Lib.hid hy.length
  have HPO := Lib.hid hp; have HMO := Lib.hid hm; have HPO' := Lib.hid hp'; have HMO' := Lib.hid hm'
  have heq := rdg_eqb p p' hp hp'
  have heq2 := rdg_eqb m m' hm hm'
  obtain ⟨L, hL⟩ : ∃ L, xs.map (·.2) = L := ⟨_, rfl⟩
  obtain ⟨L', hL'⟩ : ∃ L, ys.map (·.2) = L := ⟨_, rfl⟩
  have hl1 : L.length = N := by rw [← hL, List.length_map, hx.length]
  have hl2 : L'.length = N' := by rw [← hL', List.length_map, hy.length]
  rw [hl, hX, hl', hY, hL, hL']
  have HLL := Lib.hid hL; have HLL' := Lib.hid hL'; have HL1 := Lib.hid hl1; have HL2 := Lib.hid hl2
  have HSM : Hid (sameB p h m L p' h' m' L' = (eqL p p' && (h == h') && eqL m m' && decide ((N : Int) = N') && sameL L L')) := by
    show _ = _
    rw [sameB, hl1, hl2]
    congr 2
    apply decide_eq_decide.2
    omega
  obtain ⟨b1, hb1'⟩ : ∃ b, eqL p p' = b := ⟨_, rfl⟩
  obtain ⟨b2, hb2⟩ : ∃ b, (h == h') = b := ⟨_, rfl⟩
  obtain ⟨b3, hb3⟩ : ∃ b, eqL m m' = b := ⟨_, rfl⟩
  rw [hb1', hb2, hb3] at HSM
  rw [hb1'] at heq
  rw [hb3] at heq2
  have hne : (h != h') = !b2 := by rw [bne, hb2]
  clear hl hX hl' hY hw1 hb1 kx ky hm1 hm2 hz hp hm hp' hm' hx hy hL hL' hl1 hl2 hb1' hb3
  cases b1
  ·
    go_enter Tryd.func20, Tryd.ntmps20
    go_upto_region 1 with fail
    rw [HW.out, HZ.out]
    go_wp2_with (first
      | (with_reducible refine wpList_load_mid rfl 22 _ rfl z 0 rfl (dl p) _ HR0.out Tryd.underlying22 rfl (r8d_size _ HPO.out) ?_)
      | (with_reducible refine wpList_load_mid rfl 22 _ rfl (z + 1) 0 rfl (dl p') _ HR0'.out Tryd.underlying22 rfl (r8d_size _ HPO'.out) ?_)
      | ((with_reducible refine wpList_load_midG2 ?_ 22 _ rfl z 9 rfl (dl m) _ HR9.out Tryd.underlying22 rfl (r8d_size _ HMO.out) ?_); rfl)
      | ((with_reducible refine wpList_load_midG2 ?_ 22 _ rfl (z + 1) 9 rfl (dl m') _ HR9'.out Tryd.underlying22 rfl (r8d_size _ HMO'.out) ?_); rfl))
    go_ret
    exact ⟨by rw [HSM.out]; rfl, HBB1.out⟩
  cases b2
  ·
    go_enter Tryd.func20, Tryd.ntmps20
    go_upto_region 1 with fail
    rw [HW.out, HZ.out]
    go_wp2_with (first
      | (with_reducible refine wpList_load_mid rfl 22 _ rfl z 0 rfl (dl p) _ HR0.out Tryd.underlying22 rfl (r8d_size _ HPO.out) ?_)
      | (with_reducible refine wpList_load_mid rfl 22 _ rfl (z + 1) 0 rfl (dl p') _ HR0'.out Tryd.underlying22 rfl (r8d_size _ HPO'.out) ?_)
      | ((with_reducible refine wpList_load_midG2 ?_ 22 _ rfl z 9 rfl (dl m) _ HR9.out Tryd.underlying22 rfl (r8d_size _ HMO.out) ?_); rfl)
      | ((with_reducible refine wpList_load_midG2 ?_ 22 _ rfl (z + 1) 9 rfl (dl m') _ HR9'.out Tryd.underlying22 rfl (r8d_size _ HMO'.out) ?_); rfl))
    go_ret
    exact ⟨by rw [HSM.out]; rfl, HBB1.out⟩
  cases b3
  ·
    go_enter Tryd.func20, Tryd.ntmps20
    go_upto_region 1 with fail
    rw [HW.out, HZ.out]
    go_wp2_with (first
      | (with_reducible refine wpList_load_mid rfl 22 _ rfl z 0 rfl (dl p) _ HR0.out Tryd.underlying22 rfl (r8d_size _ HPO.out) ?_)
      | (with_reducible refine wpList_load_mid rfl 22 _ rfl (z + 1) 0 rfl (dl p') _ HR0'.out Tryd.underlying22 rfl (r8d_size _ HPO'.out) ?_)
      | ((with_reducible refine wpList_load_midG2 ?_ 22 _ rfl z 9 rfl (dl m) _ HR9.out Tryd.underlying22 rfl (r8d_size _ HMO.out) ?_); rfl)
      | ((with_reducible refine wpList_load_midG2 ?_ 22 _ rfl (z + 1) 9 rfl (dl m') _ HR9'.out Tryd.underlying22 rfl (r8d_size _ HMO'.out) ?_); rfl))
    go_ret
    exact ⟨by rw [HSM.out]; rfl, HBB1.out⟩
  by_cases hNN : (N : Int) = N'
  rotate_left
  · have HSM : Hid (sameB p h m L p' h' m' L' = false) := by have := HSM.out; rw [decide_eq_false hNN] at this; exact this
    have hn1 : ((N : Int) != N') = true := by simp [hNN]
    go_enter Tryd.func20, Tryd.ntmps20
    go_upto_region 1 with fail
    rw [HW.out, HZ.out]
    go_wp2_with (first
      | (with_reducible refine wpList_load_mid rfl 22 _ rfl z 0 rfl (dl p) _ HR0.out Tryd.underlying22 rfl (r8d_size _ HPO.out) ?_)
      | (with_reducible refine wpList_load_mid rfl 22 _ rfl (z + 1) 0 rfl (dl p') _ HR0'.out Tryd.underlying22 rfl (r8d_size _ HPO'.out) ?_)
      | ((with_reducible refine wpList_load_midG2 ?_ 22 _ rfl z 9 rfl (dl m) _ HR9.out Tryd.underlying22 rfl (r8d_size _ HMO.out) ?_); rfl)
      | ((with_reducible refine wpList_load_midG2 ?_ 22 _ rfl (z + 1) 9 rfl (dl m') _ HR9'.out Tryd.underlying22 rfl (r8d_size _ HMO'.out) ?_); rfl))
    go_ret
    exact ⟨by rw [HSM.out]; rfl, HBB1.out⟩
  have HSM : Hid (sameB p h m L p' h' m' L' = sameL L L') := by have := HSM.out; rw [decide_eq_true hNN] at this; show _ = _; simpa using this
  have hNe : N = N' := by omega
  subst hNe
  have hn1 : ((N : Int) != N) = false := by simp
  clear hNN
  go_enter Tryd.func20, Tryd.ntmps20
  go_upto_region 1 with fail
  rw [HW.out, HZ.out]
  go_wp2_with (first
    | (with_reducible refine wpList_load_mid rfl 22 _ rfl z 0 rfl (dl p) _ HR0.out Tryd.underlying22 rfl (r8d_size _ HPO.out) ?_)
    | (with_reducible refine wpList_load_mid rfl 22 _ rfl (z + 1) 0 rfl (dl p') _ HR0'.out Tryd.underlying22 rfl (r8d_size _ HPO'.out) ?_)
    | ((with_reducible refine wpList_load_midG2 ?_ 22 _ rfl z 9 rfl (dl m) _ HR9.out Tryd.underlying22 rfl (r8d_size _ HMO.out) ?_); rfl)
    | ((with_reducible refine wpList_load_midG2 ?_ 22 _ rfl (z + 1) 9 rfl (dl m') _ HR9'.out Tryd.underlying22 rfl (r8d_size _ HMO'.out) ?_); rfl))
  clear c17 c8 d8 d17
  go_loopw [5] (fun kv wr => ∃ k : Nat, k ≤ N ∧ kv = .int .i64 k ∧ Hid (∀ (i : Nat) (t u : TxT), i < k → L[i]? = some t → L'[i]? = some u → sameT t u = true) ∧ Hid (Below w1.heap.size w1 wr)) (fun kv _ => N - (intOf kv).toNat)
  case atStart => exact ⟨0, Nat.zero_le _, rfl, fun i t u hi => absurd hi (by omega), Below.refl _ _⟩
  case round =>
    obtain ⟨k, hk, rfl, HJ, HB⟩ := hrel
    have hNl : N ≤ 9223372036854775807 := HXS.out.sl.le
    have c17 := (HM.out _ _ (HK1.out.later HB.out)).c17
    by_cases hlt : k < N
    · have hki : (k : Int) < N := by omega
      have hk0 : (0 : Int) ≤ k := by omega
      obtain ⟨⟨cs, t⟩, hx⟩ : ∃ x, xs[k]? = some x := ⟨xs[k]'(by rw [HLN.out]; omega), List.getElem?_eq_getElem _⟩
      obtain ⟨⟨ds, u⟩, hy⟩ : ∃ x, ys[k]? = some x := ⟨ys[k]'(by rw [HLN'.out]; omega), List.getElem?_eq_getElem _⟩
      have hg : Txg wr cs t := (HXS.out.later HB.out).th (cs, t) (List.mem_of_getElem? hx)
      have hg' : Txg wr ds u := (HYS.out.later HB.out).th (ds, u) (List.mem_of_getElem? hy)
      obtain ⟨b, o, rfl, hr, hbl⟩ := HXS.out.at_ HB.out hx
      obtain ⟨b', o', rfl, hr', hbl'⟩ := HYS.out.at_ HB.out hy
      have hr : wr.rangeAt b (o + k * 13) cs := hr
      have hr' : wr.rangeAt b' (o' + k * 13) ds := hr'
      have hLk : L[k]? = some t := by rw [← HLL.out, List.getElem?_map, hx]; rfl
      have hLk' : L'[k]? = some u := by rw [← HLL'.out, List.getElem?_map, hy]; rfl
      have HG := Lib.hid hg; have HG' := Lib.hid hg'; have HR := Lib.hid hr; have HR' := Lib.hid hr'; have HLK := Lib.hid hLk; have HLK' := Lib.hid hLk'
      have HBL : Hid (b < wr.heap.size ∧ b' < wr.heap.size) := ⟨Nat.lt_of_lt_of_le hbl HB.out.size, Nat.lt_of_lt_of_le hbl' HB.out.size⟩
      have HKr := Lib.hid (HK1.out.later HB.out); have HKr' := Lib.hid (HK1'.out.later HB.out)
      clear hr hr' hx hy hg hg' hLk hLk' hbl hbl'
      go_wp2_with fail
      refine wp_region_held_drew (S := fun w' => Bk w' z 25 l ∧ Bk w' (z + 1) 25 l' ∧ w'.rangeAt b (o + k * 13) cs ∧ w'.rangeAt b' (o' + k * 13) ds) (by kernel_rfl) ⟨Bk.drew HKr.out, Bk.drew HKr'.out, HR.out, HR'.out⟩ (fun hHeld => ?_)
      have hbd : Below wr.heap.size wr wr.drew := below_draws wr wr.heap.size 1
      obtain ⟨wa, hwa⟩ : ∃ wa, wr.drew = wa := ⟨_, rfl⟩
      rw [hwa] at hbd hHeld ⊢
      have HBa := Lib.hid (below_then HB.out hbd); have HKa := Lib.hid (HKr.out.later hbd); have HKa' := Lib.hid (HKr'.out.later hbd); have HRa := Lib.hid (range_later HR.out hbd HBL.out.1); have HRa' := Lib.hid (range_later HR'.out hbd HBL.out.2); have HBLa : Hid (b < wa.heap.size ∧ b' < wa.heap.size) := ⟨Nat.lt_of_lt_of_le HBL.out.1 hbd.size, Nat.lt_of_lt_of_le HBL.out.2 hbd.size⟩
      have HSC := Lib.hid (rtxSame_any wa cs t ds u (HG.out.later hbd) (HG'.out.later hbd))
      obtain ⟨E, hE⟩ : ∃ E, sameT t u = E := ⟨_, rfl⟩
      have HSE := Lib.hid hE
      rw [hE] at HSC
      clear hwa hbd hE c17
      refine wpAnyH_take (i := 0) (v := ?_) rfl (by kernel_rfl) (by kernel_rfl) (by kernel_rfl) (fun _ _ _ h => h) (Or.inl ⟨by rfl, ?_⟩) (by assumption) ?_
      rotate_left
      · intro w hSw
        (try dsimp only at hSw)
        go_simp
        try with_reducible rfl
      try simp only [Act.put, List.setIfInBounds_toArray, List.set_cons_zero, List.set_cons_succ, List.getElem_toArray, List.getElem_cons_zero, List.getElem_cons_succ]
      refine wpAnyH_take (i := 2) (v := ?_) rfl (by kernel_rfl) (by kernel_rfl) (by kernel_rfl) (fun _ _ _ h => h) (Or.inl ⟨by rfl, ?_⟩) (by assumption) ?_
      rotate_left
      · intro w hSw
        (try dsimp only at hSw)
        go_simp
        try with_reducible rfl
      try simp only [Act.put, List.setIfInBounds_toArray, List.set_cons_zero, List.set_cons_succ, List.getElem_toArray, List.getElem_cons_zero, List.getElem_cons_succ]
      refine wpAnyH_take (i := 5) (v := ?_) rfl (by kernel_rfl) (by kernel_rfl) (by kernel_rfl) (fun _ _ _ h => h) (Or.inl ⟨by rfl, ?_⟩) (by assumption) ?_
      rotate_left
      · intro w hSw
        (try dsimp only at hSw)
        go_simp
        try with_reducible rfl
      try simp only [Act.put, List.setIfInBounds_toArray, List.set_cons_zero, List.set_cons_succ, List.getElem_toArray, List.getElem_cons_zero, List.getElem_cons_succ]
      refine wpAnyH_take (i := 7) (v := ?_) rfl (by kernel_rfl) (by kernel_rfl) (by kernel_rfl) (fun _ _ _ h => h) (Or.inl ⟨by rfl, ?_⟩) (by assumption) ?_
      rotate_left
      · intro w hSw
        (try dsimp only at hSw)
        go_simp
        try with_reducible rfl
      try simp only [Act.put, List.setIfInBounds_toArray, List.set_cons_zero, List.set_cons_succ, List.getElem_toArray, List.getElem_cons_zero, List.getElem_cons_succ]
      refine wpAnyH_take (i := 1) (v := ?_) rfl (by kernel_rfl) (by kernel_rfl) (by kernel_rfl) (fun _ _ _ h => h) (Or.inl ⟨by rfl, ?_⟩) (by assumption) ?_
      rotate_left
      · intro w hSw
        have hcell := (HM.out _ _ hSw.1).c17
        clear hSw
        go_simp
        try with_reducible rfl
      try simp only [Act.put, List.setIfInBounds_toArray, List.set_cons_zero, List.set_cons_succ, List.getElem_toArray, List.getElem_cons_zero, List.getElem_cons_succ]
      refine wpAnyH_take (i := 6) (v := ?_) rfl (by kernel_rfl) (by kernel_rfl) (by kernel_rfl) (fun _ _ _ h => h) (Or.inl ⟨by rfl, ?_⟩) (by assumption) ?_
      rotate_left
      · intro w hSw
        have hcell := (HM'.out _ _ hSw.2.1).c17
        clear hSw
        go_simp
        try with_reducible rfl
      try simp only [Act.put, List.setIfInBounds_toArray, List.set_cons_zero, List.set_cons_succ, List.getElem_toArray, List.getElem_cons_zero, List.getElem_cons_succ]
      refine wpAnyH_take (i := 3) (v := ?_) rfl (by kernel_rfl) (by kernel_rfl) (by kernel_rfl) (fun _ _ _ h => h) (Or.inl ⟨by rfl, ?_⟩) (by assumption) ?_
      rotate_left
      · intro w hSw
        (try dsimp only at hSw)
        go_simp
        try with_reducible rfl
      try simp only [Act.put, List.setIfInBounds_toArray, List.set_cons_zero, List.set_cons_succ, List.getElem_toArray, List.getElem_cons_zero, List.getElem_cons_succ]
      refine wpAnyH_take (i := 8) (v := ?_) rfl (by kernel_rfl) (by kernel_rfl) (by kernel_rfl) (fun _ _ _ h => h) (Or.inl ⟨by rfl, ?_⟩) (by assumption) ?_
      rotate_left
      · intro w hSw
        (try dsimp only at hSw)
        go_simp
        try with_reducible rfl
      try simp only [Act.put, List.setIfInBounds_toArray, List.set_cons_zero, List.set_cons_succ, List.getElem_toArray, List.getElem_cons_zero, List.getElem_cons_succ]
      refine wpAnyH_take (i := 4) (v := .agg (List.toArray (cs))) rfl (by kernel_rfl) (by kernel_rfl) (by kernel_rfl) (fun _ _ _ h => h) (yieldsIf_load_mid (by rfl) _ _ rfl _ _ rfl (cs) _ (fun w hSw => hSw.2.2.1) Tryd.underlying42 rfl (HG.out.rsize)) (by assumption) ?_
      try simp only [Act.put, List.setIfInBounds_toArray, List.set_cons_zero, List.set_cons_succ, List.getElem_toArray, List.getElem_cons_zero, List.getElem_cons_succ]
      refine wpAnyH_take (i := 9) (v := .agg (List.toArray (ds))) rfl (by kernel_rfl) (by kernel_rfl) (by kernel_rfl) (fun _ _ _ h => h) (yieldsIf_load_mid (by rfl) _ _ rfl _ _ rfl (ds) _ (fun w hSw => hSw.2.2.2) Tryd.underlying42 rfl (HG'.out.rsize)) (by assumption) ?_
      try simp only [Act.put, List.setIfInBounds_toArray, List.set_cons_zero, List.set_cons_succ, List.getElem_toArray, List.getElem_cons_zero, List.getElem_cons_succ]
      refine wpAnyH_ready (rs := [10]) (by kernel_rfl) (by simp) ?_
      refine AllReadyH.cons rfl (fun K hK => ?_) AllReadyH.nil
      go_simp
      (refine HSC.out.mono ?_; rintro e wb ⟨rfl, hbn⟩; have HBb := Lib.hid (below_then HBa.out hbn))
      refine hK.out _ _ (⟨HKa.out.later hbn, HKa'.out.later hbn, range_later HRa.out hbn HBLa.out.1, range_later HRa'.out hbn HBLa.out.2⟩) (fun hHeld => ?_)
      clear hK K
      try simp only [Act.put, List.setIfInBounds_toArray, List.set_cons_zero, List.set_cons_succ, List.getElem_toArray, List.getElem_cons_zero, List.getElem_cons_succ]
      refine wpAnyH_take (i := 11) (v := ?_) rfl (by kernel_rfl) (by kernel_rfl) (by kernel_rfl) (fun _ _ _ h => h) (Or.inl ⟨by rfl, ?_⟩) (by assumption) ?_
      rotate_left
      · intro w hSw
        (try dsimp only at hSw)
        go_simp
        try with_reducible rfl
      try simp only [Act.put, List.setIfInBounds_toArray, List.set_cons_zero, List.set_cons_succ, List.getElem_toArray, List.getElem_cons_zero, List.getElem_cons_succ]
      refine wpAnyH_done rfl ?_ _
      clear HKa HKa' HRa HRa' HBa HSC
      cases E
      · have HSM : Hid (sameB p h m L p' h' m' L' = false) := HSM.out.trans (sameL_no k HLK.out HLK'.out HSE.out)
        go_wp2_with fail
        go_ret
        exact ⟨by rw [HSM.out]; rfl, below_then HBB1.out HBb.out⟩
      · have HJ' : Hid (∀ (i : Nat) (t u : TxT), i < k + 1 → L[i]? = some t → L'[i]? = some u → sameT t u = true) := fun i t' u' hi h1 h2 => by
          rcases Nat.lt_or_ge i k with h3 | h3
          · exact HJ.out i t' u' h3 h1 h2
          · obtain rfl : i = k := by omega
            rw [HLK.out] at h1; rw [HLK'.out] at h2
            injection h1 with h1; injection h2 with h2; subst h1; subst h2
            exact HSE.out
        go_wp2_with fail
        go_roundw
        case rel => exact ⟨k + 1, hlt, by go_num, HJ', HBb⟩
        case measure => simp [intOf]; omega
    · have hki : ¬ ((k : Int) < N) := by omega
      obtain rfl : k = N := by omega
      have HSM : Hid (sameB p h m L p' h' m' L' = true) := HSM.out.trans (sameL_yes (by rw [HL1.out, HL2.out]) (fun i t u h1 h2 => HJ.out i t u (by have := (List.getElem?_eq_some_iff.1 h1).1; rw [HL1.out] at this; exact this) h1 h2))
      go_wp2_with fail
      go_ret
      exact ⟨by rw [HSM.out]; rfl, below_then HBB1.out HB.out⟩
end Go.Proofs.YtbpmomedhdmloaaDoor
