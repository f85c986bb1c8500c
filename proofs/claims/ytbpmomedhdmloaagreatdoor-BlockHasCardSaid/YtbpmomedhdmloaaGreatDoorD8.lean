/- The document's Has and Path of a block; its Check of a path. -/
import Derived.Test.YtbpmomedhdmloaaGreatDoorD6
import Derived.Test.YtbpmomedhdmloaaGreatDoorBS
namespace Go.Proofs.YtbpmomedhdmloaaGreatDoor
set_option linter.unusedSimpArgs false
set_option linter.unusedVariables false
open Go.RowKit Go.Maps

/-- The document's place of a name. -/
def RHasP (L : List TxT) (d : List Int) (e : Ending) : Prop := ∃ k b, e = .returned (.int .i64 (if b = true then k else -1)) ∧ HasR L d k b
theorem RHasP.mk {L : List TxT} {d : List Int} {k n : Int} {b : Bool} (h : HasR L d k b) (hn : (if b = true then k else -1) = n) : RHasP L d (.returned (.int .i64 n)) := ⟨k, b, by rw [hn], h⟩
set_option maxRecDepth 20000 in
set_option maxHeartbeats 4000000 in
theorem rhas_any26 (w : World) (p : List Int) (h : Int) (m : List Int) (hp : DgOk p) (hm : DgOk m) (A : Option Addr) (N C : Nat) (xs : List (List Value × TxT)) (hx : Txs w A N xs) (hN : N ≤ 1000) (hl : ∀ x ∈ xs, x.2.b.length ≤ 1073741000 ∧ x.2.s.length ≤ 1073741000) (d : List Int) (hd : DgOk d) :
    Calls Tryz.prog 20 #[.agg (bkC p h m (.slice A N C)).toArray, .agg (dl d).toArray] w fun e w' => RHasP (xs.map (·.2)) d e ∧ Below w.heap.size w w' := by
  have HNM := Lib.hid (fun (w' : World) (hx' : Txs w' A N xs) => rnames_any w' p h m hp hm A N C xs hx' hN hl)
  have HBS := Lib.hid (rblk_sz (h := h) (s := .slice A N C) hp hm)
  obtain ⟨l, hl0⟩ : ∃ x, bkC p h m (.slice A N C) = x := ⟨_, rfl⟩
  obtain ⟨X, hX⟩ : ∃ X, l.toArray = X := ⟨_, rfl⟩
  obtain ⟨O, hO⟩ : ∃ X, (dl d).toArray = X := ⟨_, rfl⟩
  obtain ⟨z, hz⟩ : ∃ z, w.heap.size = z := ⟨_, rfl⟩
  obtain ⟨w1, hw1⟩ : ∃ w1, (w.alloc (.cells X 25)).alloc (.cells O 22) = w1 := ⟨_, rfl⟩
  have hb1 : Below w.heap.size w w1 := hw1 ▸ (below_new w _).alloc (by simp) _
  have kx : Bk w1 z 25 l := hw1 ▸ (Bk.at_ w _ X hz (by rw [← hX])).alloc _
  have kq : Bk w1 (z + 1) 22 (dl d) := hw1 ▸ Bk.at_ _ _ O (by simp [hz]) (by rw [← hO])
  have hLl : (xs.map (·.2)).length = N := by rw [List.length_map]; exact hx.length
  have HW := Lib.hid hw1; have HBB1 := Lib.hid hb1; have HZ := Lib.hid hz; have HK1 := Lib.hid kx; have HQ1 := Lib.hid kq; have HDO := Lib.hid hd
  have HXS := Lib.hid (hx.later hb1); have HNN : Hid (N ≤ 1000) := hN; have HXE := Lib.hid hX
  rw [hl0] at HNM HBS ⊢
  rw [hX] at HNM ⊢
  rw [hO]
  obtain ⟨L, hL⟩ : ∃ L, xs.map (·.2) = L := ⟨_, rfl⟩
  rw [hL] at HNM hLl ⊢
  have HLL := Lib.hid hLl
  clear hL hl0 hX hO hz hw1 hb1 kx kq hp hm hx hd hl hLl hN
  go_enter Tryz.func20, Tryz.ntmps20
  go_upto_region 1 with fail
  rw [HW.out, HZ.out]
  go_wp2_with (with_reducible refine wpList_load_bk rfl 25 _ rfl z rfl l 25 HK1.out _ Tryz.underlying25 rfl HBS.out ?_)
  rw [HXE.out]
  refine (HNM.out w1 HXS.out).mono ?_
  rintro e w2 ⟨⟨v, rfl, hown⟩, hbn⟩
  obtain ⟨A1, c1, rfl⟩ := own_form hown
  have HS := Lib.hid (Sl.of_own hown); have HB2 := Lib.hid (below_then HBB1.out hbn); have HQ2 := Lib.hid (HQ1.out.later hbn)
  have HO := Lib.hid (namesT_ok L)
  clear hown hbn HK1 HQ1
  go_wp2_with fail
  go_loopw [6] (fun kv wr => ∃ k : Nat, k ≤ N ∧ kv = .int .i64 k ∧ Hid (∀ (i : Nat) (u : TxT), i < k → L[i]? = some u → eqL (txN u) d = false) ∧ Hid (Below w2.heap.size w2 wr)) (fun kv _ => N - (intOf kv).toNat)
  case atStart => exact ⟨0, Nat.zero_le _, rfl, fun i u hi => absurd hi (by omega), Below.refl _ _⟩
  case round =>
    obtain ⟨k, hk, rfl, HJ, HB⟩ := hrel
    have hNl : N ≤ 1000 := HNN.out
    by_cases hlt : k < N
    · have hki : (k : Int) < N := by omega
      have hk0 : (0 : Int) ≤ k := by omega
      obtain ⟨t, ht⟩ : ∃ t, L[k]? = some t := ⟨L[k]'(by rw [HLL.out]; omega), List.getElem?_eq_getElem _⟩
      have htn : (namesT L)[k]? = some (txN t) := by rw [namesT, List.getElem?_map, ht]; rfl
      obtain ⟨b, o, rfl, _, _⟩ := (HS.out.later HB.out).spot (by omega) (by omega)
      have hr : wr.rangeAt b (o + k * 8) (dl (txN t)) := sl_dgl (HS.out.later HB.out) HO.out htn
      have HTO := Lib.hid (txN_ok t)
      have HLK := Lib.hid ht
      obtain ⟨T, hT⟩ : ∃ T, txN t = T := ⟨_, rfl⟩
      have HTT := Lib.hid hT
      rw [hT] at hr HTO
      have HR := Lib.hid hr; have HQr := Lib.hid (HQ2.out.later HB.out)
      have heq := rdg_eqb T d HTO.out HDO.out
      obtain ⟨E, hE⟩ : ∃ E, eqL T d = E := ⟨_, rfl⟩
      have HSE := Lib.hid hE
      rw [hE] at heq
      clear hE hT hr ht htn
      go_wp2_with fail
      refine wp_region_held_drew (S := fun w' => w'.rangeAt b (o + k * 8) (dl T) ∧ Bk w' (z + 1) 22 (dl d)) (by kernel_rfl) ⟨HR.out, Bk.drew HQr.out⟩ (fun hHeld => ?_)
      have hbn : Below wr.heap.size wr wr.drew := below_draws wr wr.heap.size 1
      obtain ⟨w6, hw6⟩ : ∃ wa, wr.drew = wa := ⟨_, rfl⟩
      rw [hw6] at hbn hHeld ⊢
      have HB6 := Lib.hid (below_then HB.out hbn)
      clear hw6 hbn HR HQr HB
      refine wpAnyH_take (i := 0) (v := ?_) rfl (by kernel_rfl) (by kernel_rfl) (by kernel_rfl) (fun _ _ _ h => h) (Or.inl ⟨by rfl, ?_⟩) (by assumption) ?_
      rotate_left
      · intro w hSw
        (try dsimp only at hSw)
        go_simp
        try with_reducible rfl
      try simp only [Act.put, List.setIfInBounds_toArray, List.set_cons_zero, List.set_cons_succ, List.getElem_toArray, List.getElem_cons_zero, List.getElem_cons_succ]
      refine wpAnyH_take (i := 1) (v := ?_) rfl (by kernel_rfl) (by kernel_rfl) (by kernel_rfl) (fun _ _ _ h => h) (Or.inl ⟨by rfl, ?_⟩) (by assumption) ?_
      rotate_left
      · intro w hSw
        (try dsimp only at hSw)
        go_simp
        try with_reducible rfl
      try simp only [Act.put, List.setIfInBounds_toArray, List.set_cons_zero, List.set_cons_succ, List.getElem_toArray, List.getElem_cons_zero, List.getElem_cons_succ]
      refine wpAnyH_take (i := 4) (v := .agg (List.toArray (dl d))) rfl (by kernel_rfl) (by kernel_rfl) (by kernel_rfl) (fun _ _ _ h => h) (yieldsIf_load_mid (by rfl) _ _ rfl _ _ rfl (dl d) _ (fun w hSw => (Bk.range (pre := []) (post := []) (by simpa using hSw.2) rfl)) Tryz.underlying22 rfl (rdg_szd HDO.out)) (by assumption) ?_
      try simp only [Act.put, List.setIfInBounds_toArray, List.set_cons_zero, List.set_cons_succ, List.getElem_toArray, List.getElem_cons_zero, List.getElem_cons_succ]
      refine wpAnyH_take (i := 2) (v := ?_) rfl (by kernel_rfl) (by kernel_rfl) (by kernel_rfl) (fun _ _ _ h => h) (Or.inl ⟨by rfl, ?_⟩) (by assumption) ?_
      rotate_left
      · intro w hSw
        (try dsimp only at hSw)
        go_simp
        try with_reducible rfl
      try simp only [Act.put, List.setIfInBounds_toArray, List.set_cons_zero, List.set_cons_succ, List.getElem_toArray, List.getElem_cons_zero, List.getElem_cons_succ]
      refine wpAnyH_take (i := 3) (v := .agg (List.toArray (dl T))) rfl (by kernel_rfl) (by kernel_rfl) (by kernel_rfl) (fun _ _ _ h => h) (yieldsIf_load_mid (by rfl) _ _ rfl _ _ rfl (dl T) _ (fun w hSw => hSw.1) Tryz.underlying22 rfl (rdg_szd HTO.out)) (by assumption) ?_
      try simp only [Act.put, List.setIfInBounds_toArray, List.set_cons_zero, List.set_cons_succ, List.getElem_toArray, List.getElem_cons_zero, List.getElem_cons_succ]
      refine wpAnyH_take (i := 5) (v := ?_) rfl (by kernel_rfl) (by kernel_rfl) (by kernel_rfl) (fun _ _ _ h => h) (Or.inl ⟨by rfl, ?_⟩) (by assumption) ?_
      rotate_left
      · intro w hSw
        (try dsimp only at hSw)
        go_simp
        try with_reducible rfl
      try simp only [Act.put, List.setIfInBounds_toArray, List.set_cons_zero, List.set_cons_succ, List.getElem_toArray, List.getElem_cons_zero, List.getElem_cons_succ]
      refine wpAnyH_done rfl ?_ _
      clear heq hHeld
      cases E
      · have HJ' : Hid (∀ (i : Nat) (u : TxT), i < k + 1 → L[i]? = some u → eqL (txN u) d = false) := fun i u hi h1 => by
          rcases Nat.lt_or_ge i k with h3 | h3
          · exact HJ.out i u h3 h1
          · obtain rfl : i = k := by omega
            rw [HLK.out] at h1
            injection h1 with h1; subst h1
            rw [HTT.out]; exact HSE.out
        go_wp2_with fail
        go_roundw
        case rel => exact ⟨k + 1, hlt, by go_num, HJ', HB6⟩
        case measure => simp [intOf]; omega
      · go_wp2_with fail
        go_ret
        exact ⟨RHasP.mk (k := k) (b := true) (Or.inl ⟨rfl, k, t, rfl, HLK.out, by rw [HTT.out]; exact HSE.out, HJ.out⟩) rfl, below_then HB2.out HB6.out⟩
    · have hki : ¬ ((k : Int) < N) := by omega
      go_wp2_with fail
      go_ret
      refine ⟨RHasP.mk (k := 0) (b := false) (Or.inr ⟨rfl, rfl, fun i u h1 => HJ.out i u ?_ h1⟩) rfl, below_then HB2.out HB.out⟩
      have := (List.getElem?_eq_some_iff.1 h1).1
      have := HLL.out
      omega
theorem HasR.same {L : List TxT} {d : List Int} {k k' : Int} {b b' : Bool} (h : HasR L d k b) (h' : HasR L d k' b') : k = k' ∧ b = b' := by
  rcases h with ⟨rfl, j, t, rfl, hj, ht, hb⟩ | ⟨rfl, rfl, hn⟩ <;> rcases h' with ⟨rfl, j', t', rfl, hj', ht', hb'⟩ | ⟨rfl, rfl, hn'⟩
  · rcases Nat.lt_trichotomy j j' with h1 | rfl | h1
    · rw [hb' j t h1 hj] at ht; cases ht
    · exact ⟨rfl, rfl⟩
    · rw [hb j' t' h1 hj'] at ht'; cases ht'
  · rw [hn' j t hj] at ht; cases ht
  · rw [hn j' t' hj'] at ht'; cases ht'
  · exact ⟨rfl, rfl⟩
set_option maxRecDepth 20000 in
set_option maxHeartbeats 4000000 in
theorem rbpath_any (w : World) (p : List Int) (h : Int) (m : List Int) (hp : DgOk p) (hm : DgOk m) (A : Option Addr) (N C : Nat) (xs : List (List Value × TxT)) (hx : Txs w A N xs) (hN : N ≤ 1000) (hl : ∀ x ∈ xs, x.2.b.length ≤ 1073741000 ∧ x.2.s.length ≤ 1073741000) (i : Int) :
    Calls Tryz.prog 22 #[.agg (bkC p h m (.slice A N C)).toArray, .int .i64 i] w fun e w' => (∃ v, e = .returned (.tuple #[v, .int .i64 (pathTE h (xs.map (·.2)) i)]) ∧ w'.ownsRow w.heap.size 22 8 v (pathT h (xs.map (·.2)) i).length (cellsD (pathT h (xs.map (·.2)) i))) ∧ Below w.heap.size w w' := by
  have HRE := Lib.hid (fun (w' : World) (hx' : Txs w' A N xs) => rbright_any w' p h m hp hm A N C xs hx')
  have HNM := Lib.hid (fun (w' : World) (hx' : Txs w' A N xs) => rnames_any w' p h m hp hm A N C xs hx' hN hl)
  have HBS := Lib.hid (rblk_sz (h := h) (s := .slice A N C) hp hm)
  clear hl hN
  obtain ⟨l, hl⟩ : ∃ x, bkC p h m (.slice A N C) = x := ⟨_, rfl⟩
  obtain ⟨X, hX⟩ : ∃ X, l.toArray = X := ⟨_, rfl⟩
  obtain ⟨z, hz⟩ : ∃ z, w.heap.size = z := ⟨_, rfl⟩
  obtain ⟨w1, hw1⟩ : ∃ w1, w.alloc (.cells X 25) = w1 := ⟨_, rfl⟩
  have hb1 : Below w.heap.size w w1 := hw1 ▸ below_new w _
  have kx : Bk w1 z 25 l := hw1 ▸ Bk.at_ w _ X hz (by rw [← hX])
  have hbm := bkc_mem hp hm (by rw [hl]; exact kx)
  have c8 := hbm.c8; have c17 := hbm.c17
  have HW := Lib.hid hw1; have HBB1 := Lib.hid hb1; have HZ := Lib.hid hz; have HK1 := Lib.hid kx; have HPO := Lib.hid hp; have HMO := Lib.hid hm; have HXE := Lib.hid hX; have HLE := Lib.hid hl
  have HXS := Lib.hid (hx.later hb1); have HLN := Lib.hid hx.length
  rw [hl, hX]
  clear hl hX hw1 hb1 kx hbm hz hp hm hx
  rw [HLE.out] at HBS HRE HNM
  rw [HXE.out] at HRE HNM
  have hLl : (xs.map (·.2)).length = N := by rw [List.length_map]; exact HLN.out
  obtain ⟨L, hL⟩ : ∃ L, xs.map (·.2) = L := ⟨_, rfl⟩
  rw [hL] at HRE HNM hLl ⊢
  obtain ⟨E, hE⟩ : ∃ E, blkE h L = E := ⟨_, rfl⟩
  have hz : E = 0 → N ≤ 64 := fun e => by have := (blkE_zero (hE.trans e)).2.1; rw [hLl] at this; exact this
  have HPT : Hid (pathT h L i = if E = 0 ∧ 0 ≤ i ∧ i < N then pathL (namesT L) i else []) := by show _ = _; rw [pathT, hE, hLl]
  have HPE : Hid (pathTE h L i = if E = 0 then (if 0 ≤ i ∧ i < N then 0 else 9) else E) := by show _ = _; rw [pathTE, hE, hLl]
  rw [hE] at HRE
  clear hL hE hLl
  have HZQ := Lib.hid hz
  clear hz
  go_enter Tryz.func22, Tryz.ntmps22
  go_upto_region 1 with fail
  rw [HW.out, HZ.out]
  go_wp2_with (with_reducible refine wpList_load_bk rfl 25 _ rfl z rfl l 25 HK1.out _ Tryz.underlying25 rfl HBS.out ?_)
  rw [HXE.out]
  refine (HRE.out w1 HXS.out).mono ?_
  rintro e w2 ⟨rfl, hbn⟩
  have HB2 := Lib.hid (below_then HBB1.out hbn); have HK2 := Lib.hid (HK1.out.later hbn); have HX2 := Lib.hid (HXS.out.later hbn)
  have HC2 : Hid (w2.cell? ⟨z, 17, none⟩ = some (.slice A N C)) := (hbn.cell (p := ⟨z, 17, none⟩) HK1.out.lt).trans c17
  clear hbn HK1 HXS c17
  by_cases hE0 : E = 0
  · have hN64 := HZQ.out hE0
    subst hE0
    have hc17 := HC2.out
    by_cases hi0 : i < 0
    · have HP : Hid (pathT h L i = []) := HPT.out.trans (if_neg (by omega))
      have HQ : Hid (pathTE h L i = 9) := HPE.out.trans (by rw [if_pos rfl, if_neg (by omega)])
      have hd3 : decide (i < 0) = true := by simp; omega
      clear hN64
      go_wp2_with fail
      go_ret2
      exact ⟨⟨_, by rw [HQ.out]; rfl, by rw [HP.out]; exact World.ownsRow_nil _ _ _ _⟩, HB2.out⟩
    · have hd3 : decide (i < 0) = false := by simp; omega
      by_cases hiN : (N : Int) ≤ i
      · have HP : Hid (pathT h L i = []) := HPT.out.trans (if_neg (by omega))
        have HQ : Hid (pathTE h L i = 9) := HPE.out.trans (by rw [if_pos rfl, if_neg (by omega)])
        clear hN64
        go_wp2_with fail
        go_ret2
        exact ⟨⟨_, by rw [HQ.out]; rfl, by rw [HP.out]; exact World.ownsRow_nil _ _ _ _⟩, HB2.out⟩
      · have hd4 : decide ((N : Int) ≤ i) = false := by simp; omega
        have HP : Hid (pathT h L i = pathL (namesT L) i) := HPT.out.trans (if_pos ⟨rfl, by omega, by omega⟩)
        have HQ : Hid (pathTE h L i = 0) := HPE.out.trans (by rw [if_pos rfl, if_pos (by omega)])
        have HPN : Hid (pathE N i = 0) := by show _ = _; rw [pathE, if_pos (by omega), if_pos (by omega)]
        clear hN64
        go_wp2_with (with_reducible refine wpList_load_bk rfl 25 _ rfl z rfl l 25 HK2.out _ Tryz.underlying25 rfl HBS.out ?_)
        rw [HXE.out]
        refine (HNM.out w2 HX2.out).mono ?_
        rintro e w3 ⟨⟨v, rfl, hown⟩, hbn⟩
        have HB3 := Lib.hid (below_then HB2.out hbn)
        obtain ⟨A1, c1, rfl⟩ := own_form hown
        have HS := Lib.hid (Sl.of_own hown)
        clear hbn hown hc17
        go_wp2_with fail
        refine (rPath_any w3 A1 N c1 i (namesT L) (namesT_ok L) HS.out).mono ?_
        rintro e w4 ⟨⟨v, rfl, hown⟩, hbn⟩
        have HB4 := Lib.hid (below_then HB3.out hbn)
        have HO4 := Lib.hid (own_base hown HB3.out.size)
        rw [HPN.out]
        clear hbn hown HS
        go_wp2_with fail
        go_ret2
        exact ⟨⟨_, by rw [HQ.out]; rfl, by rw [HP.out]; exact HO4.out⟩, HB4.out⟩
  · have hd1 : (E != 0) = true := by simp [hE0]
    have HP : Hid (pathT h L i = []) := HPT.out.trans (if_neg (fun q => hE0 q.1))
    have HQ : Hid (pathTE h L i = E) := HPE.out.trans (if_neg hE0)
    clear hE0
    go_wp2_with fail
    go_ret2
    exact ⟨⟨_, by rw [HQ.out]; rfl, by rw [HP.out]; exact World.ownsRow_nil _ _ _ _⟩, HB2.out⟩
theorem rWith_anyb (w : World) (i : Int) (leaf : List Int) (hd : DgOk leaf) (A : Option Addr) (n c : Nat) (ls : List (List Int)) (ho : DsOk ls) (hs : Sl w w.heap.size 8 A n (cellsD ls)) :
    Calls Tryz.prog 55 #[.int .i64 i, .agg (dl leaf).toArray, .slice A n c] w fun e w' => e = .returned (.tuple #[.agg (dl (withI i leaf ls)).toArray, .bool (withB i n)]) ∧ Below w.heap.size w w' := rWith_any w i leaf hd A n c ls ho hs
set_option maxRecDepth 20000 in
set_option maxHeartbeats 4000000 in
theorem rcheck04_any (w : World) (r : List Int) (i : Int) (d : List Int) (hr : DgOk r) (hd : DgOk d) (A : Option Addr) (n c : Nat) (ls : List (List Int)) (ho : DsOk ls) (hs : Sl w w.heap.size 8 A n (cellsD ls)) :
    Calls Tryz.prog 25 #[.agg (dl r).toArray, .int .i64 i, .agg (dl d).toArray, .slice A n c] w fun e w' => e = .returned (.bool (checkI r i d ls)) ∧ Below w.heap.size w w' := by
  have hlen := hs.dgs ho
  obtain ⟨R, hR⟩ : ∃ X, (dl r).toArray = X := ⟨_, rfl⟩
  obtain ⟨O, hO⟩ : ∃ X, (dl d).toArray = X := ⟨_, rfl⟩
  obtain ⟨z, hz⟩ : ∃ z, w.heap.size = z := ⟨_, rfl⟩
  obtain ⟨w1, hw1⟩ : ∃ w1, (w.alloc (.cells R 22)).alloc (.cells O 22) = w1 := ⟨_, rfl⟩
  have hb1 : Below w.heap.size w w1 := hw1 ▸ (below_new w _).alloc (by simp) _
  have kx : Bk w1 z 22 (dl r) := hw1 ▸ (Bk.at_ w _ R hz (by rw [← hR])).alloc _
  have kq : Bk w1 (z + 1) 22 (dl d) := hw1 ▸ Bk.at_ _ _ O (by simp [hz]) (by rw [← hO])
  have hc := rWith_anyb w1 i d hd A n c ls ho ((hs.below hb1).more hb1.size)
  have HCI := Lib.hid (show checkI r i d ls = (withB i n && eqL (withI i d ls) r) by rw [checkI, hlen])
  have HTO : Hid (DgOk (withI i d ls)) := withI_ok i d ls
  obtain ⟨T, hT⟩ : ∃ T, withI i d ls = T := ⟨_, rfl⟩
  obtain ⟨bb, hbb⟩ : ∃ bb, withB i n = bb := ⟨_, rfl⟩
  obtain ⟨CI, hCI⟩ : ∃ x, checkI r i d ls = x := ⟨_, rfl⟩
  rw [hT] at hc HCI HTO
  rw [hbb] at hc HCI
  rw [hCI] at HCI ⊢
  have HC := Lib.hid hc
  have HW := Lib.hid hw1; have HBB1 := Lib.hid hb1; have HZ := Lib.hid hz; have HK1 := Lib.hid kx; have HQ1 := Lib.hid kq; have HDO := Lib.hid hd; have HRO := Lib.hid hr
  rw [hR, hO]
  clear hR hO hz hw1 hb1 kx kq hr hd ho hs hc hlen hT hbb hCI
  go_enter Tryz.func25, Tryz.ntmps25
  go_upto_region 1 with fail
  rw [HW.out, HZ.out]
  go_wp2_with (with_reducible refine wpList_load_bk rfl 22 _ rfl (z + 1) rfl (dl d) 22 HQ1.out _ Tryz.underlying22 rfl (rdg_szd HDO.out) ?_)
  refine Calls.mono HC.out ?_
  rintro e w2 ⟨rfl, hbn⟩
  have HB2 := Lib.hid (below_then HBB1.out hbn); have HK2 := Lib.hid (HK1.out.later hbn)
  clear hbn HK1 HQ1 HC
  go_wp2_with (with_reducible refine stop_store 22 _ _ rfl ?_)
  refine StopD.go ?_
  obtain ⟨g4, hg4⟩ : ∃ g, w2.heap.size = g := ⟨_, rfl⟩
  have hbn : Below w2.heap.size w2 (w2.alloc (.cells #[.int .u8 0, .int .u8 0, .int .u8 0, .int .u8 0, .int .u8 0, .int .u8 0, .int .u8 0, .int .u8 0] 22)) := below_new w2 _
  have kt : Bk (w2.alloc (.cells #[.int .u8 0, .int .u8 0, .int .u8 0, .int .u8 0, .int .u8 0, .int .u8 0, .int .u8 0, .int .u8 0] 22)) g4 22 ([] ++ (dl zeroD ++ [])) := by rw [← hg4]; exact Bk.new' w2 _ #[.int .u8 0, .int .u8 0, .int .u8 0, .int .u8 0, .int .u8 0, .int .u8 0, .int .u8 0, .int .u8 0] rfl
  rw [hg4]
  refine wpList_store_part rfl 22 _ _ rfl g4 0 (.agg (dl T).toArray) (dl T) rfl rfl rfl 22 [] (dl zeroD) [] kt rfl (dg_lensd HTO.out) (rdg_szd HTO.out) (dl_one' _) ?_
  intro w4 hp
  have hbn : Below w2.heap.size w2 w4 := hbn.grown hp.only hbn.size (fun q hq => by injection hq with hq; omega)
  have HT4 : Hid (Bk w4 g4 22 (dl T)) := by show Bk _ _ _ _; have := hp.bk; simpa using this
  clear hp kt
  clear hg4
  have HB4 := Lib.hid (below_then HB2.out hbn); have HK4 := Lib.hid (HK2.out.later hbn)
  clear hbn HK2
  have heq := rdg_eqb T r HTO.out HRO.out
  obtain ⟨b1, hb1⟩ : ∃ b, eqL T r = b := ⟨_, rfl⟩
  rw [hb1] at heq HCI
  clear hb1
  have HTR : Hid (w4.rangeAt g4 0 (dl T)) := Bk.range (pre := []) (post := []) (by simpa using HT4.out) rfl
  have HKR : Hid (w4.rangeAt z 0 (dl r)) := Bk.range (pre := []) (post := []) (by simpa using HK4.out) rfl
  cases bb
  · have HCC : Hid (CI = false) := HCI.out
    go_wp2_with fail
    go_ret
    exact ⟨by rw [HCC.out]; rfl, HB4.out⟩
  · have HCC : Hid (CI = b1) := HCI.out.trans (by simp)
    go_wp2_with (first
      | ((with_reducible refine wpList_load_midG2 ?_ 22 _ rfl g4 0 rfl (dl T) _ HTR.out Tryz.underlying22 rfl (rdg_szd HTO.out) ?_); rfl)
      | ((with_reducible refine wpList_load_midG2 ?_ 22 _ rfl z 0 rfl (dl r) _ HKR.out Tryz.underlying22 rfl (rdg_szd HRO.out) ?_); rfl))
    go_ret
    exact ⟨by rw [HCC.out]; rfl, HB4.out⟩
end Go.Proofs.YtbpmomedhdmloaaGreatDoor
