/- The path of a transaction in a block; where a name is; what a path shows. -/
import Derived.Test.YtbpmomedhdmloaaGreatDoorBO
import Derived.Test.YtbpmomedhdmloaaGreatDoorTH
namespace Go.Proofs.YtbpmomedhdmloaaGreatDoor
set_option linter.unusedSimpArgs false
set_option linter.unusedVariables false
open Go.RowKit Go.Maps

/-- The path of a place in a block, and why there is none. -/
def pathT (h : Int) (L : List TxT) (i : Int) : List (List Int) := if blkE h L = 0 ∧ 0 ≤ i ∧ i < L.length then pathL (namesT L) i else []
def pathTE (h : Int) (L : List TxT) (i : Int) : Int := if blkE h L = 0 then (if 0 ≤ i ∧ i < L.length then 0 else 9) else blkE h L
theorem namesT_len (L : List TxT) : (namesT L).length = L.length := by unfold namesT; exact List.length_map _
set_option maxRecDepth 20000 in
set_option maxHeartbeats 4000000 in
theorem bpath_any (w : World) (p : List Int) (h : Int) (m : List Int) (hp : DgOk p) (hm : DgOk m) (A : Option Addr) (N C : Nat) (xs : List (List Value × TxT)) (hx : Txs w A N xs) (hN : N ≤ 1000) (hl : ∀ x ∈ xs, x.2.b.length ≤ 1073741000 ∧ x.2.s.length ≤ 1073741000) (i : Int) :
    Calls Tryz.prog 21 #[.agg (bkC p h m (.slice A N C)).toArray, .int .i64 i] w fun e w' => (∃ v, e = .returned (.tuple #[v, .int .i64 (pathTE h (xs.map (·.2)) i)]) ∧ w'.ownsRow w.heap.size 28 8 v (pathT h (xs.map (·.2)) i).length (cellsD (pathT h (xs.map (·.2)) i))) ∧ Below w.heap.size w w' := by
  have HRE := Lib.hid (fun (w' : World) (hx' : Txs w' A N xs) => right_b w' p h m hp hm A N C xs hx')
  have HNM := Lib.hid (fun (w' : World) (hx' : Txs w' A N xs) => names_any w' p h m hp hm A N C xs hx' hN hl)
  have HBS := Lib.hid (blk_sz (h := h) (s := .slice A N C) hp hm)
  clear hl hN
  obtain ⟨l, hl⟩ : ∃ x, bkC p h m (.slice A N C) = x := ⟨_, rfl⟩
  obtain ⟨X, hX⟩ : ∃ X, l.toArray = X := ⟨_, rfl⟩
  obtain ⟨z, hz⟩ : ∃ z, w.heap.size = z := ⟨_, rfl⟩
  obtain ⟨w1, hw1⟩ : ∃ w1, w.alloc (.cells X 31) = w1 := ⟨_, rfl⟩
  have hb1 : Below w.heap.size w w1 := hw1 ▸ below_new w _
  have kx : Bk w1 z 31 l := hw1 ▸ Bk.at_ w _ X hz (by rw [← hX])
  have hbm := bkc_mem hp hm (by rw [hl]; exact kx)
  have c8 := hbm.c8; have c17 := hbm.c17
  have HW := Lib.hid hw1; have HBB1 := Lib.hid hb1; have HZ := Lib.hid hz; have HK1 := Lib.hid kx; have HPO := Lib.hid hp; have HMO := Lib.hid hm; have HXE := Lib.hid hX; have HLE := Lib.hid hl
  have HXS := Lib.hid (hx.later hb1); have HLN := Lib.hid hx.length
  rw [hl, hX]
  clear hl hX hw1 hb1 kx hbm hz hp hm hx
  rw [HLE.out] at HBS HRE HNM
  rw [HXE.out] at HRE HNM
  have hLl : (xs.map (·.2)).length = N := by rw [List.length_map]; exact HLN.out
  obtain ⟨L, hL⟩ : ∃ L, xs.map (·.2) = L := ⟨_, rfl⟩
  rw [hL] at HRE HNM hLl ⊢
  obtain ⟨E, hE⟩ : ∃ E, blkE h L = E := ⟨_, rfl⟩
  have hz : E = 0 → N ≤ 64 := fun e => by have := (blkE_zero (hE.trans e)).2.1; rw [hLl] at this; exact this
  have HPT : Hid (pathT h L i = if E = 0 ∧ 0 ≤ i ∧ i < N then pathL (namesT L) i else []) := by show _ = _; rw [pathT, hE, hLl]
  have HPE : Hid (pathTE h L i = if E = 0 then (if 0 ≤ i ∧ i < N then 0 else 9) else E) := by show _ = _; rw [pathTE, hE, hLl]
  rw [hE] at HRE
  clear hL hE hLl
  have HZQ := Lib.hid hz
  clear hz
  go_enter Tryz.func21, Tryz.ntmps21
  go_upto_region 1 with fail
  rw [HW.out, HZ.out]
  go_wp2_with (with_reducible refine wpList_load_bk rfl 31 _ rfl z rfl l 31 HK1.out _ Tryz.underlying31 rfl HBS.out ?_)
  rw [HXE.out]
  refine (HRE.out w1 HXS.out).mono ?_
  rintro e w2 ⟨rfl, hbn⟩
  have HB2 := Lib.hid (below_then HBB1.out hbn); have HK2 := Lib.hid (HK1.out.later hbn); have HX2 := Lib.hid (HXS.out.later hbn)
  have HC2 : Hid (w2.cell? ⟨z, 17, none⟩ = some (.slice A N C)) := (hbn.cell (p := ⟨z, 17, none⟩) HK1.out.lt).trans c17
  clear hbn HK1 HXS c17
  by_cases hE0 : E = 0
  · have hN64 := HZQ.out hE0
    subst hE0
    have hc17 := HC2.out
    by_cases hi0 : i < 0
    · have HP : Hid (pathT h L i = []) := HPT.out.trans (if_neg (by omega))
      have HQ : Hid (pathTE h L i = 9) := HPE.out.trans (by rw [if_pos rfl, if_neg (by omega)])
      clear hN64
      go_wp2_with fail
      go_ret2
      exact ⟨⟨_, by rw [HQ.out]; rfl, by rw [HP.out]; exact World.ownsRow_nil _ _ _ _⟩, HB2.out⟩
    · by_cases hiN : (N : Int) ≤ i
      · have HP : Hid (pathT h L i = []) := HPT.out.trans (if_neg (by omega))
        have HQ : Hid (pathTE h L i = 9) := HPE.out.trans (by rw [if_pos rfl, if_neg (by omega)])
        clear hN64
        go_wp2_with fail
        go_ret2
        exact ⟨⟨_, by rw [HQ.out]; rfl, by rw [HP.out]; exact World.ownsRow_nil _ _ _ _⟩, HB2.out⟩
      · have hd3 : decide (i < 0) = false := by simp; omega
        have hd4 : decide ((N : Int) ≤ i) = false := by simp; omega
        have HP : Hid (pathT h L i = pathL (namesT L) i) := HPT.out.trans (if_pos ⟨rfl, by omega, by omega⟩)
        have HQ : Hid (pathTE h L i = 0) := HPE.out.trans (by rw [if_pos rfl, if_pos (by omega)])
        have HPN : Hid (pathE N i = 0) := by show _ = _; rw [pathE, if_pos (by omega), if_pos (by omega)]
        clear hN64
        go_wp2_with (with_reducible refine wpList_load_bk rfl 31 _ rfl z rfl l 31 HK2.out _ Tryz.underlying31 rfl HBS.out ?_)
        rw [HXE.out]
        refine (HNM.out w2 HX2.out).mono ?_
        rintro e w3 ⟨⟨v, rfl, hown⟩, hbn⟩
        have HB3 := Lib.hid (below_then HB2.out hbn)
        obtain ⟨A1, c1, rfl⟩ := own_form hown
        have HS := Lib.hid (Sl.of_own hown)
        clear hbn hown hc17
        go_wp2_with fail
        refine (treePath_any w3 A1 N c1 i (namesT L) (namesT_ok L) HS.out).mono ?_
        rintro e w4 ⟨⟨v, rfl, hown⟩, hbn⟩
        have HB4 := Lib.hid (below_then HB3.out hbn)
        have HO4 := Lib.hid (own_base hown HB3.out.size)
        rw [HPN.out]
        clear hbn hown HS
        go_wp2_with fail
        go_ret2
        exact ⟨⟨_, by rw [HQ.out]; rfl, by rw [HP.out]; exact HO4.out⟩, HB4.out⟩
  · have hd1 : (E != 0) = true := by simp [hE0]
    have HP : Hid (pathT h L i = []) := HPT.out.trans (if_neg (fun q => hE0 q.1))
    have HQ : Hid (pathTE h L i = E) := HPE.out.trans (if_neg hE0)
    clear hE0
    go_wp2_with fail
    go_ret2
    exact ⟨⟨_, by rw [HQ.out]; rfl, by rw [HP.out]; exact World.ownsRow_nil _ _ _ _⟩, HB2.out⟩
/-- Where a name is first. -/
def HasR (L : List TxT) (d : List Int) (k : Int) (b : Bool) : Prop :=
  (b = true ∧ ∃ (j : Nat) (t : TxT), k = j ∧ L[j]? = some t ∧ eqL (txN t) d = true ∧ ∀ (i : Nat) (u : TxT), i < j → L[i]? = some u → eqL (txN u) d = false) ∨ (b = false ∧ k = 0 ∧ ∀ (i : Nat) (u : TxT), L[i]? = some u → eqL (txN u) d = false)
def HasP (L : List TxT) (d : List Int) (e : Ending) : Prop := ∃ k b, e = .returned (.tuple #[.int .i64 k, .bool b]) ∧ HasR L d k b
theorem HasP.mk {L : List TxT} {d : List Int} {k : Int} {b : Bool} (h : HasR L d k b) : HasP L d (.returned (.tuple #[.int .i64 k, .bool b])) := ⟨k, b, rfl, h⟩
set_option maxRecDepth 20000 in
set_option maxHeartbeats 4000000 in
theorem has_any26 (w : World) (p : List Int) (h : Int) (m : List Int) (hp : DgOk p) (hm : DgOk m) (A : Option Addr) (N C : Nat) (xs : List (List Value × TxT)) (hx : Txs w A N xs) (hN : N ≤ 1000) (hl : ∀ x ∈ xs, x.2.b.length ≤ 1073741000 ∧ x.2.s.length ≤ 1073741000) (d : List Int) (hd : DgOk d) :
    Calls Tryz.prog 19 #[.agg (bkC p h m (.slice A N C)).toArray, .agg (dl d).toArray] w fun e w' => HasP (xs.map (·.2)) d e ∧ Below w.heap.size w w' := by
  obtain ⟨l, hl0⟩ : ∃ x, bkC p h m (.slice A N C) = x := ⟨_, rfl⟩
  obtain ⟨X, hX⟩ : ∃ X, l.toArray = X := ⟨_, rfl⟩
  obtain ⟨O, hO⟩ : ∃ X, (dl d).toArray = X := ⟨_, rfl⟩
  obtain ⟨z, hz⟩ : ∃ z, w.heap.size = z := ⟨_, rfl⟩
  obtain ⟨w1, hw1⟩ : ∃ w1, (w.alloc (.cells X 31)).alloc (.cells O 28) = w1 := ⟨_, rfl⟩
  have hb1 : Below w.heap.size w w1 := hw1 ▸ (below_new w _).alloc (by simp) _
  have kx : Bk w1 z 31 l := hw1 ▸ (Bk.at_ w _ X hz (by rw [← hX])).alloc _
  have kq : Bk w1 (z + 1) 28 (dl d) := hw1 ▸ Bk.at_ _ _ O (by simp [hz]) (by rw [← hO])
  have hbm := bkc_mem hp hm (by rw [hl0]; exact kx)
  have c17 := hbm.c17
  have hLl : (xs.map (·.2)).length = N := by rw [List.length_map]; exact hx.length
  have HW := Lib.hid hw1; have HBB1 := Lib.hid hb1; have HZ := Lib.hid hz; have HK1 := Lib.hid kx; have HQ1 := Lib.hid kq; have HDO := Lib.hid hd
  have HXS := Lib.hid (hx.later hb1); have HLN := Lib.hid hx.length
  have HLB := Lib.hid hl
  rw [hl0, hX, hO]
  obtain ⟨L, hL⟩ : ∃ L, xs.map (·.2) = L := ⟨_, rfl⟩
  have HL := Lib.hid hL
  rw [hL] at hLl ⊢
  have HLL := Lib.hid hLl
  clear hL hl0 hX hO hz hw1 hb1 kx kq hp hm hx hd hl hbm hLl
  go_enter Tryz.func19, Tryz.ntmps19
  go_upto_region 1 with fail
  rw [HW.out, HZ.out]
  go_wp2_with fail
  clear c17
  go_loopw [6, 7, 11] (fun _ _ kv wr => ∃ k : Nat, k ≤ N ∧ kv = .int .i64 k ∧ Hid (∀ (i : Nat) (u : TxT), i < k → L[i]? = some u → eqL (txN u) d = false) ∧ Hid (Below w1.heap.size w1 wr)) (fun _ _ kv _ => N - (intOf kv).toNat)
  case atStart => exact ⟨0, Nat.zero_le _, rfl, fun i u hi => absurd hi (by omega), Below.refl _ _⟩
  case round =>
    obtain ⟨k, hk, rfl, HJ, HB⟩ := hrel
    have hNl : N ≤ 9223372036854775807 := HXS.out.sl.le
    by_cases hlt : k < N
    · have hki : (k : Int) < N := by omega
      have hk0 : (0 : Int) ≤ k := by omega
      obtain ⟨⟨cs, t⟩, hx⟩ : ∃ x, xs[k]? = some x := ⟨xs[k]'(by rw [HLN.out]; omega), List.getElem?_eq_getElem _⟩
      have hg : Txg wr cs t := (HXS.out.later HB.out).th (cs, t) (List.mem_of_getElem? hx)
      have hlb : t.b.length ≤ 1073741000 ∧ t.s.length ≤ 1073741000 := HLB.out (cs, t) (List.mem_of_getElem? hx)
      obtain ⟨b, o, rfl, hr, _⟩ := HXS.out.at_ HB.out hx
      have hr : wr.rangeAt b (o + k * 13) cs := hr
      have HLK : Hid (L[k]? = some t) := by show _ = _; rw [← HL.out, List.getElem?_map, hx]; rfl
      have HG := Lib.hid hg; have HR := Lib.hid hr; have HLB1 := Lib.hid hlb
      clear hg hr hx hlb
      go_wp2_with (first
        | (with_reducible refine wpList_load_mid rfl 76 _ rfl b (o + k * 13) rfl cs _ HR.out Tryz.underlying76 rfl HG.out.size ?_)
        | (with_reducible refine stop_store 76 _ _ rfl ?_))
      refine StopD.go ?_
      obtain ⟨g5, hg5⟩ : ∃ g, wr.heap.size = g := ⟨_, rfl⟩
      have hbn : Below wr.heap.size wr (wr.alloc (.cells #[.int .u8 0, .int .u8 0, .int .u8 0, .int .u8 0, .int .u8 0, .int .u8 0, .int .u8 0, .int .u8 0, .int .i64 0, .int .i64 0, .int .i64 0, .slice none 0 0, .slice none 0 0] 76)) := below_new wr _
      have kt : Bk (wr.alloc (.cells #[.int .u8 0, .int .u8 0, .int .u8 0, .int .u8 0, .int .u8 0, .int .u8 0, .int .u8 0, .int .u8 0, .int .i64 0, .int .i64 0, .int .i64 0, .slice none 0 0, .slice none 0 0] 76)) g5 76 ([] ++ (zTx ++ [])) := by rw [← hg5]; exact Bk.new' wr _ #[.int .u8 0, .int .u8 0, .int .u8 0, .int .u8 0, .int .u8 0, .int .u8 0, .int .u8 0, .int .u8 0, .int .i64 0, .int .i64 0, .int .i64 0, .slice none 0 0, .slice none 0 0] rfl
      rw [hg5]
      refine wpList_store_part rfl 76 _ _ rfl g5 0 (.agg (cs).toArray) (cs) rfl rfl rfl 76 [] zTx [] kt rfl (by rw [HG.out.len]; rfl) HG.out.size HG.out.one ?_
      intro w5 hp
      have hbn : Below wr.heap.size wr w5 := hbn.grown hp.only hbn.size (fun q hq => by injection hq with hq; omega)
      have HT5 : Hid (Bk w5 g5 76 (cs)) := by show Bk _ _ _ _; have := hp.bk; simpa using this
      clear hp kt hg5
      have HB5 := Lib.hid (below_then HB.out hbn); have HG5 := Lib.hid (HG.out.later hbn); have HQ5 := Lib.hid (HQ1.out.later (below_then HB.out hbn))
      clear hbn HB
      go_wp2_with fail
      refine wp_region_held_drew (S := fun w' => Bk w' g5 76 cs ∧ Bk w' (z + 1) 28 (dl d)) (by kernel_rfl) ⟨Bk.drew HT5.out, Bk.drew HQ5.out⟩ (fun hHeld => ?_)
      have hbn : Below w5.heap.size w5 w5.drew := below_draws w5 w5.heap.size 1
      obtain ⟨w6, hw6⟩ : ∃ wa, w5.drew = wa := ⟨_, rfl⟩
      rw [hw6] at hbn hHeld ⊢
      have HB6 := Lib.hid (below_then HB5.out hbn); have HT6 := Lib.hid (HT5.out.later hbn); have HQ6 := Lib.hid (HQ5.out.later hbn); have HG6 := Lib.hid (HG5.out.later hbn)
      clear hw6 hbn HB5 HT5 HQ5 HG5
      refine wpAnyH_take (i := 0) (v := .agg (List.toArray (cs))) rfl (by kernel_rfl) (by kernel_rfl) (by kernel_rfl) (fun _ _ _ h => h) (yieldsIf_load_mid (by rfl) _ _ rfl _ _ rfl (cs) _ (fun w hSw => (Bk.range (pre := []) (post := []) (by simpa using hSw.1) rfl)) Tryz.underlying76 rfl (HG6.out.size)) (by assumption) ?_
      try simp only [Act.put, List.setIfInBounds_toArray, List.set_cons_zero, List.set_cons_succ, List.getElem_toArray, List.getElem_cons_zero, List.getElem_cons_succ]
      refine wpAnyH_take (i := 2) (v := .agg (List.toArray (dl d))) rfl (by kernel_rfl) (by kernel_rfl) (by kernel_rfl) (fun _ _ _ h => h) (yieldsIf_load_mid (by rfl) _ _ rfl _ _ rfl (dl d) _ (fun w hSw => (Bk.range (pre := []) (post := []) (by simpa using hSw.2) rfl)) Tryz.underlying28 rfl (hdg_size _ HDO.out)) (by assumption) ?_
      try simp only [Act.put, List.setIfInBounds_toArray, List.set_cons_zero, List.set_cons_succ, List.getElem_toArray, List.getElem_cons_zero, List.getElem_cons_succ]
      have hnm := txName_any w6 cs t HG6.out HLB1.out.1 HLB1.out.2
      have HTO := Lib.hid (txN_ok t)
      obtain ⟨T, hT⟩ : ∃ T, txN t = T := ⟨_, rfl⟩
      have HTT := Lib.hid hT
      rw [hT] at hnm HTO
      have HNM := Lib.hid hnm
      clear hT hnm
      refine wpAnyH_ready (rs := [1]) (by kernel_rfl) (by simp) ?_
      refine AllReadyH.cons rfl (fun K hK => ?_) AllReadyH.nil
      go_simp
      (refine HNM.out.mono ?_; rintro e w7 ⟨rfl, hbn⟩; have HB7 := Lib.hid (below_then HB6.out hbn); have HT7 := Lib.hid (HT6.out.later hbn); have HQ7 := Lib.hid (HQ6.out.later hbn))
      refine hK.out _ _ (⟨HT7.out, HQ7.out⟩) (fun hHeld => ?_)
      clear hK K
      try simp only [Act.put, List.setIfInBounds_toArray, List.set_cons_zero, List.set_cons_succ, List.getElem_toArray, List.getElem_cons_zero, List.getElem_cons_succ]
      clear hbn HB6 HT6 HQ6 HNM
      have heq := dg_eqb T d HTO.out HDO.out
      obtain ⟨E, hE⟩ : ∃ E, eqL T d = E := ⟨_, rfl⟩
      have HSE := Lib.hid hE
      rw [hE] at heq
      clear hE
      refine wpAnyH_take (i := 3) (v := ?_) rfl (by kernel_rfl) (by kernel_rfl) (by kernel_rfl) (fun _ _ _ h => h) (Or.inl ⟨by rfl, ?_⟩) (by assumption) ?_
      rotate_left
      · intro w hSw
        (try dsimp only at hSw)
        go_simp
        try with_reducible rfl
      try simp only [Act.put, List.setIfInBounds_toArray, List.set_cons_zero, List.set_cons_succ, List.getElem_toArray, List.getElem_cons_zero, List.getElem_cons_succ]
      refine wpAnyH_done rfl ?_ _
      clear heq
      cases E
      · have HJ' : Hid (∀ (i : Nat) (u : TxT), i < k + 1 → L[i]? = some u → eqL (txN u) d = false) := fun i u hi h1 => by
          rcases Nat.lt_or_ge i k with h3 | h3
          · exact HJ.out i u h3 h1
          · obtain rfl : i = k := by omega
            rw [HLK.out] at h1
            injection h1 with h1; subst h1
            rw [HTT.out]; exact HSE.out
        go_wp2_with fail
        go_roundw
        case rel => exact ⟨k + 1, hlt, by go_num, HJ', HB7.out⟩
        case measure => simp [intOf]; omega
      · go_wp2_with fail
        go_ret2
        exact ⟨HasP.mk (b := true) (Or.inl ⟨rfl, k, t, rfl, HLK.out, by rw [HTT.out]; exact HSE.out, HJ.out⟩), below_then HBB1.out HB7.out⟩
    · have hki : ¬ ((k : Int) < N) := by omega
      go_wp2_with fail
      go_ret2
      refine ⟨HasP.mk (k := 0) (b := false) (Or.inr ⟨rfl, rfl, fun i u h1 => HJ.out i u ?_ h1⟩), below_then HBB1.out HB.out⟩
      have := (List.getElem?_eq_some_iff.1 h1).1
      have := HLL.out
      omega
set_option maxRecDepth 20000 in
theorem shown_any26 (w : World) (r : List Int) (i : Int) (d : List Int) (hr : DgOk r) (hd : DgOk d) (A : Option Addr) (n c : Nat) (ls : List (List Int)) (ho : DsOk ls) (hs : Sl w w.heap.size 8 A n (cellsD ls)) :
    Calls Tryz.prog 24 #[.agg (dl r).toArray, .int .i64 i, .agg (dl d).toArray, .slice A n c] w fun e w' => e = .returned (.bool (checkI r i d ls)) ∧ Below w.heap.size w w' := by
  obtain ⟨R, hR⟩ : ∃ X, (dl r).toArray = X := ⟨_, rfl⟩
  obtain ⟨O, hO⟩ : ∃ X, (dl d).toArray = X := ⟨_, rfl⟩
  obtain ⟨z, hz⟩ : ∃ z, w.heap.size = z := ⟨_, rfl⟩
  obtain ⟨w1, hw1⟩ : ∃ w1, (w.alloc (.cells R 28)).alloc (.cells O 28) = w1 := ⟨_, rfl⟩
  have hb1 : Below w.heap.size w w1 := hw1 ▸ (below_new w _).alloc (by simp) _
  have kx : Bk w1 z 28 (dl r) := hw1 ▸ (Bk.at_ w _ R hz (by rw [← hR])).alloc _
  have kq : Bk w1 (z + 1) 28 (dl d) := hw1 ▸ Bk.at_ _ _ O (by simp [hz]) (by rw [← hO])
  have hc := Check_any w1 r i d hr hd A n c ls ho ((hs.below hb1).more hb1.size)
  have HC := Lib.hid hc
  have HW := Lib.hid hw1; have HBB1 := Lib.hid hb1; have HZ := Lib.hid hz; have HK1 := Lib.hid kx; have HQ1 := Lib.hid kq; have HDO := Lib.hid hd; have HRO := Lib.hid hr
  rw [hR, hO]
  have HRE := Lib.hid hR; have HOE := Lib.hid hO
  clear hR hO hz hw1 hb1 kx kq hr hd ho hs hc
  go_enter Tryz.func24, Tryz.ntmps24
  go_upto_region 1 with fail
  rw [HW.out, HZ.out]
  go_wp2_with (first
    | (with_reducible refine wpList_load_bk rfl 28 _ rfl z rfl (dl r) 28 HK1.out _ Tryz.underlying28 rfl (hdg_size _ HRO.out) ?_)
    | (with_reducible refine wpList_load_bk rfl 28 _ rfl (z + 1) rfl (dl d) 28 HQ1.out _ Tryz.underlying28 rfl (hdg_size _ HDO.out) ?_))
  refine Calls.mono HC.out ?_
  rintro e w2 ⟨rfl, hbn⟩
  have HB2 := Lib.hid (below_then HBB1.out hbn)
  clear hbn
  go_wp2_with fail
  go_ret
  exact ⟨rfl, HB2.out⟩
end Go.Proofs.YtbpmomedhdmloaaGreatDoor
