/- What is wrong with a block: the program's Right and Fees. -/
import Derived.Test.YtbpmomedhdmloaaDoorB6
namespace Go.Proofs.YtbpmomedhdmloaaDoor
set_option linter.unusedSimpArgs false
set_option linter.unusedVariables false
open Go.RowKit Go.Maps

theorem blkE_r {h : Int} {L : List TxT} (h1 : h < 0 ∨ 1099511627776 < h) : blkE h L = 2 := by unfold blkE; rw [if_pos h1]
theorem blkE_l {h : Int} {L : List TxT} (h1 : ¬ (h < 0 ∨ 1099511627776 < h)) (h2 : 64 < L.length) : blkE h L = 8 := by unfold blkE; rw [if_neg h1, if_pos h2]
theorem blkE_t {h : Int} {L : List TxT} (h1 : ¬ (h < 0 ∨ 1099511627776 < h)) (h2 : ¬ 64 < L.length) {e : Int} (h3 : txsE [] L = e) (h4 : e ≠ 0) : blkE h L = e := by unfold blkE; rw [if_neg h1, if_neg h2, h3, if_pos h4]
theorem blkE_f {h : Int} {L : List TxT} (h1 : ¬ (h < 0 ∨ 1099511627776 < h)) (h2 : ¬ 64 < L.length) (h3 : txsE [] L = 0) : blkE h L = if 1125899906842624 < feesS L then 2 else 0 := by unfold blkE; rw [if_neg h1, if_neg h2, if_neg (by simp [h3])]
theorem map_later {w w' : World} {b n : Nat} {D : DataW Unit} {P : Program} {k : TypeId} {R : Value → Option (DataW Unit × List MemPlace)} (h : w.ownsMap P k R b n D) (hb : Below w.heap.size w w') : w'.ownsMap P k R b n D := h.kept (row := none) ⟨hb.os, hb.tape, hb.output, hb.size, fun k hk _ => hb.block k hk⟩ (by simp)
theorem txs_step {L : List TxT} {k : Nat} {t : TxT} (hk : L[k]? = some t) (h : txsE [] L = txsE (L.take k) (L.drop k)) : txsE [] L = if txE t ≠ 0 then txE t else if (L.take k).any (turnB t) then 7 else txsE (L.take (k + 1)) (L.drop (k + 1)) := by
  rw [h, drop_cons hk, txsE, take_snoc hk]
theorem Txg.at0 {w wk : World} {cs : List Value} {t : TxT} {g : Nat} {ty : TypeId} (h : Txg w cs t) (hk : Bk wk g ty cs) : wk.rangeAt g 0 (dl t.f) ∧ wk.cell? ⟨g, 8, none⟩ = some (.int .i64 t.n) := by
  obtain ⟨⟨A, B, N, C, M, D, e, _⟩, h4⟩ := h
  have := tx_mem h4.f (by rw [← e]; exact hk)
  exact ⟨this.r0, by simpa using this.c8⟩
theorem turn_size : (Tryd.prog.info? 76).map (·.size) = some 9 := by kernel_rfl
def zTn : List Value := [.int .u8 0, .int .u8 0, .int .u8 0, .int .u8 0, .int .u8 0, .int .u8 0, .int .u8 0, .int .u8 0, .int .i64 0]
set_option maxRecDepth 20000 in
set_option maxHeartbeats 8000000 in
theorem right_b (w : World) (p : List Int) (h : Int) (m : List Int) (hp : DgOk p) (hm : DgOk m) (A : Option Addr) (N C : Nat) (xs : List (List Value × TxT)) (hx : Txs w A N xs) :
    Calls Tryd.prog 12 #[.agg (bkC p h m (.slice A N C)).toArray] w fun e w' => e = .returned (.int .i64 (blkE h (xs.map (·.2)))) ∧ Below w.heap.size w w' := by
  have HFE := Lib.hid (fun (w' : World) (hx' : Txs w' A N xs) (hN : N ≤ 1000) => fees_any w' p h m hp hm A N C xs hx' hN)
  have HBS := Lib.hid (blk_sz (h := h) (s := .slice A N C) hp hm)
  obtain ⟨l, hl⟩ : ∃ x, bkC p h m (.slice A N C) = x := ⟨_, rfl⟩
  obtain ⟨X, hX⟩ : ∃ X, l.toArray = X := ⟨_, rfl⟩
  obtain ⟨z, hz⟩ : ∃ z, w.heap.size = z := ⟨_, rfl⟩
  obtain ⟨w1, hw1⟩ : ∃ w1, w.alloc (.cells X 31) = w1 := ⟨_, rfl⟩
  have hb1 : Below w.heap.size w w1 := hw1 ▸ below_new w _
  have kx : Bk w1 z 31 l := hw1 ▸ Bk.at_ w _ X hz (by rw [← hX])
  have hbm := bkc_mem hp hm (by rw [hl]; exact kx)
  have c8 := hbm.c8; have c17 := hbm.c17
  have HW := Lib.hid hw1; have HBB1 := Lib.hid hb1; have HZ := Lib.hid hz; have HK1 := Lib.hid kx; have HPO := Lib.hid hp; have HMO := Lib.hid hm; have HXE := Lib.hid hX; have HLE := Lib.hid hl
  have HXS := Lib.hid (hx.later hb1); have HLN := Lib.hid hx.length
  rw [hl, hX]
  clear hl hX hw1 hb1 kx hbm hz hp hm hx
  rw [HLE.out] at HFE HBS
  rw [HXE.out] at HFE
  by_cases h1 : h < 0
  · have HE := Lib.hid (blkE_r (L := xs.map (·.2)) (Or.inl h1 : h < 0 ∨ 1099511627776 < h))
    go_enter Tryd.func12, Tryd.ntmps12
    go_upto_region 1 with fail
    rw [HW.out, HZ.out]
    go_wp2_with fail
    go_ret
    exact ⟨by rw [HE.out]; rfl, HBB1.out⟩
  by_cases h2 : 1099511627776 < h
  · have HE := Lib.hid (blkE_r (L := xs.map (·.2)) (Or.inr h2 : h < 0 ∨ 1099511627776 < h))
    go_enter Tryd.func12, Tryd.ntmps12
    go_upto_region 1 with fail
    rw [HW.out, HZ.out]
    go_wp2_with fail
    go_ret
    exact ⟨by rw [HE.out]; rfl, HBB1.out⟩
  have HR : Hid (¬ (h < 0 ∨ 1099511627776 < h)) := by show ¬ _; omega
  by_cases h3 : (64 : Int) < N
  · have HE := Lib.hid (blkE_l (L := xs.map (·.2)) HR.out (by rw [List.length_map, HLN.out]; omega))
    go_enter Tryd.func12, Tryd.ntmps12
    go_upto_region 1 with fail
    rw [HW.out, HZ.out]
    go_wp2_with fail
    go_ret
    exact ⟨by rw [HE.out]; rfl, HBB1.out⟩
  have HNL : Hid (¬ 64 < (xs.map (·.2)).length) := by show ¬ _; rw [List.length_map, HLN.out]; omega
  have hmk : (Instr.makeMap 74 none).run Tryd.prog w1 = .ok (.map (some w1.heap.size)) (w1.alloc (.map #[] 0)) := by kernel_rfl
  have hbn : Below w1.heap.size w1 (w1.alloc (.map #[] 0)) := below_new w1 _
  have hc17 : (w1.alloc (.map #[] 0)).cell? ⟨z, 17, none⟩ = some (.slice A N C) := (hbn.cell (p := ⟨z, 17, none⟩) HK1.out.lt).trans c17
  have HM2 : Hid ((w1.alloc (.map #[] 0)).ownsMap (H := Unit) Tryd.prog 76 (plainElem Tryd.prog 4) w1.heap.size 0 (turnD [])) := World.ownsMap_made w1 _ _ _
  have HB2 := Lib.hid hbn
  clear hbn
  obtain ⟨L, hL⟩ : ∃ L, xs.map (·.2) = L := ⟨_, rfl⟩
  rw [hL] at HNL ⊢
  have HL := Lib.hid hL
  clear hL
  go_enter Tryd.func12, Tryd.ntmps12
  go_upto_region 1 with fail
  rw [HW.out, HZ.out]
  go_wp2_with fail
  clear hmk hc17 c8 c17
  go_loopw [5, 6, 7, 26] (fun _ _ _ kv wr => ∃ k : Nat, k ≤ N ∧ kv = .int .i64 k ∧ Hid (txsE [] L = txsE (L.take k) (L.drop k)) ∧ Hid (wr.ownsMap (H := Unit) Tryd.prog 76 (plainElem Tryd.prog 4) w1.heap.size k (turnD (L.take k))) ∧ Hid (Below w1.heap.size w1 wr)) (fun _ _ _ kv _ => N - (intOf kv).toNat)
  case atStart => exact ⟨0, Nat.zero_le _, rfl, rfl, HM2.out, HB2.out⟩
  case round =>
    obtain ⟨k, hk, rfl, HJ, HM, HB⟩ := hrel
    by_cases hlt : k < N
    · have hki : (k : Int) < N := by omega
      have hk0 : (0 : Int) ≤ k := by omega
      obtain ⟨x, hx⟩ : ∃ x, xs[k]? = some x := ⟨xs[k]'(by rw [HLN.out]; omega), List.getElem?_eq_getElem _⟩
      have hg := (HXS.out.later HB.out).th x (List.mem_of_getElem? hx)
      obtain ⟨b, o, rfl, hr, _⟩ := HXS.out.at_ HB.out hx
      have hLk : L[k]? = some x.2 := by rw [← HL.out, List.getElem?_map, hx]; rfl
      have HST := Lib.hid (txs_step hLk HJ.out)
      have HG := Lib.hid hg; have HR1 := Lib.hid hr; have HXK := Lib.hid hLk
      have HOK : Hid (∀ u ∈ L.take k, TxOk u) := fun u hu => by
        have hu := List.mem_of_mem_take hu
        rw [← HL.out] at hu
        obtain ⟨y, hy, rfl⟩ := List.mem_map.1 hu
        exact (HXS.out.th y hy).ok
      clear hg hr hx hLk HJ
      go_wp2_with (first
        | (with_reducible refine wpList_load_mid rfl 47 _ rfl b (o + k * 13) rfl x.1 _ HR1.out Tryd.underlying47 rfl HG.out.size ?_)
        | (with_reducible refine stop_store 47 _ _ rfl ?_))
      refine StopD.go ?_
      obtain ⟨g5, hg5⟩ : ∃ g, wr.heap.size = g := ⟨_, rfl⟩
      have hbn : Below wr.heap.size wr (wr.alloc (.cells #[.int .u8 0, .int .u8 0, .int .u8 0, .int .u8 0, .int .u8 0, .int .u8 0, .int .u8 0, .int .u8 0, .int .i64 0, .int .i64 0, .int .i64 0, .slice none 0 0, .slice none 0 0] 47)) := below_new wr _
      have kt : Bk (wr.alloc (.cells #[.int .u8 0, .int .u8 0, .int .u8 0, .int .u8 0, .int .u8 0, .int .u8 0, .int .u8 0, .int .u8 0, .int .i64 0, .int .i64 0, .int .i64 0, .slice none 0 0, .slice none 0 0] 47)) g5 47 ([] ++ (zTx ++ [])) := by rw [← hg5]; exact Bk.new' wr _ #[.int .u8 0, .int .u8 0, .int .u8 0, .int .u8 0, .int .u8 0, .int .u8 0, .int .u8 0, .int .u8 0, .int .i64 0, .int .i64 0, .int .i64 0, .slice none 0 0, .slice none 0 0] rfl
      rw [hg5]
      refine wpList_store_part rfl 47 _ _ rfl g5 0 (.agg (x.1).toArray) (x.1) rfl rfl rfl 47 [] zTx [] kt rfl (by rw [HG.out.len]; rfl) HG.out.size HG.out.one ?_
      intro w5 hp
      have hbn : Below wr.heap.size wr w5 := hbn.grown hp.only hbn.size (fun q hq => by injection hq with hq; omega)
      have HT5 : Hid (Bk w5 g5 47 (x.1)) := by show Bk _ _ _ _; have := hp.bk; simpa using this
      clear hp kt hg5
      have HB5 := Lib.hid (below_then HB.out hbn); have HM5 := Lib.hid (map_later HM.out hbn); have HG5 := Lib.hid (HG.out.later hbn)
      clear hbn HM
      go_wp2_with (with_reducible refine wpList_load_bk rfl 47 _ rfl g5 rfl x.1 47 HT5.out _ Tryd.underlying47 rfl HG5.out.size ?_)
      refine (txg_check HG5.out).mono ?_
      rintro e w6 ⟨rfl, hbn⟩
      have HB6 := Lib.hid (below_then HB5.out hbn); have HM6 := Lib.hid (map_later HM5.out hbn); have HT6 := Lib.hid (HT5.out.later hbn); have HG6 := Lib.hid (HG5.out.later hbn)
      clear hbn HB5 HM5 HT5
      obtain ⟨E, hE⟩ : ∃ E, txE x.2 = E := ⟨_, rfl⟩
      rw [hE] at HST ⊢
      clear hE
      by_cases hE0 : E = 0
      · have hd1 : (E != 0) = false := by simp [hE0]
        have hd2 : decide (E = 0) = true := by simp [hE0]
        have HST : Hid (txsE [] L = if (L.take k).any (turnB x.2) then 7 else txsE (L.take (k + 1)) (L.drop (k + 1))) := by
          have := HST.out
          rwa [if_neg (by simp [hE0])] at this
        clear hE0
        obtain ⟨h60, h68⟩ := HG6.out.at0 HT6.out
        have H60 := Lib.hid h60
        have HTO := Lib.hid HG6.out.ok
        clear h60
        go_wp2_with (first
          | (with_reducible refine wpList_load_mid rfl 28 _ rfl g5 0 rfl (dl x.2.f) _ H60.out Tryd.underlying28 rfl (hdg_size _ HTO.out.f) ?_)
          | ((with_reducible refine wpList_build rfl 76 _ rfl #[(0, .agg (dl x.2.f).toArray), (1, .int .i64 x.2.n)] ?_ _ (build_turn HTO.out.f _) ?_); focus (simp [Act.eval, Act.put]; done))
          | (with_reducible refine stop_store 76 _ _ rfl ?_))
        refine StopD.go ?_
        obtain ⟨g7, hg7⟩ : ∃ g, w6.heap.size = g := ⟨_, rfl⟩
        have hbn : Below w6.heap.size w6 (w6.alloc (.cells #[.int .u8 0, .int .u8 0, .int .u8 0, .int .u8 0, .int .u8 0, .int .u8 0, .int .u8 0, .int .u8 0, .int .i64 0] 76)) := below_new w6 _
        have kt : Bk (w6.alloc (.cells #[.int .u8 0, .int .u8 0, .int .u8 0, .int .u8 0, .int .u8 0, .int .u8 0, .int .u8 0, .int .u8 0, .int .i64 0] 76)) g7 76 ([] ++ (zTn ++ [])) := by rw [← hg7]; exact Bk.new' w6 _ #[.int .u8 0, .int .u8 0, .int .u8 0, .int .u8 0, .int .u8 0, .int .u8 0, .int .u8 0, .int .u8 0, .int .i64 0] rfl
        rw [hg7]
        refine wpList_store_part rfl 76 _ _ rfl g7 0 (.agg (turnC x.2).toArray) (turnC x.2) rfl rfl rfl 76 [] zTn [] kt rfl (by rw [turnC_len HTO.out.f]; rfl) (by rw [turnC_len HTO.out.f]; exact turn_size) (turnC_one _) ?_
        intro w7 hp
        have hbn : Below w6.heap.size w6 w7 := hbn.grown hp.only hbn.size (fun q hq => by injection hq with hq; omega)
        have HT7 : Hid (Bk w7 g7 76 (turnC x.2)) := by show Bk _ _ _ _; have := hp.bk; simpa using this
        have HB7 := Lib.hid (below_then HB6.out hbn); have HM7 := Lib.hid (map_later HM6.out hbn)
        clear hp kt hg7 hbn h68 HB6 HM6 HT6 H60
        have hlk := turn_look HM7.out HOK.out HTO.out
        obtain ⟨S, hS⟩ : ∃ S, (L.take k).any (turnB x.2) = S := ⟨_, rfl⟩
        rw [hS] at hlk HST
        clear hS
        cases S
        · go_wp2_with (first
            | (with_reducible refine wpList_load_bk rfl 76 _ rfl g7 rfl (turnC x.2) 76 HT7.out _ Tryd.underlying76 rfl (by rw [turnC_len HTO.out.f]; exact turn_size) ?_)
            | (at_mapUpdate; refine stop_here2 ?_))
          refine StopD.go ?_
          refine wpList_mapUpdate_own _ rfl _ _ _ 74 rfl 76 4 Tryd.keyedTurn Tryd.underlying74 (plainElem Tryd.prog 4) w1.heap.size k (turnD (L.take k)) rfl HM7.out (by unfold maxLen; omega) _ _ (turnK x.2) rfl rfl (keyOf_turn HTO.out.f HTO.out.n) (.lit (.bool true)) [] (plainElem_bool Tryd.underlying4 true) ?_
          intro w9 hown hg
          have HM9 : Hid (w9.ownsMap (H := Unit) Tryd.prog 76 (plainElem Tryd.prog 4) w1.heap.size (k + 1) (turnD (L.take (k + 1)))) := by
            show World.ownsMap _ _ _ _ _ _ _
            rw [take_snoc HXK.out, turnD_snoc]
            exact hown
          have HB9 := Lib.hid (below_only HB7.out hg HB7.out.size (Nat.le_refl _))
          have HST9 : Hid (txsE [] L = txsE (L.take (k + 1)) (L.drop (k + 1))) := by show _ = _; have := HST.out; simpa using this
          clear hown hg hlk HST HM7 HB7 HT7
          go_wp2_with fail
          go_roundw
          case rel => exact ⟨k + 1, hlt, by go_num, HST9, HM9, HB9⟩
          case measure => simp [intOf]; omega
        · have HE := Lib.hid (blkE_t HR.out HNL.out (e := 7) (by have := HST.out; simpa using this) (by decide))
          go_wp2_with (with_reducible refine wpList_load_bk rfl 76 _ rfl g7 rfl (turnC x.2) 76 HT7.out _ Tryd.underlying76 rfl (by rw [turnC_len HTO.out.f]; exact turn_size) ?_)
          go_ret
          exact ⟨by rw [HE.out]; rfl, below_then HBB1.out HB7.out⟩
      · have hd1 : (E != 0) = true := by simp [hE0]
        have hd2 : decide (E = 0) = false := by simp [hE0]
        have HE := Lib.hid (blkE_t HR.out HNL.out (e := E) (by have := HST.out; rwa [if_pos hE0] at this) hE0)
        clear hE0
        go_wp2_with fail
        go_ret
        exact ⟨by rw [HE.out]; rfl, below_then HBB1.out HB6.out⟩
    · have hki : ¬ ((k : Int) < N) := by omega
      obtain rfl : k = N := by omega
      have hLl : L.length = k := by rw [← HL.out, List.length_map, HLN.out]
      have hT : txsE [] L = 0 := by
        have := HJ.out
        rwa [List.take_of_length_le (by omega), List.drop_of_length_le (by omega), txsE] at this
      have hE := blkE_f HR.out HNL.out hT
      have hS := sumG_fees L 0 (fun t ht => fit_fee (txE_fit (txsE_all L [] hT t ht))) (Int.le_refl _) (by decide)
      rw [Int.zero_add] at hS
      have hfe : xs.map (·.2.e) = L.map TxT.e := by rw [← HL.out, List.map_map]; rfl
      have HKr := Lib.hid (HK1.out.later HB.out)
      have HCS : Hid ((sumG 0 (L.map TxT.e)).2 = 0 ∧ blkE h L = 0 ∨ (sumG 0 (L.map TxT.e)).2 = 2 ∧ blkE h L = 2) := by
        by_cases hf : feesS L ≤ 1125899906842624
        · left; rw [hS, if_pos hf, hE, if_neg (by omega)]; exact ⟨rfl, rfl⟩
        · right; rw [hS, if_neg hf, hE, if_pos (by omega)]; exact ⟨rfl, rfl⟩
      rw [hfe] at HFE
      clear hS hE hT hfe hLl
      go_wp2_with (with_reducible refine wpList_load_bk rfl 31 _ rfl z rfl l 31 HKr.out _ Tryd.underlying31 rfl HBS.out ?_)
      rw [HXE.out]
      refine (HFE.out wr (HXS.out.later HB.out) (by omega)).mono ?_
      rintro e w3 ⟨⟨v, rfl, hown⟩, hbn⟩
      obtain ⟨A3, c3, rfl⟩ := own_form hown
      have HO3 := Lib.hid hown; have HB3 := Lib.hid (below_then HB.out hbn)
      clear hown hbn
      go_wp2_with fail
      refine (sum_any A3 k c3 (L.map TxT.e) w3 (Sl.of_own HO3.out)).mono ?_
      rintro e w4 ⟨rfl, hw4⟩
      subst hw4
      obtain ⟨R1, hR1⟩ : ∃ R, (sumG 0 (L.map TxT.e)).1 = R := ⟨_, rfl⟩
      obtain ⟨R2, hR2⟩ : ∃ R, (sumG 0 (L.map TxT.e)).2 = R := ⟨_, rfl⟩
      have hcs := HCS.out
      rw [hR1, hR2]
      rw [hR2] at hcs
      clear hR1 hR2 HCS
      rcases hcs with ⟨rfl, hE⟩ | ⟨rfl, hE⟩
      · have HE := Lib.hid hE
        clear hE
        go_wp2_with fail
        go_ret
        exact ⟨by rw [HE.out]; rfl, below_then HBB1.out HB3.out⟩
      · have HE := Lib.hid hE
        clear hE
        go_wp2_with fail
        go_ret
        exact ⟨by rw [HE.out]; rfl, below_then HBB1.out HB3.out⟩
/-- What a block's fees are told as. -/
def feeV (h : Int) (L : List TxT) : Int := if blkE h L = 0 then feesS L else 0
set_option maxRecDepth 20000 in
set_option maxHeartbeats 8000000 in
theorem bFees_any (w : World) (p : List Int) (h : Int) (m : List Int) (hp : DgOk p) (hm : DgOk m) (A : Option Addr) (N C : Nat) (xs : List (List Value × TxT)) (hx : Txs w A N xs) :
    Calls Tryd.prog 15 #[.agg (bkC p h m (.slice A N C)).toArray] w fun e w' => e = .returned (.tuple #[.int .i64 (feeV h (xs.map (·.2))), .int .i64 (blkE h (xs.map (·.2)))]) ∧ Below w.heap.size w w' := by
  have HFE := Lib.hid (fun (w' : World) (hx' : Txs w' A N xs) (hN : N ≤ 1000) => fees_any w' p h m hp hm A N C xs hx' hN)
  have HRE := Lib.hid (fun (w' : World) (hx' : Txs w' A N xs) => right_b w' p h m hp hm A N C xs hx')
  have HBS := Lib.hid (blk_sz (h := h) (s := .slice A N C) hp hm)
  obtain ⟨l, hl⟩ : ∃ x, bkC p h m (.slice A N C) = x := ⟨_, rfl⟩
  obtain ⟨X, hX⟩ : ∃ X, l.toArray = X := ⟨_, rfl⟩
  obtain ⟨z, hz⟩ : ∃ z, w.heap.size = z := ⟨_, rfl⟩
  obtain ⟨w1, hw1⟩ : ∃ w1, w.alloc (.cells X 31) = w1 := ⟨_, rfl⟩
  have hb1 : Below w.heap.size w w1 := hw1 ▸ below_new w _
  have kx : Bk w1 z 31 l := hw1 ▸ Bk.at_ w _ X hz (by rw [← hX])
  have hbm := bkc_mem hp hm (by rw [hl]; exact kx)
  have c8 := hbm.c8; have c17 := hbm.c17
  have HW := Lib.hid hw1; have HBB1 := Lib.hid hb1; have HZ := Lib.hid hz; have HK1 := Lib.hid kx; have HPO := Lib.hid hp; have HMO := Lib.hid hm; have HXE := Lib.hid hX; have HLE := Lib.hid hl
  have HXS := Lib.hid (hx.later hb1); have HLN := Lib.hid hx.length
  rw [hl, hX]
  clear hl hX hw1 hb1 kx hbm hz hp hm hx
  rw [HLE.out] at HFE HBS HRE
  rw [HXE.out] at HFE HRE
  obtain ⟨L, hL⟩ : ∃ L, xs.map (·.2) = L := ⟨_, rfl⟩
  rw [hL] at HRE ⊢
  have HL := Lib.hid hL
  obtain ⟨E, hE⟩ : ∃ E, blkE h L = E := ⟨_, rfl⟩
  have HFV : Hid (feeV h L = if E = 0 then feesS L else 0) := by show _ = _; rw [feeV, hE]
  rw [hE] at HRE ⊢
  have HE := Lib.hid hE
  clear hL hE
  go_enter Tryd.func15, Tryd.ntmps15
  go_upto_region 1 with fail
  rw [HW.out, HZ.out]
  go_wp2_with (with_reducible refine wpList_load_bk rfl 31 _ rfl z rfl l 31 HK1.out _ Tryd.underlying31 rfl HBS.out ?_)
  rw [HXE.out]
  refine (HRE.out w1 HXS.out).mono ?_
  rintro e w2 ⟨rfl, hbn⟩
  have HB2 := Lib.hid (below_then HBB1.out hbn); have HX2 := Lib.hid (HXS.out.later hbn); have HK2 := Lib.hid (HK1.out.later hbn)
  clear hbn HXS HK1 HBB1 c8 c17
  by_cases hE0 : E = 0
  · subst hE0
    have hz := blkE_zero HE.out
    have hS := sumG_fees L 0 (fees_ok HE.out) (Int.le_refl _) (by decide)
    rw [Int.zero_add, if_pos hz.2.2.2] at hS
    have hfe : xs.map (·.2.e) = L.map TxT.e := by rw [← HL.out, List.map_map]; rfl
    have hN : N ≤ 1000 := by have := hz.2.1; rw [← HL.out, List.length_map, HLN.out] at this; omega
    rw [hfe] at HFE
    have HS := Lib.hid hS
    have HF0 : Hid (feeV h L = feesS L) := by have := HFV.out; rwa [if_pos rfl] at this
    clear hz hS hfe
    go_wp2_with (with_reducible refine wpList_load_bk rfl 31 _ rfl z rfl l 31 HK2.out _ Tryd.underlying31 rfl HBS.out ?_)
    rw [HXE.out]
    refine (HFE.out w2 HX2.out hN).mono ?_
    rintro e w3 ⟨⟨v, rfl, hown⟩, hbn⟩
    obtain ⟨A3, c3, rfl⟩ := own_form hown
    have HO3 := Lib.hid hown; have HB3 := Lib.hid (below_then HB2.out hbn)
    clear hown hbn
    go_wp2_with fail
    refine (sum_any A3 N c3 (L.map TxT.e) w3 (Sl.of_own HO3.out)).mono ?_
    rintro e w4 ⟨rfl, hw4⟩
    subst hw4
    rw [show (sumG 0 (L.map TxT.e)).1 = feesS L by rw [HS.out], show (sumG 0 (L.map TxT.e)).2 = 0 by rw [HS.out]]
    go_wp2_with fail
    go_ret2
    exact ⟨by rw [HF0.out]; rfl, HB3.out⟩
  · have hd1 : (E != 0) = true := by simp [hE0]
    have HF0 : Hid (feeV h L = 0) := by have := HFV.out; rwa [if_neg hE0] at this
    clear hE0
    go_wp2_with fail
    go_ret2
    exact ⟨by rw [HF0.out]; rfl, HB2.out⟩
end Go.Proofs.YtbpmomedhdmloaaDoor
