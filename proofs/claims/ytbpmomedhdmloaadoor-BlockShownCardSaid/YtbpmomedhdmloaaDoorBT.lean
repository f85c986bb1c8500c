/- BlockShown: the walk. -/
import Derived.Test.YtbpmomedhdmloaaDoorBS
namespace Go.Proofs.YtbpmomedhdmloaaDoor
set_option linter.unusedSimpArgs false
set_option linter.unusedVariables false
open Go.RowKit Go.Maps

theorem HasR.at_ {L : List TxT} {d : List Int} {k : Int} {b : Bool} {i : Nat} {t : TxT} (h : HasR L d k b) (hk : L[i]? = some t) (he : eqL (txN t) d = true) : b = true ∧ ∃ j : Nat, k = j ∧ j ≤ i := by
  rcases h with ⟨hb, j, u, rfl, _, _, h3⟩ | ⟨_, _, h3⟩
  · refine ⟨hb, j, rfl, ?_⟩
    rcases Nat.lt_or_ge i j with h4 | h4
    · rw [h3 i t h4 hk] at he; cases he
    · exact h4
  · rw [h3 i t hk] at he; cases he
set_option maxRecDepth 20000 in
set_option maxHeartbeats 16000000 in
theorem bshown_law (w : World) (p : List Int) (h : Int) (m : List Int) (hp : DgOk p) (hm : DgOk m) (A : Option Addr) (N C : Nat) (xs : List (List Value × TxT)) (hx : Txs w A N xs)
    (hl : ∀ x ∈ xs, x.2.b.length ≤ 140737488355328 ∧ x.2.s.length ≤ 140737488355328) (far : Int) :
    Calls Tryd.prog 6 #[.agg (bkC p h m (.slice A N C)).toArray, .int .i64 far] w fun e w' => e = .returned (.bool true) ∧ Below w.heap.size w w' := by
  have hF0 : Hid (BkFit (bkC p h m (.slice A N C))) := bk_fit hp hm
  have HFB := Lib.hid (fun (A' : Option Addr) (N' C' : Nat) => bk_fit (p := p) (h := h) (m := m) (A := A') (N := N') (C := C') hp hm)
  have HFW := Lib.hid (fun w' (hx' : Txs w' A N xs) => few_any w' p h m hp hm A N C xs hx' hl)
  have HOF := Lib.hid (fun w' (hx' : Txs w' A N xs) (hN : N ≤ 1000) => of_any w' p h m hp hm A N C xs hx' hN)
  obtain ⟨L, hL⟩ : ∃ L, xs.map (·.2) = L := ⟨_, rfl⟩
  have HLN : Hid (L.length = N) := by show _ = _; rw [← hL, List.length_map, hx.length]
  rw [hL] at HFW
  have HL := Lib.hid hL
  obtain ⟨l, hl0⟩ : ∃ x, bkC p h m (.slice A N C) = x := ⟨_, rfl⟩
  obtain ⟨X, hX⟩ : ∃ X, l.toArray = X := ⟨_, rfl⟩
  obtain ⟨z, hz⟩ : ∃ z, w.heap.size = z := ⟨_, rfl⟩
  obtain ⟨w1, hw1⟩ : ∃ w1, w.alloc (.cells X 25) = w1 := ⟨_, rfl⟩
  have hb1 : Below w.heap.size w w1 := hw1 ▸ below_new w _
  have kx : Bk w1 z 25 l := hw1 ▸ Bk.at_ w _ X hz (by rw [← hX])
  have HW := Lib.hid hw1; have HBB1 := Lib.hid hb1; have HZ := Lib.hid hz; have HK1 := Lib.hid kx; have HPO := Lib.hid hp; have HMO := Lib.hid hm; have HXE := Lib.hid hX; have HLE := Lib.hid hl0
  have HX1 := Lib.hid (hx.later hb1)
  have HFL : Hid (BkFit l) := hl0 ▸ hF0.out
  rw [hl0] at HFW HOF ⊢
  rw [hX] at HFW HOF ⊢
  clear hL hl0 hX hz hw1 hb1 kx hF0 hp hm hx hl
  go_enter Tryd.func6, Tryd.ntmps6
  go_upto_region 1 with fail
  rw [HW.out, HZ.out]
  go_wp2_with fail
  refine (known_any w1).mono ?_
  rintro e w2 ⟨rfl, hbn⟩
  have HBB2 := Lib.hid (below_then HBB1.out hbn)
  have HK2 := Lib.hid (HK1.out.later hbn)
  have HX2 := Lib.hid (HX1.out.later hbn)
  clear hbn
  go_wp2_with ((with_reducible refine wpList_load_bkG2 ?_ 25 _ rfl z rfl l 25 HK2.out _ Tryd.underlying25 rfl HFL.out.rsize ?_); rfl)
  rw [HXE.out]
  refine (HFW.out w2 HX2.out).mono ?_
  rintro e w3 ⟨rfl, hbn⟩
  have HBB3 := Lib.hid (below_then HBB2.out hbn)
  have HK3 := Lib.hid (HK2.out.later hbn)
  have HX3 := Lib.hid (HX2.out.later hbn)
  clear hbn
  obtain ⟨fw, hfw⟩ : ∃ b, fewT L = b := ⟨_, rfl⟩
  rw [hfw]
  have HFE := Lib.hid hfw
  clear hfw HK1 HK2 HX1 HX2
  cases fw
  · go_wp2_with fail
    refine (known_any w3).mono ?_
    rintro e w4 ⟨rfl, hbn⟩
    go_wp2_with fail
    go_ret
    exact ⟨rfl, below_then HBB3.out hbn⟩
  have HN : Hid (N ≤ 66) := by have := few_len HFE.out; rw [HLN.out] at this; exact this
  have HEA : Hid (∀ x ∈ xs, x.2.b.length ≤ 1073741000 ∧ x.2.s.length ≤ 1073741000) := fun x hx => by
    have := few_each HFE.out x.2 (by rw [← HL.out]; exact List.mem_map_of_mem hx)
    omega
  have HOF := Lib.hid (fun w' hx' => HOF.out w' hx' (by have := HN.out; omega))
  go_wp2_with (with_reducible refine wpList_load_bk rfl 25 _ rfl z rfl l 25 HK3.out _ Tryd.underlying25 rfl HFL.out.rsize ?_)
  rw [HXE.out]
  refine (HOF.out w3 HX3.out).mono ?_
  rintro e w4 ⟨⟨v, rfl, hown⟩, hbn⟩
  obtain ⟨A2, c2, rfl⟩ := own_form hown
  have HX4 : Hid (Txs w4 A2 N xs) := ⟨Sl.of_own hown, fun x hx => (HX3.out.th x hx).later hbn⟩
  have HBB4 := Lib.hid (below_then HBB3.out hbn)
  clear hbn
  clear hown HX3 HK3 HOF HFW
  obtain ⟨B1, hB1⟩ : ∃ l, bkC p h m (.slice A2 N c2) = l := ⟨_, rfl⟩
  have HB1 := Lib.hid hB1
  have HF1 : Hid (BkFit B1) := hB1 ▸ HFB.out A2 N c2
  have HM : Hid (∀ w' g', Bk w' g' 31 B1 → BkcM w' g' p h m (.slice A2 N c2)) := fun w' g' k => by rw [← hB1] at k; exact bkc_mem HPO.out HMO.out k
  have hn1 : N ≤ 1000 := by have := HN.out; omega
  have HRT := Lib.hid (fun w' (hx' : Txs w' A2 N xs) => brootT_any w' p h m HPO.out HMO.out A2 N c2 xs hx' hn1 HEA.out)
  have HPA := Lib.hid (fun (i : Int) w' (hx' : Txs w' A2 N xs) => bpath_any w' p h m HPO.out HMO.out A2 N c2 xs hx' hn1 HEA.out i)
  have HHA := Lib.hid (fun (d : List Int) (hd : DgOk d) w' (hx' : Txs w' A2 N xs) => has_any26 w' p h m HPO.out HMO.out A2 N c2 xs hx' hn1 HEA.out d hd)
  rw [hB1, HL.out] at HRT HPA HHA
  rw [hB1]
  clear hB1 hn1
  go_wp2_with (with_reducible refine stop_store 31 _ _ rfl ?_)
  refine StopD.go ?_
  obtain ⟨g5, hg5⟩ : ∃ g, w4.heap.size = g := ⟨_, rfl⟩
  have hbn : Below w4.heap.size w4 (w4.alloc (.cells #[.int .u8 0, .int .u8 0, .int .u8 0, .int .u8 0, .int .u8 0, .int .u8 0, .int .u8 0, .int .u8 0, .int .i64 0, .int .u8 0, .int .u8 0, .int .u8 0, .int .u8 0, .int .u8 0, .int .u8 0, .int .u8 0, .int .u8 0, .slice none 0 0] 31)) := below_new w4 _
  have kt : Bk (w4.alloc (.cells #[.int .u8 0, .int .u8 0, .int .u8 0, .int .u8 0, .int .u8 0, .int .u8 0, .int .u8 0, .int .u8 0, .int .i64 0, .int .u8 0, .int .u8 0, .int .u8 0, .int .u8 0, .int .u8 0, .int .u8 0, .int .u8 0, .int .u8 0, .slice none 0 0] 31)) g5 31 ([] ++ (zBk ++ [])) := by rw [← hg5]; exact Bk.new' w4 _ #[.int .u8 0, .int .u8 0, .int .u8 0, .int .u8 0, .int .u8 0, .int .u8 0, .int .u8 0, .int .u8 0, .int .i64 0, .int .u8 0, .int .u8 0, .int .u8 0, .int .u8 0, .int .u8 0, .int .u8 0, .int .u8 0, .int .u8 0, .slice none 0 0] rfl
  rw [hg5]
  refine wpList_store_part rfl 31 _ _ rfl g5 0 (.agg (B1).toArray) (B1) rfl rfl rfl 31 [] zBk [] kt rfl (by rw [HF1.out.len]; rfl) HF1.out.size HF1.out.one ?_
  intro w5 hp
  have hbn : Below w4.heap.size w4 w5 := hbn.grown hp.only hbn.size (fun q hq => by injection hq with hq; omega)
  have HA5 : Hid (Bk w5 g5 31 (B1)) := by show Bk _ _ _ _; have := hp.bk; simpa using this
  clear hp kt
  have HBB5 := Lib.hid (below_then HBB4.out hbn)
  have HX5 := Lib.hid (HX4.out.later hbn)
  clear hbn
  clear hg5 HX4
  have HTO := Lib.hid (rootT_ok h L)
  obtain ⟨E, hE⟩ : ∃ E, blkE h L = E := ⟨_, rfl⟩
  have hz : E = 0 → N ≤ 64 := fun e => by have := (blkE_zero (hE.trans e)).2.1; rw [HLN.out] at this; exact this
  have HTV : Hid (rootT h L = if E = 0 then (if N = 0 then wordI zeroD txtNone else rootI (namesT L)) else zeroD) := by show _ = _; rw [rootT, hE, HLN.out]
  have HPT : Hid (∀ i : Int, pathT h L i = if E = 0 ∧ 0 ≤ i ∧ i < N then pathL (namesT L) i else []) := fun i => by rw [pathT, hE, HLN.out]
  have HPE : Hid (∀ i : Int, pathTE h L i = if E = 0 then (if 0 ≤ i ∧ i < N then 0 else 9) else E) := fun i => by rw [pathTE, hE, HLN.out]
  obtain ⟨T, hT⟩ : ∃ T, rootT h L = T := ⟨_, rfl⟩
  rw [hE, hT] at HRT
  rw [hT] at HTO HTV
  have HZQ := Lib.hid hz
  clear hE hT hz
  go_wp2_with (with_reducible refine wpList_load_bk rfl 31 _ rfl g5 rfl B1 31 HA5.out _ Tryd.underlying31 rfl HF1.out.size ?_)
  refine (HRT.out w5 HX5.out).mono ?_
  rintro e w6 ⟨rfl, hbn⟩
  have HBB6 := Lib.hid (below_then HBB5.out hbn)
  have HX6 := Lib.hid (HX5.out.later hbn)
  have HA6 := Lib.hid (HA5.out.later hbn)
  clear hbn
  clear HX5 HA5 HRT
  go_wp2_with (with_reducible refine stop_store 28 _ _ rfl ?_)
  refine StopD.go ?_
  obtain ⟨g7, hg7⟩ : ∃ g, w6.heap.size = g := ⟨_, rfl⟩
  have hbn : Below w6.heap.size w6 (w6.alloc (.cells #[.int .u8 0, .int .u8 0, .int .u8 0, .int .u8 0, .int .u8 0, .int .u8 0, .int .u8 0, .int .u8 0] 28)) := below_new w6 _
  have kt : Bk (w6.alloc (.cells #[.int .u8 0, .int .u8 0, .int .u8 0, .int .u8 0, .int .u8 0, .int .u8 0, .int .u8 0, .int .u8 0] 28)) g7 28 ([] ++ (dl zeroD ++ [])) := by rw [← hg7]; exact Bk.new' w6 _ #[.int .u8 0, .int .u8 0, .int .u8 0, .int .u8 0, .int .u8 0, .int .u8 0, .int .u8 0, .int .u8 0] rfl
  rw [hg7]
  refine wpList_store_part rfl 28 _ _ rfl g7 0 (.agg (dl T).toArray) (dl T) rfl rfl rfl 28 [] (dl zeroD) [] kt rfl (by rw [dl_len, dl_len, HTO.out.len]; rfl) (hdg_size _ HTO.out) (dl_one' _) ?_
  intro w7 hp
  have hbn : Below w6.heap.size w6 w7 := hbn.grown hp.only hbn.size (fun q hq => by injection hq with hq; omega)
  have HD7 : Hid (Bk w7 g7 28 (dl T)) := by show Bk _ _ _ _; have := hp.bk; simpa using this
  clear hp kt hg7
  have HBB7 := Lib.hid (below_then HBB6.out hbn)
  have HX7 := Lib.hid (HX6.out.later hbn)
  have HA7 := Lib.hid (HA6.out.later hbn)
  clear hbn
  clear HX6 HA6
  by_cases hE0 : E = 0
  · have HN64 := Lib.hid (HZQ.out hE0)
    have HTV2 : Hid (T = if N = 0 then wordI zeroD txtNone else rootI (namesT L)) := HTV.out.trans (if_pos hE0)
    have HPE2 : Hid (∀ i : Int, pathTE h L i = if 0 ≤ i ∧ i < N then 0 else 9) := fun i => (HPE.out i).trans (if_pos hE0)
    have HPU : Hid (∀ i : Int, ¬ (0 ≤ i ∧ i < N) → pathT h L i = []) := fun i hi => (HPT.out i).trans (if_neg (fun q => hi q.2))
    have HPT2 : Hid (∀ i : Int, 0 ≤ i ∧ i < N → pathT h L i = pathL (namesT L) i) := fun i hi => (HPT.out i).trans (if_pos ⟨hE0, hi.1, hi.2⟩)
    clear HZQ HTV HPE HPT
    subst hE0
    have hc17 := (HM.out _ _ HA7.out).c17
    go_wp2_with fail
    clear hc17
    go_loopw [10, 11, 12, 13, 14, 15, 56] (fun _ _ _ _ _ _ kv wr => ∃ k : Nat, k ≤ N ∧ kv = .int .i64 k ∧ Hid (Below w7.heap.size w7 wr)) (fun _ _ _ _ _ _ kv _ => N - (intOf kv).toNat)
    case atStart => exact ⟨0, Nat.zero_le _, rfl, Below.refl _ _⟩
    case round =>
      obtain ⟨k, hk, rfl, HB⟩ := hrel
      have hNl : N ≤ 9223372036854775807 := HX7.out.sl.le
      have HAr := Lib.hid (HA7.out.later HB.out); have HDr := Lib.hid (HD7.out.later HB.out); have HXr := Lib.hid (HX7.out.later HB.out)
      by_cases hlt : k < N
      · have hki : (k : Int) < N := by omega
        have hk0 : (0 : Int) ≤ k := by omega
        obtain ⟨⟨cs, t⟩, hx⟩ : ∃ x, xs[k]? = some x := ⟨xs[k]'(by rw [HX7.out.length]; omega), List.getElem?_eq_getElem _⟩
        have hg : Txg wr cs t := HXr.out.th (cs, t) (List.mem_of_getElem? hx)
        have hlb : t.b.length ≤ 1073741000 ∧ t.s.length ≤ 1073741000 := HEA.out (cs, t) (List.mem_of_getElem? hx)
        obtain ⟨b, o, rfl, hr, _⟩ := HX7.out.at_ HB.out hx
        have hr : wr.rangeAt b (o + k * 13) cs := hr
        have HLK : Hid (L[k]? = some t) := by show _ = _; rw [← HL.out, List.getElem?_map, hx]; rfl
        have HG := Lib.hid hg; have HR := Lib.hid hr; have HLB1 := Lib.hid hlb
        have HIN := Lib.hid hlt
        have HPk : Hid (pathT h L k = pathL (namesT L) k ∧ pathTE h L k = 0) := by
          exact ⟨HPT2.out k ⟨by omega, by omega⟩, (HPE2.out k).trans (if_pos ⟨by omega, by omega⟩)⟩
        have HCK : Hid (checkI T k (txN t) (pathL (namesT L) k) = true) := by
          show _ = true
          have h1 := HTV2.out
          rw [if_neg (by omega)] at h1
          rw [h1]
          refine check_at ?_ ?_
          · rw [namesT, List.getElem?_map, HLK.out]; rfl
          · rw [namesT_len, HLN.out]; have := HN64.out; omega
        have HHV : Hid (heightV N = (((pathL (namesT L) k).length : Nat) : Int)) := by
          show _ = _
          have h1 := HN64.out
          have h2 := pathL_in (ls := namesT L) (i := k) (by rw [namesT_len, HLN.out]; omega) (by rw [namesT_len, HLN.out]; omega)
          rw [h2, pathI_len, namesT_len, HLN.out, heightV, if_neg (by omega)]
        have HPO2 := Lib.hid (pathL_ok (namesT L) k)
        have hpa := HPA.out k
        rw [HPk.out.1, HPk.out.2] at hpa
        obtain ⟨P, hP⟩ : ∃ P, pathL (namesT L) k = P := ⟨_, rfl⟩
        rw [hP] at hpa HCK HHV HPO2
        obtain ⟨q, hq⟩ : ∃ q, P.length = q := ⟨_, rfl⟩
        rw [hq] at hpa HHV
        have HPC := Lib.hid hpa
        have HTE := Lib.hid (eqL_self (txN t))
        have HTN := Lib.hid (txN_ok t)
        have HNM := Lib.hid (fun w' (hg' : Txg w' cs t) => txName_any w' cs t hg' HLB1.out.1 HLB1.out.2)
        obtain ⟨D, hD⟩ : ∃ D, txN t = D := ⟨_, rfl⟩
        rw [hD] at HCK HTE HTN HNM
        have HDE := Lib.hid hD
        clear hg hr hx hlb hpa hP hq hD HPk
        go_wp2_with (first
          | (with_reducible refine wpList_load_mid rfl 47 _ rfl b (o + k * 13) rfl cs _ HR.out Tryd.underlying47 rfl HG.out.size ?_)
          | (with_reducible refine stop_store 47 _ _ rfl ?_))
        refine StopD.go ?_
        obtain ⟨gb, hgb⟩ : ∃ g, wr.heap.size = g := ⟨_, rfl⟩
        have hbn : Below wr.heap.size wr (wr.alloc (.cells #[.int .u8 0, .int .u8 0, .int .u8 0, .int .u8 0, .int .u8 0, .int .u8 0, .int .u8 0, .int .u8 0, .int .i64 0, .int .i64 0, .int .i64 0, .slice none 0 0, .slice none 0 0] 47)) := below_new wr _
        have kt : Bk (wr.alloc (.cells #[.int .u8 0, .int .u8 0, .int .u8 0, .int .u8 0, .int .u8 0, .int .u8 0, .int .u8 0, .int .u8 0, .int .i64 0, .int .i64 0, .int .i64 0, .slice none 0 0, .slice none 0 0] 47)) gb 47 ([] ++ (zTx ++ [])) := by rw [← hgb]; exact Bk.new' wr _ #[.int .u8 0, .int .u8 0, .int .u8 0, .int .u8 0, .int .u8 0, .int .u8 0, .int .u8 0, .int .u8 0, .int .i64 0, .int .i64 0, .int .i64 0, .slice none 0 0, .slice none 0 0] rfl
        rw [hgb]
        refine wpList_store_part rfl 47 _ _ rfl gb 0 (.agg (cs).toArray) (cs) rfl rfl rfl 47 [] zTx [] kt rfl (by rw [HG.out.len]; rfl) HG.out.size HG.out.one ?_
        intro wb hp
        have hbn : Below wr.heap.size wr wb := hbn.grown hp.only hbn.size (fun q hq => by injection hq with hq; omega)
        have HTb : Hid (Bk wb gb 47 (cs)) := by show Bk _ _ _ _; have := hp.bk; simpa using this
        clear hp kt hgb
        have HAb := Lib.hid (HAr.out.later hbn); have HDb := Lib.hid (HDr.out.later hbn); have HXb := Lib.hid (HXr.out.later hbn); have HGb := Lib.hid (HG.out.later hbn); have HBb := Lib.hid (below_then HB.out hbn)
        clear hbn HAr HDr HXr HG HB HR
        go_wp2_with (with_reducible refine wpList_load_bk rfl 31 _ rfl g5 rfl B1 31 HAb.out _ Tryd.underlying31 rfl HF1.out.size ?_)
        refine (HPC.out wb HXb.out).mono ?_
        rintro e wc ⟨⟨v, rfl, hown⟩, hbn⟩
        obtain ⟨A3, c3, rfl⟩ := own_form hown
        have HSc := Lib.hid (Sl.of_own hown)
        have HAc := Lib.hid (HAb.out.later hbn); have HDc := Lib.hid (HDb.out.later hbn); have HXc := Lib.hid (HXb.out.later hbn); have HGc := Lib.hid (HGb.out.later hbn); have HBc := Lib.hid (below_then HBb.out hbn); have HTc := Lib.hid (HTb.out.later hbn)
        clear hbn hown HAb HDb HXb HGb HBb HTb HPC
        go_wp2_with fail
        refine wp_region_held_drew (S := fun w' => Bk w' g5 31 B1 ∧ Bk w' gb 47 cs) (by kernel_rfl) ⟨Bk.drew HAc.out, Bk.drew HTc.out⟩ (fun hHeld => ?_)
        have hbn : Below wc.heap.size wc wc.drew := below_draws wc wc.heap.size 1
        obtain ⟨wd, hwd⟩ : ∃ wa, wc.drew = wa := ⟨_, rfl⟩
        rw [hwd] at hbn hHeld ⊢
        have HAd := Lib.hid (HAc.out.later hbn); have HDd := Lib.hid (HDc.out.later hbn); have HXd := Lib.hid (HXc.out.later hbn); have HGd := Lib.hid (HGc.out.later hbn); have HBd := Lib.hid (below_then HBc.out hbn); have HTd := Lib.hid (HTc.out.later hbn); have HSd := Lib.hid (HSc.out.later hbn)
        clear hwd hbn HAc HDc HXc HGc HBc HTc HSc
        refine wpAnyH_take (i := 0) (v := .agg (List.toArray (B1))) rfl (by kernel_rfl) (by kernel_rfl) (by kernel_rfl) (fun _ _ _ h => h) (yieldsIf_load_mid (by rfl) _ _ rfl _ _ rfl (B1) _ (fun w hSw => (Bk.range (pre := []) (post := []) (by simpa using hSw.1) rfl)) Tryd.underlying31 rfl (HF1.out.size)) (by assumption) ?_
        try simp only [Act.put, List.setIfInBounds_toArray, List.set_cons_zero, List.set_cons_succ, List.getElem_toArray, List.getElem_cons_zero, List.getElem_cons_succ]
        refine wpAnyH_take (i := 1) (v := .agg (List.toArray (cs))) rfl (by kernel_rfl) (by kernel_rfl) (by kernel_rfl) (fun _ _ _ h => h) (yieldsIf_load_mid (by rfl) _ _ rfl _ _ rfl (cs) _ (fun w hSw => (Bk.range (pre := []) (post := []) (by simpa using hSw.2) rfl)) Tryd.underlying47 rfl (HGd.out.size)) (by assumption) ?_
        try simp only [Act.put, List.setIfInBounds_toArray, List.set_cons_zero, List.set_cons_succ, List.getElem_toArray, List.getElem_cons_zero, List.getElem_cons_succ]
        refine wpAnyH_ready (rs := [2]) (by kernel_rfl) (by simp) ?_
        refine AllReadyH.cons rfl (fun K hK => ?_) AllReadyH.nil
        go_simp
        (refine (HNM.out wd HGd.out).mono ?_; rintro e we ⟨rfl, hbn⟩; have HAe := Lib.hid (HAd.out.later hbn); have HDe := Lib.hid (HDd.out.later hbn); have HXe := Lib.hid (HXd.out.later hbn); have HGe := Lib.hid (HGd.out.later hbn); have HBe := Lib.hid (below_then HBd.out hbn); have HTe := Lib.hid (HTd.out.later hbn); have HSe := Lib.hid (HSd.out.later hbn))
        refine hK.out _ _ (⟨HAe.out, HTe.out⟩) (fun hHeld => ?_)
        clear hK K
        try simp only [Act.put, List.setIfInBounds_toArray, List.set_cons_zero, List.set_cons_succ, List.getElem_toArray, List.getElem_cons_zero, List.getElem_cons_succ]
        clear hbn HAd HDd HXd HGd HBd HTd HSd
        refine wpAnyH_ready (rs := [3]) (by kernel_rfl) (by simp) ?_
        refine AllReadyH.cons rfl (fun K hK => ?_) AllReadyH.nil
        go_simp
        (refine (HHA.out D HTN.out we HXe.out).mono ?_; rintro e wf ⟨⟨kk, bb, rfl, hRR⟩, hbn⟩; have HAf := Lib.hid (HAe.out.later hbn); have HDf := Lib.hid (HDe.out.later hbn); have HXf := Lib.hid (HXe.out.later hbn); have HGf := Lib.hid (HGe.out.later hbn); have HBf := Lib.hid (below_then HBe.out hbn); have HTf := Lib.hid (HTe.out.later hbn); have HSf := Lib.hid (HSe.out.later hbn))
        refine hK.out _ _ (⟨HAf.out, HTf.out⟩) (fun hHeld => ?_)
        clear hK K
        try simp only [Act.put, List.setIfInBounds_toArray, List.set_cons_zero, List.set_cons_succ, List.getElem_toArray, List.getElem_cons_zero, List.getElem_cons_succ]
        clear hbn HAe HDe HXe HGe HBe HTe HSe
        obtain ⟨rfl, j, rfl, hji⟩ := hRR.at_ HLK.out (by rw [HDE.out]; exact HTE.out)
        have HJI := Lib.hid hji
        clear hRR hji
        refine wpAnyH_take (i := 4) (v := ?_) rfl (by kernel_rfl) (by kernel_rfl) (by kernel_rfl) (fun _ _ _ h => h) (Or.inl ⟨by rfl, ?_⟩) (by assumption) ?_
        rotate_left
        · intro w hSw
          (try dsimp only at hSw)
          go_simp
          try with_reducible rfl
        try simp only [Act.put, List.setIfInBounds_toArray, List.set_cons_zero, List.set_cons_succ, List.getElem_toArray, List.getElem_cons_zero, List.getElem_cons_succ]
        refine wpAnyH_take (i := 5) (v := ?_) rfl (by kernel_rfl) (by kernel_rfl) (by kernel_rfl) (fun _ _ _ h => h) (Or.inl ⟨by rfl, ?_⟩) (by assumption) ?_
        rotate_left
        · intro w hSw
          (try dsimp only at hSw)
          go_simp
          try with_reducible rfl
        try simp only [Act.put, List.setIfInBounds_toArray, List.set_cons_zero, List.set_cons_succ, List.getElem_toArray, List.getElem_cons_zero, List.getElem_cons_succ]
        refine wpAnyH_take (i := 6) (v := ?_) rfl (by kernel_rfl) (by kernel_rfl) (by kernel_rfl) (fun _ _ _ h => h) (Or.inl ⟨by rfl, ?_⟩) (by assumption) ?_
        rotate_left
        · intro w hSw
          (try dsimp only at hSw)
          go_simp
          try with_reducible rfl
        try simp only [Act.put, List.setIfInBounds_toArray, List.set_cons_zero, List.set_cons_succ, List.getElem_toArray, List.getElem_cons_zero, List.getElem_cons_succ]
        refine wpAnyH_take (i := 7) (v := ?_) rfl (by kernel_rfl) (by kernel_rfl) (by kernel_rfl) (fun _ _ _ h => h) (Or.inl ⟨by rfl, ?_⟩) (by assumption) ?_
        rotate_left
        · intro w hSw
          (try dsimp only at hSw)
          go_simp
          try with_reducible rfl
        try simp only [Act.put, List.setIfInBounds_toArray, List.set_cons_zero, List.set_cons_succ, List.getElem_toArray, List.getElem_cons_zero, List.getElem_cons_succ]
        refine wpAnyH_take (i := 8) (v := ?_) rfl (by kernel_rfl) (by kernel_rfl) (by kernel_rfl) (fun _ _ _ h => h) (Or.inl ⟨by rfl, ?_⟩) (by assumption) ?_
        rotate_left
        · intro w hSw
          (try dsimp only at hSw)
          go_simp
          try with_reducible rfl
        try simp only [Act.put, List.setIfInBounds_toArray, List.set_cons_zero, List.set_cons_succ, List.getElem_toArray, List.getElem_cons_zero, List.getElem_cons_succ]
        refine wpAnyH_done rfl ?_ _
        go_wp2_with fail
        refine wp_region_held_drew (S := fun w' => Bk w' g5 31 B1 ∧ Bk w' gb 47 cs ∧ Bk w' g7 28 (dl T)) (by kernel_rfl) ⟨Bk.drew HAf.out, Bk.drew HTf.out, Bk.drew HDf.out⟩ (fun hHeld => ?_)
        have hbn : Below wf.heap.size wf wf.drew := below_draws wf wf.heap.size 1
        obtain ⟨wg, hwg⟩ : ∃ wa, wf.drew = wa := ⟨_, rfl⟩
        rw [hwg] at hbn hHeld ⊢
        have HAg := Lib.hid (HAf.out.later hbn); have HDg := Lib.hid (HDf.out.later hbn); have HGg := Lib.hid (HGf.out.later hbn); have HBg := Lib.hid (below_then HBf.out hbn); have HTg := Lib.hid (HTf.out.later hbn); have HSg := Lib.hid (HSf.out.later hbn)
        clear hwg hbn HAf HDf HXf HGf HBf HTf HSf
        refine wpAnyH_take (i := 0) (v := ?_) rfl (by kernel_rfl) (by kernel_rfl) (by kernel_rfl) (fun _ _ _ h => h) (Or.inl ⟨by rfl, ?_⟩) (by assumption) ?_
        rotate_left
        · intro w hSw
          (try dsimp only at hSw)
          go_simp
          try with_reducible rfl
        try simp only [Act.put, List.setIfInBounds_toArray, List.set_cons_zero, List.set_cons_succ, List.getElem_toArray, List.getElem_cons_zero, List.getElem_cons_succ]
        refine wpAnyH_take (i := 1) (v := ?_) rfl (by kernel_rfl) (by kernel_rfl) (by kernel_rfl) (fun _ _ _ h => h) (Or.inl ⟨by rfl, ?_⟩) (by assumption) ?_
        rotate_left
        · intro w hSw
          (try dsimp only at hSw)
          go_simp
          try with_reducible rfl
        try simp only [Act.put, List.setIfInBounds_toArray, List.set_cons_zero, List.set_cons_succ, List.getElem_toArray, List.getElem_cons_zero, List.getElem_cons_succ]
        refine wpAnyH_take (i := 2) (v := ?_) rfl (by kernel_rfl) (by kernel_rfl) (by kernel_rfl) (fun _ _ _ h => h) (Or.inl ⟨by rfl, ?_⟩) (by assumption) ?_
        rotate_left
        · intro w hSw
          (try dsimp only at hSw)
          go_simp
          try with_reducible rfl
        try simp only [Act.put, List.setIfInBounds_toArray, List.set_cons_zero, List.set_cons_succ, List.getElem_toArray, List.getElem_cons_zero, List.getElem_cons_succ]
        refine wpAnyH_take (i := 3) (v := .agg (List.toArray (dl T))) rfl (by kernel_rfl) (by kernel_rfl) (by kernel_rfl) (fun _ _ _ h => h) (yieldsIf_load_mid (by rfl) _ _ rfl _ _ rfl (dl T) _ (fun w hSw => (Bk.range (pre := []) (post := []) (by simpa using hSw.2.2) rfl)) Tryd.underlying28 rfl (hdg_size _ HTO.out)) (by assumption) ?_
        try simp only [Act.put, List.setIfInBounds_toArray, List.set_cons_zero, List.set_cons_succ, List.getElem_toArray, List.getElem_cons_zero, List.getElem_cons_succ]
        refine wpAnyH_take (i := 4) (v := ?_) rfl (by kernel_rfl) (by kernel_rfl) (by kernel_rfl) (fun _ _ _ h => h) (Or.inl ⟨by rfl, ?_⟩) (by assumption) ?_
        rotate_left
        · intro w hSw
          (try dsimp only at hSw)
          go_simp
          try with_reducible rfl
        try simp only [Act.put, List.setIfInBounds_toArray, List.set_cons_zero, List.set_cons_succ, List.getElem_toArray, List.getElem_cons_zero, List.getElem_cons_succ]
        refine wpAnyH_take (i := 5) (v := .agg (List.toArray (cs))) rfl (by kernel_rfl) (by kernel_rfl) (by kernel_rfl) (fun _ _ _ h => h) (yieldsIf_load_mid (by rfl) _ _ rfl _ _ rfl (cs) _ (fun w hSw => (Bk.range (pre := []) (post := []) (by simpa using hSw.2.1) rfl)) Tryd.underlying47 rfl (HGg.out.size)) (by assumption) ?_
        try simp only [Act.put, List.setIfInBounds_toArray, List.set_cons_zero, List.set_cons_succ, List.getElem_toArray, List.getElem_cons_zero, List.getElem_cons_succ]
        refine wpAnyH_take (i := 7) (v := ?_) rfl (by kernel_rfl) (by kernel_rfl) (by kernel_rfl) (fun _ _ _ h => h) (Or.inl ⟨by rfl, ?_⟩) (by assumption) ?_
        rotate_left
        · intro w hSw
          (try dsimp only at hSw)
          go_simp
          try with_reducible rfl
        try simp only [Act.put, List.setIfInBounds_toArray, List.set_cons_zero, List.set_cons_succ, List.getElem_toArray, List.getElem_cons_zero, List.getElem_cons_succ]
        refine wpAnyH_ready (rs := [6]) (by kernel_rfl) (by simp) ?_
        refine AllReadyH.cons rfl (fun K hK => ?_) AllReadyH.nil
        go_simp
        (refine (HNM.out wg HGg.out).mono ?_; rintro e wh ⟨rfl, hbn⟩; have HAh := Lib.hid (HAg.out.later hbn); have HDh := Lib.hid (HDg.out.later hbn); have HBh := Lib.hid (below_then HBg.out hbn); have HTh := Lib.hid (HTg.out.later hbn); have HSh := Lib.hid (HSg.out.later hbn))
        refine hK.out _ _ (⟨HAh.out, HTh.out, HDh.out⟩) (fun hHeld => ?_)
        clear hK K
        try simp only [Act.put, List.setIfInBounds_toArray, List.set_cons_zero, List.set_cons_succ, List.getElem_toArray, List.getElem_cons_zero, List.getElem_cons_succ]
        clear hbn HAg HDg HBg HTg HSg HGg
        have hsh := shown_any26 wh T k D HTO.out HTN.out A3 q c3 P HPO2.out (HSh.out.more (Nat.le_refl _))
        rw [HCK.out] at hsh
        have HSHC := Lib.hid hsh
        clear hsh
        refine wpAnyH_ready (rs := [8]) (by kernel_rfl) (by simp) ?_
        refine AllReadyH.cons rfl (fun K hK => ?_) AllReadyH.nil
        go_simp
        (refine HSHC.out.mono ?_; rintro e wi ⟨rfl, hbn⟩; have HAi := Lib.hid (HAh.out.later hbn); have HDi := Lib.hid (HDh.out.later hbn); have HBi := Lib.hid (below_then HBh.out hbn); have HTi := Lib.hid (HTh.out.later hbn))
        refine hK.out _ _ (⟨HAi.out, HTi.out, HDi.out⟩) (fun hHeld => ?_)
        clear hK K
        try simp only [Act.put, List.setIfInBounds_toArray, List.set_cons_zero, List.set_cons_succ, List.getElem_toArray, List.getElem_cons_zero, List.getElem_cons_succ]
        clear hbn HAh HDh HBh HTh HSh HSHC
        have hjk : ¬ ((k : Int) < j) := by have := HJI.out; omega
        have hjk2 : decide ((k : Int) < j) = false := by simp; have := HJI.out; omega
        refine wpAnyH_take (i := 9) (v := ?_) rfl (by kernel_rfl) (by kernel_rfl) (by kernel_rfl) (fun _ _ _ h => h) (Or.inl ⟨by rfl, ?_⟩) (by assumption) ?_
        rotate_left
        · intro w hSw
          (try dsimp only at hSw)
          go_simp
          try with_reducible rfl
        try simp only [Act.put, List.setIfInBounds_toArray, List.set_cons_zero, List.set_cons_succ, List.getElem_toArray, List.getElem_cons_zero, List.getElem_cons_succ]
        refine wpAnyH_take (i := 10) (v := ?_) rfl (by kernel_rfl) (by kernel_rfl) (by kernel_rfl) (fun _ _ _ h => h) (Or.inl ⟨by rfl, ?_⟩) (by assumption) ?_
        rotate_left
        · intro w hSw
          (try dsimp only at hSw)
          go_simp
          try with_reducible rfl
        try simp only [Act.put, List.setIfInBounds_toArray, List.set_cons_zero, List.set_cons_succ, List.getElem_toArray, List.getElem_cons_zero, List.getElem_cons_succ]
        refine wpAnyH_take (i := 11) (v := ?_) rfl (by kernel_rfl) (by kernel_rfl) (by kernel_rfl) (fun _ _ _ h => h) (Or.inl ⟨by rfl, ?_⟩) (by assumption) ?_
        rotate_left
        · intro w hSw
          (try dsimp only at hSw)
          go_simp
          try with_reducible rfl
        try simp only [Act.put, List.setIfInBounds_toArray, List.set_cons_zero, List.set_cons_succ, List.getElem_toArray, List.getElem_cons_zero, List.getElem_cons_succ]
        refine wpAnyH_take (i := 12) (v := ?_) rfl (by kernel_rfl) (by kernel_rfl) (by kernel_rfl) (fun _ _ _ h => h) (Or.inl ⟨by rfl, ?_⟩) (by assumption) ?_
        rotate_left
        · intro w hSw
          (try dsimp only at hSw)
          go_simp
          try with_reducible rfl
        try simp only [Act.put, List.setIfInBounds_toArray, List.set_cons_zero, List.set_cons_succ, List.getElem_toArray, List.getElem_cons_zero, List.getElem_cons_succ]
        refine wpAnyH_take (i := 13) (v := ?_) rfl (by kernel_rfl) (by kernel_rfl) (by kernel_rfl) (fun _ _ _ h => h) (Or.inl ⟨by rfl, ?_⟩) (by assumption) ?_
        rotate_left
        · intro w hSw
          (try dsimp only at hSw)
          go_simp
          try with_reducible rfl
        try simp only [Act.put, List.setIfInBounds_toArray, List.set_cons_zero, List.set_cons_succ, List.getElem_toArray, List.getElem_cons_zero, List.getElem_cons_succ]
        refine wpAnyH_take (i := 14) (v := ?_) rfl (by kernel_rfl) (by kernel_rfl) (by kernel_rfl) (fun _ _ _ h => h) (Or.inl ⟨by rfl, ?_⟩) (by assumption) ?_
        rotate_left
        · intro w hSw
          (try dsimp only at hSw)
          go_simp
          try with_reducible rfl
        try simp only [Act.put, List.setIfInBounds_toArray, List.set_cons_zero, List.set_cons_succ, List.getElem_toArray, List.getElem_cons_zero, List.getElem_cons_succ]
        refine wpAnyH_take (i := 15) (v := ?_) rfl (by kernel_rfl) (by kernel_rfl) (by kernel_rfl) (fun _ _ _ h => h) (Or.inl ⟨by rfl, ?_⟩) (by assumption) ?_
        rotate_left
        · intro w hSw
          (try dsimp only at hSw)
          go_simp
          try with_reducible rfl
        try simp only [Act.put, List.setIfInBounds_toArray, List.set_cons_zero, List.set_cons_succ, List.getElem_toArray, List.getElem_cons_zero, List.getElem_cons_succ]
        refine wpAnyH_take (i := 16) (v := ?_) rfl (by kernel_rfl) (by kernel_rfl) (by kernel_rfl) (fun _ _ _ h => h) (Or.inl ⟨by rfl, ?_⟩) (by assumption) ?_
        rotate_left
        · intro w hSw
          (try dsimp only at hSw)
          go_simp
          try with_reducible rfl
        try simp only [Act.put, List.setIfInBounds_toArray, List.set_cons_zero, List.set_cons_succ, List.getElem_toArray, List.getElem_cons_zero, List.getElem_cons_succ]
        refine wpAnyH_take (i := 17) (v := ?_) rfl (by kernel_rfl) (by kernel_rfl) (by kernel_rfl) (fun _ _ _ h => h) (Or.inl ⟨by rfl, ?_⟩) (by assumption) ?_
        rotate_left
        · intro w hSw
          (try dsimp only at hSw)
          go_simp
          try with_reducible rfl
        try simp only [Act.put, List.setIfInBounds_toArray, List.set_cons_zero, List.set_cons_succ, List.getElem_toArray, List.getElem_cons_zero, List.getElem_cons_succ]
        refine wpAnyH_take (i := 18) (v := ?_) rfl (by kernel_rfl) (by kernel_rfl) (by kernel_rfl) (fun _ _ _ h => h) (Or.inl ⟨by rfl, ?_⟩) (by assumption) ?_
        rotate_left
        · intro w hSw
          (try dsimp only at hSw)
          go_simp
          try with_reducible rfl
        try simp only [Act.put, List.setIfInBounds_toArray, List.set_cons_zero, List.set_cons_succ, List.getElem_toArray, List.getElem_cons_zero, List.getElem_cons_succ]
        refine wpAnyH_take (i := 19) (v := ?_) rfl (by kernel_rfl) (by kernel_rfl) (by kernel_rfl) (fun _ _ _ h => h) (Or.inl ⟨by rfl, ?_⟩) (by assumption) ?_
        rotate_left
        · intro w hSw
          (try dsimp only at hSw)
          go_simp
          try with_reducible rfl
        try simp only [Act.put, List.setIfInBounds_toArray, List.set_cons_zero, List.set_cons_succ, List.getElem_toArray, List.getElem_cons_zero, List.getElem_cons_succ]
        refine wpAnyH_take (i := 20) (v := ?_) rfl (by kernel_rfl) (by kernel_rfl) (by kernel_rfl) (fun _ _ _ h => h) (Or.inl ⟨by rfl, ?_⟩) (by assumption) ?_
        rotate_left
        · intro w hSw
          (try dsimp only at hSw)
          go_simp
          try with_reducible rfl
        try simp only [Act.put, List.setIfInBounds_toArray, List.set_cons_zero, List.set_cons_succ, List.getElem_toArray, List.getElem_cons_zero, List.getElem_cons_succ]
        refine wpAnyH_take (i := 21) (v := ?_) rfl (by kernel_rfl) (by kernel_rfl) (by kernel_rfl) (fun _ _ _ h => h) (Or.inl ⟨by rfl, ?_⟩) (by assumption) ?_
        rotate_left
        · intro w hSw
          (try dsimp only at hSw)
          go_simp
          try with_reducible rfl
        try simp only [Act.put, List.setIfInBounds_toArray, List.set_cons_zero, List.set_cons_succ, List.getElem_toArray, List.getElem_cons_zero, List.getElem_cons_succ]
        refine wpAnyH_take (i := 23) (v := ?_) rfl (by kernel_rfl) (by kernel_rfl) (by kernel_rfl) (fun _ _ _ h => h) (Or.inl ⟨by rfl, ?_⟩) (by assumption) ?_
        rotate_left
        · intro w hSw
          (try dsimp only at hSw)
          go_simp
          try with_reducible rfl
        try simp only [Act.put, List.setIfInBounds_toArray, List.set_cons_zero, List.set_cons_succ, List.getElem_toArray, List.getElem_cons_zero, List.getElem_cons_succ]
        refine wpAnyH_take (i := 22) (v := ?_) rfl (by kernel_rfl) (by kernel_rfl) (by kernel_rfl) (fun _ _ _ h => h) (Or.inl ⟨by rfl, ?_⟩) (by assumption) ?_
        rotate_left
        · intro w hSw
          (try dsimp only at hSw)
          go_simp
          try with_reducible rfl
        try simp only [Act.put, List.setIfInBounds_toArray, List.set_cons_zero, List.set_cons_succ, List.getElem_toArray, List.getElem_cons_zero, List.getElem_cons_succ]
        refine wpAnyH_take (i := 24) (v := ?_) rfl (by kernel_rfl) (by kernel_rfl) (by kernel_rfl) (fun _ _ _ h => h) (Or.inl ⟨by rfl, ?_⟩) (by assumption) ?_
        rotate_left
        · intro w hSw
          have hcell := (HM.out _ _ hSw.1).c17
          clear hSw
          go_simp
          try with_reducible rfl
        try simp only [Act.put, List.setIfInBounds_toArray, List.set_cons_zero, List.set_cons_succ, List.getElem_toArray, List.getElem_cons_zero, List.getElem_cons_succ]
        refine wpAnyH_take (i := 25) (v := ?_) rfl (by kernel_rfl) (by kernel_rfl) (by kernel_rfl) (fun _ _ _ h => h) (Or.inl ⟨by rfl, ?_⟩) (by assumption) ?_
        rotate_left
        · intro w hSw
          (try dsimp only at hSw)
          go_simp
          try with_reducible rfl
        try simp only [Act.put, List.setIfInBounds_toArray, List.set_cons_zero, List.set_cons_succ, List.getElem_toArray, List.getElem_cons_zero, List.getElem_cons_succ]
        have hrh := rheight_any N wi
        rw [HHV.out] at hrh
        have HRH := Lib.hid hrh
        clear hrh hjk hjk2
        refine wpAnyH_ready (rs := [26]) (by kernel_rfl) (by simp) ?_
        refine AllReadyH.cons rfl (fun K hK => ?_) AllReadyH.nil
        go_simp
        (refine HRH.out.mono ?_; rintro e wj ⟨rfl, rfl⟩)
        refine hK.out _ _ (⟨HAi.out, HTi.out, HDi.out⟩) (fun hHeld => ?_)
        clear hK K
        try simp only [Act.put, List.setIfInBounds_toArray, List.set_cons_zero, List.set_cons_succ, List.getElem_toArray, List.getElem_cons_zero, List.getElem_cons_succ]
        have hqq : ((q : Int) != q) = false := by simp
        refine wpAnyH_take (i := 27) (v := ?_) rfl (by kernel_rfl) (by kernel_rfl) (by kernel_rfl) (fun _ _ _ h => h) (Or.inl ⟨by rfl, ?_⟩) (by assumption) ?_
        rotate_left
        · intro w hSw
          (try dsimp only at hSw)
          go_simp
          try with_reducible rfl
        try simp only [Act.put, List.setIfInBounds_toArray, List.set_cons_zero, List.set_cons_succ, List.getElem_toArray, List.getElem_cons_zero, List.getElem_cons_succ]
        refine wpAnyH_take (i := 28) (v := ?_) rfl (by kernel_rfl) (by kernel_rfl) (by kernel_rfl) (fun _ _ _ h => h) (Or.inl ⟨by rfl, ?_⟩) (by assumption) ?_
        rotate_left
        · intro w hSw
          (try dsimp only at hSw)
          go_simp
          try with_reducible rfl
        try simp only [Act.put, List.setIfInBounds_toArray, List.set_cons_zero, List.set_cons_succ, List.getElem_toArray, List.getElem_cons_zero, List.getElem_cons_succ]
        refine wpAnyH_done rfl ?_ _
        clear hqq HRH
        go_wp2_with fail
        go_roundw
        case rel => exact ⟨k + 1, HIN.out, by go_num, HBi.out⟩
        case measure => simp [intOf]; have := HIN.out; omega
      · have hki : ¬ ((k : Int) < N) := by omega
        obtain rfl : k = N := by omega
        go_wp2_with (with_reducible refine wpList_load_bk rfl 31 _ rfl g5 rfl B1 31 HAr.out _ Tryd.underlying31 rfl HF1.out.size ?_)
        have hpa := HPA.out far wr HXr.out
        have hpe := HPE2.out far
        by_cases hf0 : far < 0
        · have hpt := HPU.out far (by omega)
          rw [if_neg (by omega)] at hpe
          rw [hpt, hpe] at hpa
          have hd1 : decide ((0 : Int) ≤ far) = false := by simp; omega
          have hd2 : ¬ ((0 : Int) ≤ far) := by omega
          have HPC := Lib.hid hpa
          clear hpa hpt hpe
          refine HPC.out.mono ?_
          rintro e wc ⟨⟨v, rfl, hown⟩, hbn⟩
          obtain ⟨A3, c3, rfl⟩ := own_form hown
          have HBc := Lib.hid (below_then HB.out hbn)
          clear hown hbn
          go_wp2_with fail
          go_ret
          exact ⟨rfl, below_then HBB7.out HBc.out⟩
        · have hd1 : decide ((0 : Int) ≤ far) = true := by simp; omega
          have hd2 : (0 : Int) ≤ far := by omega
          by_cases hf1 : far < k
          · have hd3 : decide (far < (k : Int)) = true := by simp; omega
            have HPC := Lib.hid hpa
            clear hpa hpe
            refine HPC.out.mono ?_
            rintro e wc ⟨⟨v, rfl, hown⟩, hbn⟩
            obtain ⟨A3, c3, rfl⟩ := own_form hown
            have HBc := Lib.hid (below_then HB.out hbn)
            have hc17 := (HM.out _ _ (HAr.out.later hbn)).c17
            clear hown hbn
            go_wp2_with fail
            go_ret
            exact ⟨rfl, below_then HBB7.out HBc.out⟩
          · have hd3 : decide (far < (k : Int)) = false := by simp; omega
            have hpt := HPU.out far (by omega)
            rw [if_neg (by omega)] at hpe
            rw [hpt, hpe] at hpa
            have HPC := Lib.hid hpa
            clear hpa hpe
            refine HPC.out.mono ?_
            rintro e wc ⟨⟨v, rfl, hown⟩, hbn⟩
            obtain ⟨A3, c3, rfl⟩ := own_form hown
            have HBc := Lib.hid (below_then HB.out hbn)
            have hc17 := (HM.out _ _ (HAr.out.later hbn)).c17
            clear hown hbn
            go_wp2_with fail
            go_ret
            exact ⟨rfl, below_then HBB7.out HBc.out⟩
  · have hd1 : (E != 0) = true := by simp [hE0]
    have hTT : T = zeroD := by have := HTV.out; rwa [if_neg hE0] at this
    have hpa := HPA.out 0
    have hpt := HPT.out 0
    have hpe := HPE.out 0
    rw [if_neg (fun q => hE0 q.1)] at hpt
    rw [if_neg hE0] at hpe
    rw [hpt, hpe] at hpa
    have HPC := Lib.hid hpa
    clear hpa hpt hpe hE0 HZQ HTV HPT HPE HPA HHA
    subst hTT
    have heq := dg_eqb zeroD zeroD zero_ok zero_ok
    rw [eqL_self] at heq
    go_wp2_with (with_reducible refine wpList_load_bk rfl 31 _ rfl g5 rfl B1 31 HA7.out _ Tryd.underlying31 rfl HF1.out.size ?_)
    refine (HPC.out w7 HX7.out).mono ?_
    rintro e wc ⟨⟨v, rfl, hown⟩, hbn⟩
    obtain ⟨A3, c3, rfl⟩ := own_form hown
    have HBc := Lib.hid (below_then HBB7.out hbn); have HDc := Lib.hid (HD7.out.later hbn)
    clear hown hbn HPC
    go_wp2_with (first
      | ((with_reducible refine wpList_load_bkG2 ?_ 28 _ rfl g7 rfl (dl zeroD) 28 HDc.out _ Tryd.underlying28 rfl (hdg_size _ zero_ok) ?_); rfl)
      | ((with_reducible refine wpList_buildG2 ?_ 28 _ rfl #[] ?_ _ (build_d0 _) ?_); rfl; focus (simp [Act.eval, Act.put]; done)))
    go_ret
    exact ⟨rfl, HBc.out⟩
end Go.Proofs.YtbpmomedhdmloaaDoor
