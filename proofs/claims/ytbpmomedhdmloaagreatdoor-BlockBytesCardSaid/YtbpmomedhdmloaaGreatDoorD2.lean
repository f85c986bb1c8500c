/- The document's Check of a transaction, and its Right of a block. -/
import Derived.Test.YtbpmomedhdmloaaGreatDoorD1
import Derived.Test.YtbpmomedhdmloaaGreatDoorBC
namespace Go.Proofs.YtbpmomedhdmloaaGreatDoor
set_option linter.unusedSimpArgs false
set_option linter.unusedVariables false
open Go.RowKit Go.Maps

theorem txE_out {t : TxT} (h : t.n < 0 ∨ 1099511627776 < t.n ∨ t.e < 0 ∨ 1125899906842624 < t.e ∨ t.k < 0 ∨ 2 < t.k ∨ 32768 < t.b.length ∨ 1024 < t.s.length) : txE t = 2 := by
  unfold txE
  rw [if_neg]
  simp only [txFit, Bool.and_eq_true, decide_eq_true_eq]
  omega
theorem txE_in {t : TxT} (h : ¬ (t.n < 0 ∨ 1099511627776 < t.n ∨ t.e < 0 ∨ 1125899906842624 < t.e ∨ t.k < 0 ∨ 2 < t.k ∨ 32768 < t.b.length ∨ 1024 < t.s.length)) : txE t = if t.k = 0 then paidE t.b else 0 := by
  unfold txE
  rw [if_pos]
  simp only [txFit, Bool.and_eq_true, decide_eq_true_eq]
  omega
set_option maxRecDepth 20000 in
set_option maxHeartbeats 4000000 in
theorem rcheck_any (w : World) (cs : List Value) (t : TxT) (ht : Txg w cs t) :
    Calls Tryz.prog 50 #[.agg cs.toArray] w fun e w' => e = .returned (.int .i64 (txE t)) ∧ Below w.heap.size w w' := by
  obtain ⟨⟨A, B, N, C, M, D, rfl, s1, s2, hnc, _⟩, ok⟩ := ht
  have HPD := Lib.hid (fun w' (hs : Sl w' w'.heap.size 1 A N (t.b.map (.int .u8))) (hN : N ≤ 1073741824) (hk : t.k = 0) => rpaid_any w' t ok.f A N C (.slice B M D) hs ok.b hN hnc hk)
  have HSZ : Hid ((Tryz.prog.info? 74).map (·.size) = some (txC t (.slice A N C) (.slice B M D)).length) := by show _ = _; rw [txC_len ok.f]; exact rtx_size
  obtain ⟨l, hl0⟩ : ∃ x, txC t (.slice A N C) (.slice B M D) = x := ⟨_, rfl⟩
  obtain ⟨X, hX⟩ : ∃ X, l.toArray = X := ⟨_, rfl⟩
  obtain ⟨z, hz⟩ : ∃ z, w.heap.size = z := ⟨_, rfl⟩
  obtain ⟨w1, hw1⟩ : ∃ w1, w.alloc (.cells X 74) = w1 := ⟨_, rfl⟩
  have hb1 : Below w.heap.size w w1 := hw1 ▸ below_new w _
  have kx : Bk w1 z 74 l := hw1 ▸ Bk.at_ w _ X hz (by rw [← hX])
  have hm := tx_mem ok.f (by rw [hl0]; exact kx)
  have c8 := hm.c8; have c9 := hm.c9; have c10 := hm.c10; have c11 := hm.c11; have c12 := hm.c12
  simp only [Nat.zero_add] at c8 c9 c10 c11 c12
  have e1 := s1.length; have e2 := s2.length
  have HW := Lib.hid hw1; have HB1 := Lib.hid hb1; have HZ := Lib.hid hz; have HK1 := Lib.hid kx; have HS1 := Lib.hid (s1.later hb1)
  rw [hl0, hX]
  rw [hl0] at HPD HSZ
  rw [hX] at HPD
  have HXE := Lib.hid hX
  clear hl0 hX hz hw1 hb1 kx hm s1 s2 ok hnc
  go_enter Tryz.func50, Tryz.ntmps50
  go_upto_region 1 with fail
  rw [HW.out, HZ.out]
  by_cases h1 : t.n < 0
  · have hdd : decide (t.n < 0) = true := by simp; omega
    have HT : Hid (txE t = 2) := txE_out (by omega)
    clear e1 e2
    go_wp2_with fail
    go_ret
    exact ⟨by rw [HT.out]; rfl, HB1.out⟩
  have d1 : decide (t.n < 0) = false := by simp; omega
  by_cases h2 : 1099511627776 < t.n
  · have hdd : decide (1099511627776 < t.n) = true := by simp; omega
    have HT : Hid (txE t = 2) := txE_out (by omega)
    clear e1 e2
    go_wp2_with fail
    go_ret
    exact ⟨by rw [HT.out]; rfl, HB1.out⟩
  have d2 : decide (1099511627776 < t.n) = false := by simp; omega
  by_cases h3 : t.e < 0
  · have hdd : decide (t.e < 0) = true := by simp; omega
    have HT : Hid (txE t = 2) := txE_out (by omega)
    clear e1 e2
    go_wp2_with fail
    go_ret
    exact ⟨by rw [HT.out]; rfl, HB1.out⟩
  have d3 : decide (t.e < 0) = false := by simp; omega
  by_cases h4 : 1125899906842624 < t.e
  · have hdd : decide (1125899906842624 < t.e) = true := by simp; omega
    have HT : Hid (txE t = 2) := txE_out (by omega)
    clear e1 e2
    go_wp2_with fail
    go_ret
    exact ⟨by rw [HT.out]; rfl, HB1.out⟩
  have d4 : decide (1125899906842624 < t.e) = false := by simp; omega
  by_cases h5 : t.k < 0
  · have hdd : decide (t.k < 0) = true := by simp; omega
    have HT : Hid (txE t = 2) := txE_out (by omega)
    clear e1 e2
    go_wp2_with fail
    go_ret
    exact ⟨by rw [HT.out]; rfl, HB1.out⟩
  have d5 : decide (t.k < 0) = false := by simp; omega
  by_cases h6 : 2 < t.k
  · have hdd : decide (2 < t.k) = true := by simp; omega
    have HT : Hid (txE t = 2) := txE_out (by omega)
    clear e1 e2
    go_wp2_with fail
    go_ret
    exact ⟨by rw [HT.out]; rfl, HB1.out⟩
  have d6 : decide (2 < t.k) = false := by simp; omega
  by_cases h7 : (32768 : Int) < N
  · have hdd : decide ((32768 : Int) < N) = true := by simp; omega
    have HT : Hid (txE t = 2) := txE_out (by omega)
    clear e1 e2
    go_wp2_with fail
    go_ret
    exact ⟨by rw [HT.out]; rfl, HB1.out⟩
  have d7 : decide ((32768 : Int) < N) = false := by simp; omega
  by_cases h8 : (1024 : Int) < M
  · have hdd : decide ((1024 : Int) < M) = true := by simp; omega
    have HT : Hid (txE t = 2) := txE_out (by omega)
    clear e1 e2
    go_wp2_with fail
    go_ret
    exact ⟨by rw [HT.out]; rfl, HB1.out⟩
  have d8 : decide ((1024 : Int) < M) = false := by simp; omega
  have HT : Hid (txE t = if t.k = 0 then paidE t.b else 0) := txE_in (by omega)
  have HN : Hid (N ≤ 1073741824) := by show _ ≤ _; omega
  clear e1 e2
  by_cases hk : t.k = 0
  · have HTT : Hid (txE t = paidE t.b) := HT.out.trans (if_pos hk)
    have HPC := Lib.hid (HPD.out w1 HS1.out HN.out hk)
    have hk1 : decide (t.k = 0) = true := by simp [hk]
    rw [hk] at c10
    go_wp2_with (with_reducible refine wpList_load_bk rfl 74 _ rfl z rfl l 74 HK1.out _ Tryz.underlying74 rfl HSZ.out ?_)
    rw [HXE.out]
    refine HPC.out.mono ?_
    rintro e w2 ⟨⟨d, a, rfl, hdo⟩, hbn⟩
    have HDO := Lib.hid hdo; have HB2 := Lib.hid (below_then HB1.out hbn)
    clear hdo hbn c8 c9 c10 c11 c12 h1 h2 h3 h4 h5 h6 h7 h8 d1 d2 d3 d4 d5 d6 d7 d8 hk hk1 HPD HPC
    go_wp2_with (with_reducible refine stop_store 22 _ _ rfl ?_)
    refine StopD.go ?_
    obtain ⟨g3, hg3⟩ : ∃ g, w2.heap.size = g := ⟨_, rfl⟩
    have hbn : Below w2.heap.size w2 (w2.alloc (.cells #[.int .u8 0, .int .u8 0, .int .u8 0, .int .u8 0, .int .u8 0, .int .u8 0, .int .u8 0, .int .u8 0] 22)) := below_new w2 _
    have kt : Bk (w2.alloc (.cells #[.int .u8 0, .int .u8 0, .int .u8 0, .int .u8 0, .int .u8 0, .int .u8 0, .int .u8 0, .int .u8 0] 22)) g3 22 ([] ++ (dl zeroD ++ [])) := by rw [← hg3]; exact Bk.new' w2 _ #[.int .u8 0, .int .u8 0, .int .u8 0, .int .u8 0, .int .u8 0, .int .u8 0, .int .u8 0, .int .u8 0] rfl
    rw [hg3]
    refine wpList_store_part rfl 22 _ _ rfl g3 0 (.agg (dl d).toArray) (dl d) rfl rfl rfl 22 [] (dl zeroD) [] kt rfl (dg_lensd HDO.out) (rdg_szd HDO.out) (dl_one' _) ?_
    intro w3 hp
    have hbn : Below w2.heap.size w2 w3 := hbn.grown hp.only hbn.size (fun q hq => by injection hq with hq; omega)
    have HB3 := Lib.hid (below_then HB2.out hbn)
    clear hp kt hg3 hbn
    go_wp2_with fail
    go_ret
    exact ⟨by rw [HTT.out]; rfl, HB3.out⟩
  · have HTT : Hid (txE t = 0) := HT.out.trans (if_neg hk)
    have hk1 : decide (t.k = 0) = false := by simp [hk]
    have hk2 : (t.k == 0) = false := by simp [hk]
    go_wp2_with fail
    go_ret
    exact ⟨by rw [HTT.out]; rfl, HB1.out⟩
theorem turnB_eq {t u : TxT} : turnB t u = (eqL u.f t.f && decide (u.n = t.n)) := by
  unfold turnB eqL
  rw [Bool.eq_iff_iff]
  simp only [Bool.and_eq_true, beq_iff_eq, decide_eq_true_eq]
  exact ⟨fun h => ⟨h.1.symm, h.2.symm⟩, fun h => ⟨h.1.symm, h.2.symm⟩⟩
theorem feesS_take {L : List TxT} {k : Nat} {t : TxT} (hk : L[k]? = some t) : feesS (L.take (k + 1)) = feesS (L.take k) + t.e := by
  rw [take_snoc hk, feesS_app, feesS_cons]
  show _ + (t.e + 0) = _
  omega
theorem any_none {L : List TxT} {t : TxT} {k : Nat} (h : ∀ (j : Nat) (u : TxT), j < k → L[j]? = some u → turnB t u = false) : (L.take k).any (turnB t) = false := by
  rw [List.any_eq_false]
  intro u hu
  obtain ⟨j, hj⟩ := List.getElem?_of_mem hu
  rw [List.getElem?_take] at hj
  by_cases hjk : j < k
  · rw [if_pos hjk] at hj; rw [h j u hjk hj]; simp
  · rw [if_neg hjk] at hj; cases hj
theorem any_some {L : List TxT} {t u : TxT} {j k : Nat} (hj : j < k) (hu : L[j]? = some u) (h : turnB t u = true) : (L.take k).any (turnB t) = true := by
  rw [List.any_eq_true]
  exact ⟨u, List.mem_of_getElem? (i := j) (by rw [List.getElem?_take, if_pos hj]; exact hu), h⟩
theorem Txg.mid0 {w wk : World} {cs : List Value} {t : TxT} {b q : Nat} (h : Txg w cs t) (hr : wk.rangeAt b q cs) : wk.rangeAt b q (dl t.f) ∧ wk.cell? ⟨b, q + 8, none⟩ = some (.int .i64 t.n) := by
  obtain ⟨⟨A, B, N, C, M, D, rfl, _⟩, ok⟩ := h
  have hf : t.f.length = 8 := ok.f.len
  refine ⟨fun j v hv => hr j v ?_, hr 8 _ ?_⟩
  · have hj := (List.getElem?_eq_some_iff.1 hv).1
    rw [txC, List.getElem?_append_left hj]; exact hv
  · rw [txC, List.getElem?_append_right (by rw [dl_len, hf]; omega), dl_len, hf]; rfl
set_option maxRecDepth 20000 in
set_option maxHeartbeats 8000000 in
theorem rbright_any (w : World) (p : List Int) (h : Int) (m : List Int) (hp : DgOk p) (hm : DgOk m) (A : Option Addr) (N C : Nat) (xs : List (List Value × TxT)) (hx : Txs w A N xs) :
    Calls Tryz.prog 16 #[.agg (bkC p h m (.slice A N C)).toArray] w fun e w' => e = .returned (.int .i64 (blkE h (xs.map (·.2)))) ∧ Below w.heap.size w w' := by
  have HM : Hid (∀ w' g', Bk w' g' 25 (bkC p h m (.slice A N C)) → BkcM w' g' p h m (.slice A N C)) := fun w' g' h' => bkc_mem hp hm h'
  obtain ⟨l, hl⟩ : ∃ x, bkC p h m (.slice A N C) = x := ⟨_, rfl⟩
  obtain ⟨X, hX⟩ : ∃ X, l.toArray = X := ⟨_, rfl⟩
  obtain ⟨z, hz⟩ : ∃ z, w.heap.size = z := ⟨_, rfl⟩
  obtain ⟨w1, hw1⟩ : ∃ w1, w.alloc (.cells X 25) = w1 := ⟨_, rfl⟩
  have hb1 : Below w.heap.size w w1 := hw1 ▸ below_new w _
  have kx : Bk w1 z 25 l := hw1 ▸ Bk.at_ w _ X hz (by rw [← hX])
  have hbm := bkc_mem hp hm (by rw [hl]; exact kx)
  have c8 := hbm.c8; have c17 := hbm.c17
  have HW := Lib.hid hw1; have HBB1 := Lib.hid hb1; have HZ := Lib.hid hz; have HK1 := Lib.hid kx; have HPO := Lib.hid hp; have HMO := Lib.hid hm; have HXE := Lib.hid hX; have HLE := Lib.hid hl
  have HXS := Lib.hid (hx.later hb1); have HLN := Lib.hid hx.length
  rw [hl, hX]
  clear hl hX hw1 hb1 kx hbm hz hp hm hx
  rw [HLE.out] at HM
  have hLl : (xs.map (·.2)).length = N := by rw [List.length_map]; exact HLN.out
  obtain ⟨L, hL⟩ : ∃ L, xs.map (·.2) = L := ⟨_, rfl⟩
  have HLL := Lib.hid hL
  rw [hL] at hLl ⊢
  have HLC := Lib.hid hLl
  clear hL hLl
  go_enter Tryz.func16, Tryz.ntmps16
  go_upto_region 1 with fail
  rw [HW.out, HZ.out]
  by_cases h1 : h < 0
  · have hd : decide (h < 0) = true := by simp; omega
    have HE : Hid (blkE h L = 2) := blkE_r (Or.inl h1)
    go_wp2_with fail
    go_ret
    exact ⟨by rw [HE.out]; rfl, HBB1.out⟩
  have d1 : decide (h < 0) = false := by simp; omega
  by_cases h2 : 1099511627776 < h
  · have hd : decide (1099511627776 < h) = true := by simp; omega
    have HE : Hid (blkE h L = 2) := blkE_r (Or.inr h2)
    go_wp2_with fail
    go_ret
    exact ⟨by rw [HE.out]; rfl, HBB1.out⟩
  have d2 : decide (1099511627776 < h) = false := by simp; omega
  have HH : Hid (¬ (h < 0 ∨ 1099511627776 < h)) := by show ¬ _; omega
  by_cases h3 : (64 : Int) < N
  · have HE : Hid (blkE h L = 8) := blkE_l HH.out (by rw [HLC.out]; omega)
    go_wp2_with fail
    go_ret
    exact ⟨by rw [HE.out]; rfl, HBB1.out⟩
  have HN : Hid (N ≤ 64) := by show N ≤ 64; omega
  have HN2 : Hid (¬ 64 < L.length) := by show ¬ _; rw [HLC.out]; have := HN.out; omega
  go_wp2_with fail
  clear h1 h2 h3 d1 d2 c8 c17
  go_loopw [3, 4, 5, 6, 7] (fun sv iv _ _ _ wr => ∃ i : Nat, i ≤ N ∧ iv = .int .i64 i ∧ sv = .int .i64 (feesS (L.take i)) ∧ Hid (0 ≤ feesS (L.take i) ∧ feesS (L.take i) ≤ i * 1125899906842624) ∧ Hid (txsE [] L = txsE (L.take i) (L.drop i)) ∧ Hid (Below w1.heap.size w1 wr)) (fun _ iv _ _ _ _ => N - (intOf iv).toNat)
  case atStart => exact ⟨0, Nat.zero_le _, rfl, rfl, ⟨Int.le_refl _, Int.le_refl _⟩, rfl, Below.refl _ _⟩
  case round =>
    obtain ⟨i, hi, rfl, rfl, HF, HT, HB⟩ := hrel
    have c17 := (HM.out _ _ (HK1.out.later HB.out)).c17
    obtain ⟨F, hF⟩ : ∃ F, feesS (L.take i) = F := ⟨_, rfl⟩
    have HFE := Lib.hid hF
    rw [hF] at HF ⊢
    clear hF
    by_cases hlt : i < N
    · as_aux_lemma =>
      have hki : (i : Int) < N := by omega
      have hk0 : (0 : Int) ≤ i := by omega
      have HIN := Lib.hid hlt
      obtain ⟨⟨cs, t⟩, hx⟩ : ∃ x, xs[i]? = some x := ⟨xs[i]'(by rw [HLN.out]; omega), List.getElem?_eq_getElem _⟩
      have hg : Txg wr cs t := (HXS.out.later HB.out).th (cs, t) (List.mem_of_getElem? hx)
      obtain ⟨b, o, rfl, hr, hbl⟩ := HXS.out.at_ HB.out hx
      have hr : wr.rangeAt b (o + i * 13) cs := hr
      have hLk : L[i]? = some t := by rw [← HLL.out, List.getElem?_map, hx]; rfl
      have HG := Lib.hid hg; have HR := Lib.hid hr; have HLK := Lib.hid hLk
      have HTS := Lib.hid (txs_step hLk HT.out)
      clear hg hr hx hLk hbl
      go_wp2_with (first
        | (with_reducible refine wpList_load_mid rfl 74 _ rfl b (o + i * 13) rfl cs _ HR.out Tryz.underlying74 rfl HG.out.rsize ?_)
        | (with_reducible refine stop_store 74 _ _ rfl ?_))
      refine StopD.go ?_
      obtain ⟨g5, hg5⟩ : ∃ g, wr.heap.size = g := ⟨_, rfl⟩
      have hbn : Below wr.heap.size wr (wr.alloc (.cells #[.int .u8 0, .int .u8 0, .int .u8 0, .int .u8 0, .int .u8 0, .int .u8 0, .int .u8 0, .int .u8 0, .int .i64 0, .int .i64 0, .int .i64 0, .slice none 0 0, .slice none 0 0] 74)) := below_new wr _
      have kt : Bk (wr.alloc (.cells #[.int .u8 0, .int .u8 0, .int .u8 0, .int .u8 0, .int .u8 0, .int .u8 0, .int .u8 0, .int .u8 0, .int .i64 0, .int .i64 0, .int .i64 0, .slice none 0 0, .slice none 0 0] 74)) g5 74 ([] ++ (zTx ++ [])) := by rw [← hg5]; exact Bk.new' wr _ #[.int .u8 0, .int .u8 0, .int .u8 0, .int .u8 0, .int .u8 0, .int .u8 0, .int .u8 0, .int .u8 0, .int .i64 0, .int .i64 0, .int .i64 0, .slice none 0 0, .slice none 0 0] rfl
      rw [hg5]
      refine wpList_store_part rfl 74 _ _ rfl g5 0 (.agg (cs).toArray) (cs) rfl rfl rfl 74 [] zTx [] kt rfl (by rw [HG.out.len]; rfl) HG.out.rsize HG.out.one ?_
      intro w5 hp
      have hbn : Below wr.heap.size wr w5 := hbn.grown hp.only hbn.size (fun q hq => by injection hq with hq; omega)
      have HT5 : Hid (Bk w5 g5 74 (cs)) := by show Bk _ _ _ _; have := hp.bk; simpa using this
      clear hp kt hg5
      have HB5 := Lib.hid (below_then HB.out hbn); have HG5 := Lib.hid (HG.out.later hbn)
      clear hbn c17 HB HR
      go_wp2_with (with_reducible refine wpList_load_bk rfl 74 _ rfl g5 rfl cs 74 HT5.out _ Tryz.underlying74 rfl HG5.out.rsize ?_)
      refine (rcheck_any w5 cs t HG5.out).mono ?_
      rintro e w6 ⟨rfl, hbn⟩
      have HB6 := Lib.hid (below_then HB5.out hbn); have HT6 := Lib.hid (HT5.out.later hbn); have HG6 := Lib.hid (HG5.out.later hbn)
      obtain ⟨E, hE⟩ : ∃ E, txE t = E := ⟨_, rfl⟩
      have HEE := Lib.hid hE
      rw [hE] at HTS ⊢
      clear hbn hE HB5 HT5 HG5
      by_cases hE0 : E = 0
      · as_aux_lemma =>
        subst hE0
        have HTS2 : Hid (txsE [] L = if (L.take i).any (turnB t) then 7 else txsE (L.take (i + 1)) (L.drop (i + 1))) := HTS.out.trans (if_neg (by simp))
        clear HTS
        have hm6 := HG6.out.at0 HT6.out
        go_wp2_with fail
        go_loopw [7] (fun kv wq => ∃ k : Nat, k ≤ i ∧ kv = .int .i64 k ∧ Hid (∀ (j : Nat) (u : TxT), j < k → L[j]? = some u → turnB t u = false) ∧ Hid (Below w6.heap.size w6 wq)) (fun kv _ => i - (intOf kv).toNat)
        case atStart => exact ⟨0, Nat.zero_le _, rfl, fun j u hj => absurd hj (by omega), Below.refl _ _⟩
        case round =>
          obtain ⟨k, hk, rfl, HJ, HB⟩ := hrel
          by_cases hlk : k < i
          · as_aux_lemma =>
            have hkk : (k : Int) < i := by omega
            have hkN : (k : Int) < N := by have := HIN.out; omega
            have hk00 : (0 : Int) ≤ k := by omega
            obtain ⟨⟨ds, u⟩, hx⟩ : ∃ x, xs[k]? = some x := ⟨xs[k]'(by rw [HLN.out]; have := HIN.out; omega), List.getElem?_eq_getElem _⟩
            have HBq := Lib.hid (below_then HB6.out HB.out)
            have hg : Txg wr ds u := (HXS.out.later HBq.out).th (ds, u) (List.mem_of_getElem? hx)
            obtain ⟨b', o', hA, hr, hbl⟩ := HXS.out.at_ HBq.out hx
            injection hA with hA; injection hA with hA1 hA2; subst hA1; subst hA2
            have hr : wr.rangeAt b (o + k * 13) ds := hr
            have hLu : L[k]? = some u := by rw [← HLL.out, List.getElem?_map, hx]; rfl
            have HLU := Lib.hid hLu; have HR := Lib.hid hr; have HGu := Lib.hid hg
            have HBL : Hid (b < wr.heap.size) := Nat.lt_of_lt_of_le hbl HBq.out.size
            have HKr := Lib.hid (HK1.out.later HBq.out); have HTr := Lib.hid (HT6.out.later HB.out)
            have HLKi := Lib.hid hlk
            clear hx hg hr hLu hbl
            go_wp2_with fail
            have heq := rdg_eqb u.f t.f HGu.out.ok.f HG6.out.ok.f
            obtain ⟨E1, hE1⟩ : ∃ E, eqL u.f t.f = E := ⟨_, rfl⟩
            have HE1 := Lib.hid hE1
            rw [hE1] at heq
            clear hE1
            refine wp_region_held_drew (S := fun w' => Bk w' z 25 l ∧ w'.rangeAt b (o + k * 13) ds ∧ Bk w' g5 74 cs) (by kernel_rfl) ⟨Bk.drew HKr.out, HR.out, Bk.drew HTr.out⟩ (fun hHeld => ?_)
            have HBn : Hid (Below w6.heap.size w6 wr.drew) := below_then HB.out (below_draws wr wr.heap.size 1)
            cases E1
            · as_aux_lemma =>
              have HNO : Hid (turnB t u = false) := by show _ = _; rw [turnB_eq, HE1.out]; rfl
              refine wpAnyH_take (i := 0) (v := ?_) rfl (by kernel_rfl) (by kernel_rfl) (by kernel_rfl) (fun _ _ _ h => h) (Or.inl ⟨by rfl, ?_⟩) (by assumption) ?_
              rotate_left
              · intro w hSw
                (try dsimp only at hSw)
                go_simp
                try with_reducible rfl
              try simp only [Act.put, List.setIfInBounds_toArray, List.set_cons_zero, List.set_cons_succ, List.getElem_toArray, List.getElem_cons_zero, List.getElem_cons_succ]
              refine wpAnyH_take (i := 2) (v := ?_) rfl (by kernel_rfl) (by kernel_rfl) (by kernel_rfl) (fun _ _ _ h => h) (Or.inl ⟨by rfl, ?_⟩) (by assumption) ?_
              rotate_left
              · intro w hSw
                (try dsimp only at hSw)
                go_simp
                try with_reducible rfl
              try simp only [Act.put, List.setIfInBounds_toArray, List.set_cons_zero, List.set_cons_succ, List.getElem_toArray, List.getElem_cons_zero, List.getElem_cons_succ]
              refine wpAnyH_take (i := 6) (v := ?_) rfl (by kernel_rfl) (by kernel_rfl) (by kernel_rfl) (fun _ _ _ h => h) (Or.inl ⟨by rfl, ?_⟩) (by assumption) ?_
              rotate_left
              · intro w hSw
                (try dsimp only at hSw)
                go_simp
                try with_reducible rfl
              try simp only [Act.put, List.setIfInBounds_toArray, List.set_cons_zero, List.set_cons_succ, List.getElem_toArray, List.getElem_cons_zero, List.getElem_cons_succ]
              refine wpAnyH_take (i := 1) (v := ?_) rfl (by kernel_rfl) (by kernel_rfl) (by kernel_rfl) (fun _ _ _ h => h) (Or.inl ⟨by rfl, ?_⟩) (by assumption) ?_
              rotate_left
              · intro w hSw
                have hcell := (HM.out _ _ hSw.1).c17
                clear hSw
                go_simp
                try with_reducible rfl
              try simp only [Act.put, List.setIfInBounds_toArray, List.set_cons_zero, List.set_cons_succ, List.getElem_toArray, List.getElem_cons_zero, List.getElem_cons_succ]
              refine wpAnyH_take (i := 7) (v := .agg (List.toArray (dl t.f))) rfl (by kernel_rfl) (by kernel_rfl) (by kernel_rfl) (fun _ _ _ h => h) (yieldsIf_load_mid (by rfl) _ _ rfl _ _ rfl (dl t.f) _ (fun w hSw => (HG6.out.at0 hSw.2.2).1) Tryz.underlying22 rfl (rdg_szd HG6.out.ok.f)) (by assumption) ?_
              try simp only [Act.put, List.setIfInBounds_toArray, List.set_cons_zero, List.set_cons_succ, List.getElem_toArray, List.getElem_cons_zero, List.getElem_cons_succ]
              refine wpAnyH_take (i := 3) (v := ?_) rfl (by kernel_rfl) (by kernel_rfl) (by kernel_rfl) (fun _ _ _ h => h) (Or.inl ⟨by rfl, ?_⟩) (by assumption) ?_
              rotate_left
              · intro w hSw
                (try dsimp only at hSw)
                go_simp
                try with_reducible rfl
              try simp only [Act.put, List.setIfInBounds_toArray, List.set_cons_zero, List.set_cons_succ, List.getElem_toArray, List.getElem_cons_zero, List.getElem_cons_succ]
              refine wpAnyH_take (i := 4) (v := ?_) rfl (by kernel_rfl) (by kernel_rfl) (by kernel_rfl) (fun _ _ _ h => h) (Or.inl ⟨by rfl, ?_⟩) (by assumption) ?_
              rotate_left
              · intro w hSw
                (try dsimp only at hSw)
                go_simp
                try with_reducible rfl
              try simp only [Act.put, List.setIfInBounds_toArray, List.set_cons_zero, List.set_cons_succ, List.getElem_toArray, List.getElem_cons_zero, List.getElem_cons_succ]
              refine wpAnyH_take (i := 5) (v := .agg (List.toArray (dl u.f))) rfl (by kernel_rfl) (by kernel_rfl) (by kernel_rfl) (fun _ _ _ h => h) (yieldsIf_load_mid (by rfl) _ _ rfl _ _ rfl (dl u.f) _ (fun w hSw => (HGu.out.mid0 hSw.2.1).1) Tryz.underlying22 rfl (rdg_szd HGu.out.ok.f)) (by assumption) ?_
              try simp only [Act.put, List.setIfInBounds_toArray, List.set_cons_zero, List.set_cons_succ, List.getElem_toArray, List.getElem_cons_zero, List.getElem_cons_succ]
              refine wpAnyH_take (i := 8) (v := ?_) rfl (by kernel_rfl) (by kernel_rfl) (by kernel_rfl) (fun _ _ _ h => h) (Or.inl ⟨by rfl, ?_⟩) (by assumption) ?_
              rotate_left
              · intro w hSw
                (try dsimp only at hSw)
                go_simp
                try with_reducible rfl
              try simp only [Act.put, List.setIfInBounds_toArray, List.set_cons_zero, List.set_cons_succ, List.getElem_toArray, List.getElem_cons_zero, List.getElem_cons_succ]
              refine wpAnyH_take (i := 9) (v := ?_) rfl (by kernel_rfl) (by kernel_rfl) (by kernel_rfl) (fun _ _ _ h => h) (Or.inl ⟨by rfl, ?_⟩) (by assumption) ?_
              rotate_left
              · intro w hSw
                (try dsimp only at hSw)
                go_simp
                try with_reducible rfl
              try simp only [Act.put, List.setIfInBounds_toArray, List.set_cons_zero, List.set_cons_succ, List.getElem_toArray, List.getElem_cons_zero, List.getElem_cons_succ]
              refine wpAnyH_take (i := 10) (v := undef) rfl (by kernel_rfl) (by kernel_rfl) (by kernel_rfl) (fun _ _ _ h => h) (Or.inr ⟨by rfl, rfl⟩) (by assumption) ?_
              try simp only [Act.put, List.setIfInBounds_toArray, List.set_cons_zero, List.set_cons_succ, List.getElem_toArray, List.getElem_cons_zero, List.getElem_cons_succ]
              refine wpAnyH_take (i := 12) (v := undef) rfl (by kernel_rfl) (by kernel_rfl) (by kernel_rfl) (fun _ _ _ h => h) (Or.inr ⟨by rfl, rfl⟩) (by assumption) ?_
              try simp only [Act.put, List.setIfInBounds_toArray, List.set_cons_zero, List.set_cons_succ, List.getElem_toArray, List.getElem_cons_zero, List.getElem_cons_succ]
              refine wpAnyH_take (i := 16) (v := undef) rfl (by kernel_rfl) (by kernel_rfl) (by kernel_rfl) (fun _ _ _ h => h) (Or.inr ⟨by rfl, rfl⟩) (by assumption) ?_
              try simp only [Act.put, List.setIfInBounds_toArray, List.set_cons_zero, List.set_cons_succ, List.getElem_toArray, List.getElem_cons_zero, List.getElem_cons_succ]
              refine wpAnyH_take (i := 11) (v := undef) rfl (by kernel_rfl) (by kernel_rfl) (by kernel_rfl) (fun _ _ _ h => h) (Or.inr ⟨by rfl, rfl⟩) (by assumption) ?_
              try simp only [Act.put, List.setIfInBounds_toArray, List.set_cons_zero, List.set_cons_succ, List.getElem_toArray, List.getElem_cons_zero, List.getElem_cons_succ]
              refine wpAnyH_take (i := 17) (v := undef) rfl (by kernel_rfl) (by kernel_rfl) (by kernel_rfl) (fun _ _ _ h => h) (Or.inr ⟨by rfl, rfl⟩) (by assumption) ?_
              try simp only [Act.put, List.setIfInBounds_toArray, List.set_cons_zero, List.set_cons_succ, List.getElem_toArray, List.getElem_cons_zero, List.getElem_cons_succ]
              refine wpAnyH_take (i := 13) (v := undef) rfl (by kernel_rfl) (by kernel_rfl) (by kernel_rfl) (fun _ _ _ h => h) (Or.inr ⟨by rfl, rfl⟩) (by assumption) ?_
              try simp only [Act.put, List.setIfInBounds_toArray, List.set_cons_zero, List.set_cons_succ, List.getElem_toArray, List.getElem_cons_zero, List.getElem_cons_succ]
              refine wpAnyH_take (i := 14) (v := undef) rfl (by kernel_rfl) (by kernel_rfl) (by kernel_rfl) (fun _ _ _ h => h) (Or.inr ⟨by rfl, rfl⟩) (by assumption) ?_
              try simp only [Act.put, List.setIfInBounds_toArray, List.set_cons_zero, List.set_cons_succ, List.getElem_toArray, List.getElem_cons_zero, List.getElem_cons_succ]
              refine wpAnyH_take (i := 15) (v := undef) rfl (by kernel_rfl) (by kernel_rfl) (by kernel_rfl) (fun _ _ _ h => h) (Or.inr ⟨by rfl, rfl⟩) (by assumption) ?_
              try simp only [Act.put, List.setIfInBounds_toArray, List.set_cons_zero, List.set_cons_succ, List.getElem_toArray, List.getElem_cons_zero, List.getElem_cons_succ]
              refine wpAnyH_take (i := 18) (v := undef) rfl (by kernel_rfl) (by kernel_rfl) (by kernel_rfl) (fun _ _ _ h => h) (Or.inr ⟨by rfl, rfl⟩) (by assumption) ?_
              try simp only [Act.put, List.setIfInBounds_toArray, List.set_cons_zero, List.set_cons_succ, List.getElem_toArray, List.getElem_cons_zero, List.getElem_cons_succ]
              refine wpAnyH_take (i := 19) (v := ?_) rfl (by kernel_rfl) (by kernel_rfl) (by kernel_rfl) (fun _ _ _ h => h) (Or.inl ⟨by rfl, ?_⟩) (by assumption) ?_
              rotate_left
              · intro w hSw
                (try dsimp only at hSw)
                go_simp
                try with_reducible rfl
              try simp only [Act.put, List.setIfInBounds_toArray, List.set_cons_zero, List.set_cons_succ, List.getElem_toArray, List.getElem_cons_zero, List.getElem_cons_succ]
              refine wpAnyH_done rfl ?_ _
              have HJ2 : Hid (∀ (j : Nat) (v : TxT), j < k + 1 → L[j]? = some v → turnB t v = false) := fun j v hj h1 => by
                rcases Nat.lt_or_ge j k with h3 | h3
                · exact HJ.out j v h3 h1
                · obtain rfl : j = k := by omega
                  rw [HLU.out] at h1
                  injection h1 with h1; subst h1
                  exact HNO.out
              have hkw : wrap64 ((k : Int) + 1) = k + 1 := IntWalk.wrap64_in _ (by have := HN.out; have := HIN.out; have := HLKi.out; omega)
              go_wp2_with fail
              go_roundw
              case rel => exact ⟨k + 1, HLKi.out, by rw [hkw]; rfl, HJ2, HBn.out⟩
              case measure => rw [hkw]; simp [intOf]; have := HLKi.out; omega
            · by_cases hn : u.n = t.n
              · as_aux_lemma =>
                have HYES : Hid (turnB t u = true) := by show _ = _; rw [turnB_eq, HE1.out, hn]; simp
                have hn1 : decide (u.n = t.n) = true := by simp [hn]
                have hn2 : (u.n == t.n) = true := by simp [hn]
                have HE7 : Hid (blkE h L = 7) := blkE_t HH.out HN2.out (HTS2.out.trans (if_pos (any_some HLKi.out HLU.out HYES.out))) (by decide)
                refine wpAnyH_take (i := 0) (v := ?_) rfl (by kernel_rfl) (by kernel_rfl) (by kernel_rfl) (fun _ _ _ h => h) (Or.inl ⟨by rfl, ?_⟩) (by assumption) ?_
                rotate_left
                · intro w hSw
                  (try dsimp only at hSw)
                  go_simp
                  try with_reducible rfl
                try simp only [Act.put, List.setIfInBounds_toArray, List.set_cons_zero, List.set_cons_succ, List.getElem_toArray, List.getElem_cons_zero, List.getElem_cons_succ]
                refine wpAnyH_take (i := 2) (v := ?_) rfl (by kernel_rfl) (by kernel_rfl) (by kernel_rfl) (fun _ _ _ h => h) (Or.inl ⟨by rfl, ?_⟩) (by assumption) ?_
                rotate_left
                · intro w hSw
                  (try dsimp only at hSw)
                  go_simp
                  try with_reducible rfl
                try simp only [Act.put, List.setIfInBounds_toArray, List.set_cons_zero, List.set_cons_succ, List.getElem_toArray, List.getElem_cons_zero, List.getElem_cons_succ]
                refine wpAnyH_take (i := 6) (v := ?_) rfl (by kernel_rfl) (by kernel_rfl) (by kernel_rfl) (fun _ _ _ h => h) (Or.inl ⟨by rfl, ?_⟩) (by assumption) ?_
                rotate_left
                · intro w hSw
                  (try dsimp only at hSw)
                  go_simp
                  try with_reducible rfl
                try simp only [Act.put, List.setIfInBounds_toArray, List.set_cons_zero, List.set_cons_succ, List.getElem_toArray, List.getElem_cons_zero, List.getElem_cons_succ]
                refine wpAnyH_take (i := 1) (v := ?_) rfl (by kernel_rfl) (by kernel_rfl) (by kernel_rfl) (fun _ _ _ h => h) (Or.inl ⟨by rfl, ?_⟩) (by assumption) ?_
                rotate_left
                · intro w hSw
                  have hcell := (HM.out _ _ hSw.1).c17
                  clear hSw
                  go_simp
                  try with_reducible rfl
                try simp only [Act.put, List.setIfInBounds_toArray, List.set_cons_zero, List.set_cons_succ, List.getElem_toArray, List.getElem_cons_zero, List.getElem_cons_succ]
                refine wpAnyH_take (i := 7) (v := .agg (List.toArray (dl t.f))) rfl (by kernel_rfl) (by kernel_rfl) (by kernel_rfl) (fun _ _ _ h => h) (yieldsIf_load_mid (by rfl) _ _ rfl _ _ rfl (dl t.f) _ (fun w hSw => (HG6.out.at0 hSw.2.2).1) Tryz.underlying22 rfl (rdg_szd HG6.out.ok.f)) (by assumption) ?_
                try simp only [Act.put, List.setIfInBounds_toArray, List.set_cons_zero, List.set_cons_succ, List.getElem_toArray, List.getElem_cons_zero, List.getElem_cons_succ]
                refine wpAnyH_take (i := 3) (v := ?_) rfl (by kernel_rfl) (by kernel_rfl) (by kernel_rfl) (fun _ _ _ h => h) (Or.inl ⟨by rfl, ?_⟩) (by assumption) ?_
                rotate_left
                · intro w hSw
                  (try dsimp only at hSw)
                  go_simp
                  try with_reducible rfl
                try simp only [Act.put, List.setIfInBounds_toArray, List.set_cons_zero, List.set_cons_succ, List.getElem_toArray, List.getElem_cons_zero, List.getElem_cons_succ]
                refine wpAnyH_take (i := 4) (v := ?_) rfl (by kernel_rfl) (by kernel_rfl) (by kernel_rfl) (fun _ _ _ h => h) (Or.inl ⟨by rfl, ?_⟩) (by assumption) ?_
                rotate_left
                · intro w hSw
                  (try dsimp only at hSw)
                  go_simp
                  try with_reducible rfl
                try simp only [Act.put, List.setIfInBounds_toArray, List.set_cons_zero, List.set_cons_succ, List.getElem_toArray, List.getElem_cons_zero, List.getElem_cons_succ]
                refine wpAnyH_take (i := 5) (v := .agg (List.toArray (dl u.f))) rfl (by kernel_rfl) (by kernel_rfl) (by kernel_rfl) (fun _ _ _ h => h) (yieldsIf_load_mid (by rfl) _ _ rfl _ _ rfl (dl u.f) _ (fun w hSw => (HGu.out.mid0 hSw.2.1).1) Tryz.underlying22 rfl (rdg_szd HGu.out.ok.f)) (by assumption) ?_
                try simp only [Act.put, List.setIfInBounds_toArray, List.set_cons_zero, List.set_cons_succ, List.getElem_toArray, List.getElem_cons_zero, List.getElem_cons_succ]
                refine wpAnyH_take (i := 8) (v := ?_) rfl (by kernel_rfl) (by kernel_rfl) (by kernel_rfl) (fun _ _ _ h => h) (Or.inl ⟨by rfl, ?_⟩) (by assumption) ?_
                rotate_left
                · intro w hSw
                  (try dsimp only at hSw)
                  go_simp
                  try with_reducible rfl
                try simp only [Act.put, List.setIfInBounds_toArray, List.set_cons_zero, List.set_cons_succ, List.getElem_toArray, List.getElem_cons_zero, List.getElem_cons_succ]
                refine wpAnyH_take (i := 9) (v := ?_) rfl (by kernel_rfl) (by kernel_rfl) (by kernel_rfl) (fun _ _ _ h => h) (Or.inl ⟨by rfl, ?_⟩) (by assumption) ?_
                rotate_left
                · intro w hSw
                  (try dsimp only at hSw)
                  go_simp
                  try with_reducible rfl
                try simp only [Act.put, List.setIfInBounds_toArray, List.set_cons_zero, List.set_cons_succ, List.getElem_toArray, List.getElem_cons_zero, List.getElem_cons_succ]
                refine wpAnyH_take (i := 10) (v := ?_) rfl (by kernel_rfl) (by kernel_rfl) (by kernel_rfl) (fun _ _ _ h => h) (Or.inl ⟨by rfl, ?_⟩) (by assumption) ?_
                rotate_left
                · intro w hSw
                  (try dsimp only at hSw)
                  go_simp
                  try with_reducible rfl
                try simp only [Act.put, List.setIfInBounds_toArray, List.set_cons_zero, List.set_cons_succ, List.getElem_toArray, List.getElem_cons_zero, List.getElem_cons_succ]
                refine wpAnyH_take (i := 12) (v := ?_) rfl (by kernel_rfl) (by kernel_rfl) (by kernel_rfl) (fun _ _ _ h => h) (Or.inl ⟨by rfl, ?_⟩) (by assumption) ?_
                rotate_left
                · intro w hSw
                  (try dsimp only at hSw)
                  go_simp
                  try with_reducible rfl
                try simp only [Act.put, List.setIfInBounds_toArray, List.set_cons_zero, List.set_cons_succ, List.getElem_toArray, List.getElem_cons_zero, List.getElem_cons_succ]
                refine wpAnyH_take (i := 16) (v := ?_) rfl (by kernel_rfl) (by kernel_rfl) (by kernel_rfl) (fun _ _ _ h => h) (Or.inl ⟨by rfl, ?_⟩) (by assumption) ?_
                rotate_left
                · intro w hSw
                  (try dsimp only at hSw)
                  go_simp
                  try with_reducible rfl
                try simp only [Act.put, List.setIfInBounds_toArray, List.set_cons_zero, List.set_cons_succ, List.getElem_toArray, List.getElem_cons_zero, List.getElem_cons_succ]
                refine wpAnyH_take (i := 11) (v := ?_) rfl (by kernel_rfl) (by kernel_rfl) (by kernel_rfl) (fun _ _ _ h => h) (Or.inl ⟨by rfl, ?_⟩) (by assumption) ?_
                rotate_left
                · intro w hSw
                  have hcell := (HM.out _ _ hSw.1).c17
                  clear hSw
                  go_simp
                  try with_reducible rfl
                try simp only [Act.put, List.setIfInBounds_toArray, List.set_cons_zero, List.set_cons_succ, List.getElem_toArray, List.getElem_cons_zero, List.getElem_cons_succ]
                refine wpAnyH_take (i := 17) (v := ?_) rfl (by kernel_rfl) (by kernel_rfl) (by kernel_rfl) (fun _ _ _ h => h) (Or.inl ⟨by rfl, ?_⟩) (by assumption) ?_
                rotate_left
                · intro w hSw
                  have hcell := (HG6.out.at0 hSw.2.2).2
                  clear hSw
                  go_simp
                  try with_reducible rfl
                try simp only [Act.put, List.setIfInBounds_toArray, List.set_cons_zero, List.set_cons_succ, List.getElem_toArray, List.getElem_cons_zero, List.getElem_cons_succ]
                refine wpAnyH_take (i := 13) (v := ?_) rfl (by kernel_rfl) (by kernel_rfl) (by kernel_rfl) (fun _ _ _ h => h) (Or.inl ⟨by rfl, ?_⟩) (by assumption) ?_
                rotate_left
                · intro w hSw
                  (try dsimp only at hSw)
                  go_simp
                  try with_reducible rfl
                try simp only [Act.put, List.setIfInBounds_toArray, List.set_cons_zero, List.set_cons_succ, List.getElem_toArray, List.getElem_cons_zero, List.getElem_cons_succ]
                refine wpAnyH_take (i := 14) (v := ?_) rfl (by kernel_rfl) (by kernel_rfl) (by kernel_rfl) (fun _ _ _ h => h) (Or.inl ⟨by rfl, ?_⟩) (by assumption) ?_
                rotate_left
                · intro w hSw
                  (try dsimp only at hSw)
                  go_simp
                  try with_reducible rfl
                try simp only [Act.put, List.setIfInBounds_toArray, List.set_cons_zero, List.set_cons_succ, List.getElem_toArray, List.getElem_cons_zero, List.getElem_cons_succ]
                refine wpAnyH_take (i := 15) (v := ?_) rfl (by kernel_rfl) (by kernel_rfl) (by kernel_rfl) (fun _ _ _ h => h) (Or.inl ⟨by rfl, ?_⟩) (by assumption) ?_
                rotate_left
                · intro w hSw
                  have hcell := (HGu.out.mid0 hSw.2.1).2
                  clear hSw
                  go_simp
                  try with_reducible rfl
                try simp only [Act.put, List.setIfInBounds_toArray, List.set_cons_zero, List.set_cons_succ, List.getElem_toArray, List.getElem_cons_zero, List.getElem_cons_succ]
                refine wpAnyH_take (i := 18) (v := ?_) rfl (by kernel_rfl) (by kernel_rfl) (by kernel_rfl) (fun _ _ _ h => h) (Or.inl ⟨by rfl, ?_⟩) (by assumption) ?_
                rotate_left
                · intro w hSw
                  (try dsimp only at hSw)
                  go_simp
                  try with_reducible rfl
                try simp only [Act.put, List.setIfInBounds_toArray, List.set_cons_zero, List.set_cons_succ, List.getElem_toArray, List.getElem_cons_zero, List.getElem_cons_succ]
                refine wpAnyH_take (i := 19) (v := ?_) rfl (by kernel_rfl) (by kernel_rfl) (by kernel_rfl) (fun _ _ _ h => h) (Or.inl ⟨by rfl, ?_⟩) (by assumption) ?_
                rotate_left
                · intro w hSw
                  (try dsimp only at hSw)
                  go_simp
                  try with_reducible rfl
                try simp only [Act.put, List.setIfInBounds_toArray, List.set_cons_zero, List.set_cons_succ, List.getElem_toArray, List.getElem_cons_zero, List.getElem_cons_succ]
                refine wpAnyH_done rfl ?_ _
                go_wp2_with fail
                go_ret
                exact ⟨by rw [HE7.out]; rfl, below_then HBB1.out (below_then HB6.out HBn.out)⟩
              · as_aux_lemma =>
                have HNO : Hid (turnB t u = false) := by show _ = _; rw [turnB_eq]; simp [hn]
                have hn1 : decide (u.n = t.n) = false := by simp [hn]
                have hn2 : (u.n == t.n) = false := by simp [hn]
                refine wpAnyH_take (i := 0) (v := ?_) rfl (by kernel_rfl) (by kernel_rfl) (by kernel_rfl) (fun _ _ _ h => h) (Or.inl ⟨by rfl, ?_⟩) (by assumption) ?_
                rotate_left
                · intro w hSw
                  (try dsimp only at hSw)
                  go_simp
                  try with_reducible rfl
                try simp only [Act.put, List.setIfInBounds_toArray, List.set_cons_zero, List.set_cons_succ, List.getElem_toArray, List.getElem_cons_zero, List.getElem_cons_succ]
                refine wpAnyH_take (i := 2) (v := ?_) rfl (by kernel_rfl) (by kernel_rfl) (by kernel_rfl) (fun _ _ _ h => h) (Or.inl ⟨by rfl, ?_⟩) (by assumption) ?_
                rotate_left
                · intro w hSw
                  (try dsimp only at hSw)
                  go_simp
                  try with_reducible rfl
                try simp only [Act.put, List.setIfInBounds_toArray, List.set_cons_zero, List.set_cons_succ, List.getElem_toArray, List.getElem_cons_zero, List.getElem_cons_succ]
                refine wpAnyH_take (i := 6) (v := ?_) rfl (by kernel_rfl) (by kernel_rfl) (by kernel_rfl) (fun _ _ _ h => h) (Or.inl ⟨by rfl, ?_⟩) (by assumption) ?_
                rotate_left
                · intro w hSw
                  (try dsimp only at hSw)
                  go_simp
                  try with_reducible rfl
                try simp only [Act.put, List.setIfInBounds_toArray, List.set_cons_zero, List.set_cons_succ, List.getElem_toArray, List.getElem_cons_zero, List.getElem_cons_succ]
                refine wpAnyH_take (i := 1) (v := ?_) rfl (by kernel_rfl) (by kernel_rfl) (by kernel_rfl) (fun _ _ _ h => h) (Or.inl ⟨by rfl, ?_⟩) (by assumption) ?_
                rotate_left
                · intro w hSw
                  have hcell := (HM.out _ _ hSw.1).c17
                  clear hSw
                  go_simp
                  try with_reducible rfl
                try simp only [Act.put, List.setIfInBounds_toArray, List.set_cons_zero, List.set_cons_succ, List.getElem_toArray, List.getElem_cons_zero, List.getElem_cons_succ]
                refine wpAnyH_take (i := 7) (v := .agg (List.toArray (dl t.f))) rfl (by kernel_rfl) (by kernel_rfl) (by kernel_rfl) (fun _ _ _ h => h) (yieldsIf_load_mid (by rfl) _ _ rfl _ _ rfl (dl t.f) _ (fun w hSw => (HG6.out.at0 hSw.2.2).1) Tryz.underlying22 rfl (rdg_szd HG6.out.ok.f)) (by assumption) ?_
                try simp only [Act.put, List.setIfInBounds_toArray, List.set_cons_zero, List.set_cons_succ, List.getElem_toArray, List.getElem_cons_zero, List.getElem_cons_succ]
                refine wpAnyH_take (i := 3) (v := ?_) rfl (by kernel_rfl) (by kernel_rfl) (by kernel_rfl) (fun _ _ _ h => h) (Or.inl ⟨by rfl, ?_⟩) (by assumption) ?_
                rotate_left
                · intro w hSw
                  (try dsimp only at hSw)
                  go_simp
                  try with_reducible rfl
                try simp only [Act.put, List.setIfInBounds_toArray, List.set_cons_zero, List.set_cons_succ, List.getElem_toArray, List.getElem_cons_zero, List.getElem_cons_succ]
                refine wpAnyH_take (i := 4) (v := ?_) rfl (by kernel_rfl) (by kernel_rfl) (by kernel_rfl) (fun _ _ _ h => h) (Or.inl ⟨by rfl, ?_⟩) (by assumption) ?_
                rotate_left
                · intro w hSw
                  (try dsimp only at hSw)
                  go_simp
                  try with_reducible rfl
                try simp only [Act.put, List.setIfInBounds_toArray, List.set_cons_zero, List.set_cons_succ, List.getElem_toArray, List.getElem_cons_zero, List.getElem_cons_succ]
                refine wpAnyH_take (i := 5) (v := .agg (List.toArray (dl u.f))) rfl (by kernel_rfl) (by kernel_rfl) (by kernel_rfl) (fun _ _ _ h => h) (yieldsIf_load_mid (by rfl) _ _ rfl _ _ rfl (dl u.f) _ (fun w hSw => (HGu.out.mid0 hSw.2.1).1) Tryz.underlying22 rfl (rdg_szd HGu.out.ok.f)) (by assumption) ?_
                try simp only [Act.put, List.setIfInBounds_toArray, List.set_cons_zero, List.set_cons_succ, List.getElem_toArray, List.getElem_cons_zero, List.getElem_cons_succ]
                refine wpAnyH_take (i := 8) (v := ?_) rfl (by kernel_rfl) (by kernel_rfl) (by kernel_rfl) (fun _ _ _ h => h) (Or.inl ⟨by rfl, ?_⟩) (by assumption) ?_
                rotate_left
                · intro w hSw
                  (try dsimp only at hSw)
                  go_simp
                  try with_reducible rfl
                try simp only [Act.put, List.setIfInBounds_toArray, List.set_cons_zero, List.set_cons_succ, List.getElem_toArray, List.getElem_cons_zero, List.getElem_cons_succ]
                refine wpAnyH_take (i := 9) (v := ?_) rfl (by kernel_rfl) (by kernel_rfl) (by kernel_rfl) (fun _ _ _ h => h) (Or.inl ⟨by rfl, ?_⟩) (by assumption) ?_
                rotate_left
                · intro w hSw
                  (try dsimp only at hSw)
                  go_simp
                  try with_reducible rfl
                try simp only [Act.put, List.setIfInBounds_toArray, List.set_cons_zero, List.set_cons_succ, List.getElem_toArray, List.getElem_cons_zero, List.getElem_cons_succ]
                refine wpAnyH_take (i := 10) (v := ?_) rfl (by kernel_rfl) (by kernel_rfl) (by kernel_rfl) (fun _ _ _ h => h) (Or.inl ⟨by rfl, ?_⟩) (by assumption) ?_
                rotate_left
                · intro w hSw
                  (try dsimp only at hSw)
                  go_simp
                  try with_reducible rfl
                try simp only [Act.put, List.setIfInBounds_toArray, List.set_cons_zero, List.set_cons_succ, List.getElem_toArray, List.getElem_cons_zero, List.getElem_cons_succ]
                refine wpAnyH_take (i := 12) (v := ?_) rfl (by kernel_rfl) (by kernel_rfl) (by kernel_rfl) (fun _ _ _ h => h) (Or.inl ⟨by rfl, ?_⟩) (by assumption) ?_
                rotate_left
                · intro w hSw
                  (try dsimp only at hSw)
                  go_simp
                  try with_reducible rfl
                try simp only [Act.put, List.setIfInBounds_toArray, List.set_cons_zero, List.set_cons_succ, List.getElem_toArray, List.getElem_cons_zero, List.getElem_cons_succ]
                refine wpAnyH_take (i := 16) (v := ?_) rfl (by kernel_rfl) (by kernel_rfl) (by kernel_rfl) (fun _ _ _ h => h) (Or.inl ⟨by rfl, ?_⟩) (by assumption) ?_
                rotate_left
                · intro w hSw
                  (try dsimp only at hSw)
                  go_simp
                  try with_reducible rfl
                try simp only [Act.put, List.setIfInBounds_toArray, List.set_cons_zero, List.set_cons_succ, List.getElem_toArray, List.getElem_cons_zero, List.getElem_cons_succ]
                refine wpAnyH_take (i := 11) (v := ?_) rfl (by kernel_rfl) (by kernel_rfl) (by kernel_rfl) (fun _ _ _ h => h) (Or.inl ⟨by rfl, ?_⟩) (by assumption) ?_
                rotate_left
                · intro w hSw
                  have hcell := (HM.out _ _ hSw.1).c17
                  clear hSw
                  go_simp
                  try with_reducible rfl
                try simp only [Act.put, List.setIfInBounds_toArray, List.set_cons_zero, List.set_cons_succ, List.getElem_toArray, List.getElem_cons_zero, List.getElem_cons_succ]
                refine wpAnyH_take (i := 17) (v := ?_) rfl (by kernel_rfl) (by kernel_rfl) (by kernel_rfl) (fun _ _ _ h => h) (Or.inl ⟨by rfl, ?_⟩) (by assumption) ?_
                rotate_left
                · intro w hSw
                  have hcell := (HG6.out.at0 hSw.2.2).2
                  clear hSw
                  go_simp
                  try with_reducible rfl
                try simp only [Act.put, List.setIfInBounds_toArray, List.set_cons_zero, List.set_cons_succ, List.getElem_toArray, List.getElem_cons_zero, List.getElem_cons_succ]
                refine wpAnyH_take (i := 13) (v := ?_) rfl (by kernel_rfl) (by kernel_rfl) (by kernel_rfl) (fun _ _ _ h => h) (Or.inl ⟨by rfl, ?_⟩) (by assumption) ?_
                rotate_left
                · intro w hSw
                  (try dsimp only at hSw)
                  go_simp
                  try with_reducible rfl
                try simp only [Act.put, List.setIfInBounds_toArray, List.set_cons_zero, List.set_cons_succ, List.getElem_toArray, List.getElem_cons_zero, List.getElem_cons_succ]
                refine wpAnyH_take (i := 14) (v := ?_) rfl (by kernel_rfl) (by kernel_rfl) (by kernel_rfl) (fun _ _ _ h => h) (Or.inl ⟨by rfl, ?_⟩) (by assumption) ?_
                rotate_left
                · intro w hSw
                  (try dsimp only at hSw)
                  go_simp
                  try with_reducible rfl
                try simp only [Act.put, List.setIfInBounds_toArray, List.set_cons_zero, List.set_cons_succ, List.getElem_toArray, List.getElem_cons_zero, List.getElem_cons_succ]
                refine wpAnyH_take (i := 15) (v := ?_) rfl (by kernel_rfl) (by kernel_rfl) (by kernel_rfl) (fun _ _ _ h => h) (Or.inl ⟨by rfl, ?_⟩) (by assumption) ?_
                rotate_left
                · intro w hSw
                  have hcell := (HGu.out.mid0 hSw.2.1).2
                  clear hSw
                  go_simp
                  try with_reducible rfl
                try simp only [Act.put, List.setIfInBounds_toArray, List.set_cons_zero, List.set_cons_succ, List.getElem_toArray, List.getElem_cons_zero, List.getElem_cons_succ]
                refine wpAnyH_take (i := 18) (v := ?_) rfl (by kernel_rfl) (by kernel_rfl) (by kernel_rfl) (fun _ _ _ h => h) (Or.inl ⟨by rfl, ?_⟩) (by assumption) ?_
                rotate_left
                · intro w hSw
                  (try dsimp only at hSw)
                  go_simp
                  try with_reducible rfl
                try simp only [Act.put, List.setIfInBounds_toArray, List.set_cons_zero, List.set_cons_succ, List.getElem_toArray, List.getElem_cons_zero, List.getElem_cons_succ]
                refine wpAnyH_take (i := 19) (v := ?_) rfl (by kernel_rfl) (by kernel_rfl) (by kernel_rfl) (fun _ _ _ h => h) (Or.inl ⟨by rfl, ?_⟩) (by assumption) ?_
                rotate_left
                · intro w hSw
                  (try dsimp only at hSw)
                  go_simp
                  try with_reducible rfl
                try simp only [Act.put, List.setIfInBounds_toArray, List.set_cons_zero, List.set_cons_succ, List.getElem_toArray, List.getElem_cons_zero, List.getElem_cons_succ]
                refine wpAnyH_done rfl ?_ _
                have HJ2 : Hid (∀ (j : Nat) (v : TxT), j < k + 1 → L[j]? = some v → turnB t v = false) := fun j v hj h1 => by
                  rcases Nat.lt_or_ge j k with h3 | h3
                  · exact HJ.out j v h3 h1
                  · obtain rfl : j = k := by omega
                    rw [HLU.out] at h1
                    injection h1 with h1; subst h1
                    exact HNO.out
                have hkw : wrap64 ((k : Int) + 1) = k + 1 := IntWalk.wrap64_in _ (by have := HN.out; have := HIN.out; have := HLKi.out; omega)
                go_wp2_with fail
                go_roundw
                case rel => exact ⟨k + 1, HLKi.out, by rw [hkw]; rfl, HJ2, HBn.out⟩
                case measure => rw [hkw]; simp [intOf]; have := HLKi.out; omega
          · as_aux_lemma =>
            have hkk : ¬ ((k : Int) < i) := by omega
            obtain rfl : k = i := by omega
            have hfee := fit_fee (txE_fit HEE.out)
            have c9 := HG6.out.at9 (HT6.out.later HB.out)
            have hF := HF.out
            have hwr : wrap64 (F + t.e) = F + t.e := IntWalk.wrap64_in _ (by have := HN.out; have := HIN.out; omega)
            have HF2 : Hid (0 ≤ feesS (L.take (k + 1)) ∧ feesS (L.take (k + 1)) ≤ (k + 1 : Nat) * 1125899906842624) := by show _ ∧ _; rw [feesS_take HLK.out, HFE.out]; omega
            have HS2 : Hid (F + t.e = feesS (L.take (k + 1))) := by show _ = _; rw [feesS_take HLK.out, HFE.out]
            have HT3 : Hid (txsE [] L = txsE (L.take (k + 1)) (L.drop (k + 1))) := HTS2.out.trans (if_neg (by rw [any_none HJ.out]; simp))
            have HB7 := Lib.hid (below_then HB6.out HB.out)
            have hkN : (k : Int) < N := by have := HIN.out; omega
            have hN64 : (N : Int) ≤ 64 := by have := HN.out; omega
            have hkw : wrap64 ((k : Int) + 1) = k + 1 := IntWalk.wrap64_in _ (by omega)
            clear hfee hF
            go_wp2_with fail
            go_roundw
            case rel => exact ⟨k + 1, HIN.out, by first | go_num | (rw [hkw]; rfl), by rw [hwr, HS2.out], HF2, HT3, HB7.out⟩
            case measure => (try rw [hkw]); simp [intOf]; have := HIN.out; omega
      · as_aux_lemma =>
        have hd1 : (E != 0) = true := by simp [hE0]
        have HE : Hid (blkE h L = E) := blkE_t HH.out HN2.out (HTS.out.trans (if_pos hE0)) hE0
        clear hE0
        go_wp2_with fail
        go_ret
        exact ⟨by rw [HE.out]; rfl, below_then HBB1.out HB6.out⟩
    · as_aux_lemma =>
      have hki : ¬ ((i : Int) < N) := by omega
      obtain rfl : i = N := by omega
      have HF2 : Hid (blkE h L = if 1125899906842624 < F then 2 else 0) := by
        have h3 : txsE [] L = 0 := by rw [HT.out, List.drop_of_length_le (by rw [HLC.out]; exact Nat.le_refl _)]; rfl
        have h4 := blkE_f HH.out HN2.out h3
        rw [← List.take_of_length_le (l := L) (i := i) (by rw [HLC.out]; exact Nat.le_refl _), HFE.out] at h4
        rw [← List.take_of_length_le (l := L) (i := i) (by rw [HLC.out]; exact Nat.le_refl _)]
        exact h4
      by_cases hF : 1125899906842624 < F
      · have HE : Hid (blkE h L = 2) := HF2.out.trans (if_pos hF)
        go_wp2_with fail
        go_ret
        exact ⟨by rw [HE.out]; rfl, below_then HBB1.out HB.out⟩
      · have HE : Hid (blkE h L = 0) := HF2.out.trans (if_neg hF)
        go_wp2_with fail
        go_ret
        exact ⟨by rw [HE.out]; rfl, below_then HBB1.out HB.out⟩
end Go.Proofs.YtbpmomedhdmloaaGreatDoor
