/- BlockFees: the walk. -/
import Derived.Test.YtbpmomedhdmloaaDoorBD
namespace Go.Proofs.YtbpmomedhdmloaaDoor
set_option linter.unusedSimpArgs false
set_option linter.unusedVariables false
open Go.RowKit Go.Maps

theorem feeV_bad {h : Int} {L : List TxT} (hE : blkE h L ≠ 0) : feeV h L = 0 := by unfold feeV; rw [if_neg hE]
theorem feeV_ok {h : Int} {L : List TxT} (hE : blkE h L = 0) : feeV h L = feesS L := by unfold feeV; rw [if_pos hE]
theorem ms_step {N q : Nat} (h : q < N) (hw : wrap64 ((q : Int) + 1) = (q : Int) + 1) : N - (intOf (Value.int .i64 (wrap64 ((q : Int) + 1)))).toNat < N - (intOf (Value.int .i64 (q : Int))).toNat := by
  rw [hw]
  simp only [intOf]
  omega
/-- A block's cells, its transactions: what a method's call asks for. -/
structure BkAt (w : World) (g : Nat) (p : List Int) (h : Int) (m : List Int) (A : Option Addr) (N C : Nat) (L : List TxT) : Prop where
  bk : Bk w g 31 (bkC p h m (.slice A N C))
  txs : ∃ xs, Txs w A N xs ∧ xs.map (·.2) = L
theorem BkAt.later {w w' : World} {g : Nat} {p : List Int} {h : Int} {m : List Int} {A : Option Addr} {N C : Nat} {L : List TxT} (k : BkAt w g p h m A N C L) (hb : Below w.heap.size w w') : BkAt w' g p h m A N C L := by
  obtain ⟨b, xs, hx, e⟩ := k
  exact ⟨b.later hb, xs, hx.later hb, e⟩
theorem BkAt.len {w : World} {g : Nat} {p : List Int} {h : Int} {m : List Int} {A : Option Addr} {N C : Nat} {L : List TxT} (k : BkAt w g p h m A N C L) : L.length = N := by
  obtain ⟨b, xs, hx, e⟩ := k
  rw [← e, List.length_map, hx.length]
theorem BkAt.fees {w : World} {g : Nat} {p : List Int} {h : Int} {m : List Int} {A : Option Addr} {N C : Nat} {L : List TxT} (k : BkAt w g p h m A N C L) (hp : DgOk p) (hm : DgOk m) :
    Calls Tryd.prog 15 #[.agg (bkC p h m (.slice A N C)).toArray] w fun e w' => e = .returned (.tuple #[.int .i64 (feeV h L), .int .i64 (blkE h L)]) ∧ Below w.heap.size w w' := by
  obtain ⟨b, xs, hx, e⟩ := k
  rw [← e]; exact bFees_any w p h m hp hm A N C xs hx
theorem BkAt.right {w : World} {g : Nat} {p : List Int} {h : Int} {m : List Int} {A : Option Addr} {N C : Nat} {L : List TxT} (k : BkAt w g p h m A N C L) (hp : DgOk p) (hm : DgOk m) :
    Calls Tryd.prog 12 #[.agg (bkC p h m (.slice A N C)).toArray] w fun e w' => e = .returned (.int .i64 (blkE h L)) ∧ Below w.heap.size w w' := by
  obtain ⟨b, xs, hx, e⟩ := k
  rw [← e]; exact right_b w p h m hp hm A N C xs hx
theorem BkAt.clone {w : World} {g : Nat} {p : List Int} {h : Int} {m : List Int} {A : Option Addr} {N C : Nat} {L : List TxT} (k : BkAt w g p h m A N C L) (hp : DgOk p) (hm : DgOk m) (hN : N ≤ 1000) (hl : ∀ t ∈ L, t.b.length ≤ 4294967296 ∧ t.s.length ≤ 4294967296) :
    Calls Tryd.prog 16 #[.agg (bkC p h m (.slice A N C)).toArray] w fun e w' => (∃ v ys, e = .returned (.agg (bkC p h m v).toArray) ∧ OwnT w.heap.size w' v N L ys) ∧ Below w.heap.size w w' := by
  obtain ⟨b, xs, hx, e⟩ := k
  rw [← e] at hl ⊢
  exact bClone_any w p h m hp hm A N C xs hx hN (fun x hx => hl x.2 (List.mem_map_of_mem hx))
theorem Txs.front {w : World} {A : Option Addr} {N k : Nat} {xs : List (List Value × TxT)} (h : Txs w A N xs) (hk : k ≤ N) : Txs w A k (xs.take k) := by
  have hl := h.length
  refine ⟨⟨?_, by have := h.sl.le; omega, fun hp => ?_⟩, fun x hx => h.th x (List.mem_of_mem_take hx)⟩
  · rw [flats_len (m := 13) _ (fun l hl => by
      obtain ⟨x, hx, rfl⟩ := List.mem_map.1 hl
      exact (h.th x (List.mem_of_mem_take hx)).len), List.length_map, List.length_take]
    omega
  · obtain ⟨ad, e, hb, hc⟩ := h.sl.mem (by omega)
    refine ⟨ad, e, hb, fun j u hu => hc j u ?_⟩
    have e2 : (xs.map (·.1)).flatten = ((xs.take k).map (·.1)).flatten ++ ((xs.drop k).map (·.1)).flatten := by
      rw [← List.flatten_append, ← List.map_append, List.take_append_drop]
    rw [e2, List.getElem?_append_left (List.getElem?_eq_some_iff.1 hu).1]
    exact hu
theorem Txs.back {w : World} {A : Option Addr} {N k c : Nat} {xs : List (List Value × TxT)} (h : Txs w A N xs) (hc : N ≤ c) (hk : k ≤ N) : Txs w (if c = k then A else Option.map (fun x => x.add (k * 13)) A) (N - k) (xs.drop k) := by
  have hl := h.length
  refine ⟨⟨?_, by have := h.sl.le; omega, fun hp => ?_⟩, fun x hx => h.th x (List.mem_of_mem_drop hx)⟩
  · rw [flats_len (m := 13) _ (fun l hl => by
      obtain ⟨x, hx, rfl⟩ := List.mem_map.1 hl
      exact (h.th x (List.mem_of_mem_drop hx)).len), List.length_map, List.length_drop]
    omega
  · obtain ⟨ad, rfl, hb, hcc⟩ := h.sl.mem (by omega)
    rw [if_neg (by omega)]
    refine ⟨ad.add (k * 13), rfl, by rw [add_block]; exact hb, fun j u hu => ?_⟩
    rw [add_add']
    refine hcc _ _ ?_
    have e2 : (xs.map (·.1)).flatten = ((xs.take k).map (·.1)).flatten ++ ((xs.drop k).map (·.1)).flatten := by
      rw [← List.flatten_append, ← List.map_append, List.take_append_drop]
    have e3 : ((xs.take k).map (·.1)).flatten.length = k * 13 := by
      rw [flats_len (m := 13) _ (fun l hl => by
        obtain ⟨x, hx, rfl⟩ := List.mem_map.1 hl
        exact (h.th x (List.mem_of_mem_take hx)).len), List.length_map, List.length_take]
      rw [show min k xs.length = k by omega]
    rw [e2, List.getElem?_append_right (by omega), e3, show k * 13 + j - k * 13 = j by omega]
    exact hu
theorem run_tback (A : Option Addr) (n c k : Nat) (hk : k ≤ n) (hc : n ≤ c) (W : World) :
    (Instr.slice 29 (.slice A n c) (some (.int .i64 (k : Int))) none none).run Tryd.prog W = .ok (.slice (if c = k then A else Option.map (fun x => x.add (k * 13)) A) (n - k) (c - k)) W := by
  obtain ⟨i0, hi, hi0, hi1, hi2⟩ := info_parts Tryd.infoTx
  have he : Tryd.prog.elem 29 = 47 := by simp [Program.elem, Tryd.underlying29]
  rw [run_slice_l (P := Tryd.prog) (w := W) 29 A n c (by rw [he]; exact Tryd.underlying29) .i64 k (by omega) (by omega)]
  simp [he, sizeOf, typeInfo, hi, hi1, sliced]
theorem run_tfront (A : Option Addr) (n c k : Nat) (hk : k ≤ n) (hc : n ≤ c) (W : World) :
    (Instr.slice 29 (.slice A n c) none (some (.int .i64 (k : Int))) none).run Tryd.prog W = .ok (.slice A k c) W := by
  obtain ⟨i0, hi, hi0, hi1, hi2⟩ := info_parts Tryd.infoTx
  have he : Tryd.prog.elem 29 = 47 := by simp [Program.elem, Tryd.underlying29]
  rw [run_slice_h (P := Tryd.prog) (w := W) 29 A n c (by rw [he]; exact Tryd.underlying29) .i64 k (by omega) (by omega)]
  simp [he, sizeOf, typeInfo, hi, hi1, sliced]
  intro _
  cases A with
  | none => rfl
  | some a => simp [Addr.add]
theorem build_rb1 (A : Option Addr) (n c : Nat) (w : World) : (Instr.build 25 #[(3, .slice A n c)]).run Tryd.prog w = .ok (.agg (bkC zeroD 0 zeroD (.slice A n c)).toArray) w := by kernel_rfl
set_option maxRecDepth 20000 in
set_option maxHeartbeats 16000000 in
theorem bfees_law (w : World) (p : List Int) (h : Int) (m : List Int) (hp : DgOk p) (hm : DgOk m) (A : Option Addr) (N C : Nat) (xs : List (List Value × TxT)) (hx : Txs w A N xs)
    (hl : ∀ x ∈ xs, x.2.b.length ≤ 140737488355328 ∧ x.2.s.length ≤ 140737488355328) (cu : Int) (hc0 : 0 ≤ cu) (hc1 : cu < 256)
    (ct : List Value) (t : TxT) (ht : Txg w ct t) (hl1 : t.b.length ≤ 140737488355328) (hl2 : t.s.length ≤ 140737488355328) :
    Calls Tryd.prog 4 #[.agg (bkC p h m (.slice A N C)).toArray, .int .u8 cu, .agg ct.toArray] w fun e w' => e = .returned (.bool true) ∧ Below w.heap.size w w' := by
  obtain ⟨⟨Ab, As, Nb, Cb, Ns, Cs, rfl, sb, ss, hnb, hns⟩, hok⟩ := ht
  have hF0 : Hid (BkFit (bkC p h m (.slice A N C))) := bk_fit hp hm
  have HFB := Lib.hid (fun (A' : Option Addr) (N' C' : Nat) => bk_fit (p := p) (h := h) (m := m) (A := A') (N := N') (C := C') hp hm)
  have HFW := Lib.hid (fun w' (hx' : Txs w' A N xs) => few_any w' p h m hp hm A N C xs hx' hl)
  have HOF := Lib.hid (fun w' (hx' : Txs w' A N xs) (hN : N ≤ 1000) => of_any w' p h m hp hm A N C xs hx' hN)
  obtain ⟨L, hL⟩ : ∃ L, xs.map (·.2) = L := ⟨_, rfl⟩
  have HLN : Hid (L.length = N) := by show _ = _; rw [← hL, List.length_map, hx.length]
  rw [hL] at HFW
  have HL := Lib.hid hL
  have e1 := sb.length; have e2 := ss.length
  obtain ⟨l, hl0⟩ : ∃ x, bkC p h m (.slice A N C) = x := ⟨_, rfl⟩
  obtain ⟨X, hX⟩ : ∃ X, l.toArray = X := ⟨_, rfl⟩
  obtain ⟨lt, hlt⟩ : ∃ x, txC t (.slice Ab Nb Cb) (.slice As Ns Cs) = x := ⟨_, rfl⟩
  obtain ⟨Y, hY⟩ : ∃ X, lt.toArray = X := ⟨_, rfl⟩
  obtain ⟨z, hz⟩ : ∃ z, w.heap.size = z := ⟨_, rfl⟩
  obtain ⟨w1, hw1⟩ : ∃ w1, (w.alloc (.cells X 25)).alloc (.cells Y 42) = w1 := ⟨_, rfl⟩
  have hb1 : Below w.heap.size w w1 := hw1 ▸ (below_new w _).alloc (by simp) _
  have kx : Bk w1 z 25 l := hw1 ▸ (Bk.at_ w _ X hz (by rw [← hX])).alloc _
  have ky : Bk w1 (z + 1) 42 lt := hw1 ▸ Bk.at_ _ _ Y (by simp [hz]) (by rw [← hY])
  have hm1 := tx_mem hok.f (by rw [hlt]; exact ky)
  have HW := Lib.hid hw1; have HBB1 := Lib.hid hb1; have HZ := Lib.hid hz; have HK1 := Lib.hid kx; have HT1 := Lib.hid ky; have HPO := Lib.hid hp; have HMO := Lib.hid hm; have HXE := Lib.hid hX; have HLE := Lib.hid hl0; have HTE := Lib.hid hlt
  have HX1 := Lib.hid (hx.later hb1); have HOK := Lib.hid hok
  have HG1 : Hid (Txg w1 lt t) := ⟨⟨Ab, As, Nb, Cb, Ns, Cs, hlt.symm, sb.later hb1, ss.later hb1, hnb, hns⟩, hok⟩
  have HFL : Hid (BkFit l) := hl0 ▸ hF0.out
  have HTM : Hid (∀ w' g ty, Bk w' g ty lt → TxM w' g 0 t (.slice Ab Nb Cb) (.slice As Ns Cs)) := fun w' g ty k => by rw [← hlt] at k; exact tx_mem hok.f k
  rw [hl0] at HFW HOF ⊢
  rw [hX] at HFW HOF ⊢
  rw [hlt, hY]
  have HYE := Lib.hid hY
  clear hL hl0 hX hlt hY hz hw1 hb1 kx ky hm1 hF0 hp hm hx hl hok sb ss
  go_enter Tryd.func4, Tryd.ntmps4
  go_upto_region 1 with fail
  rw [HW.out, HZ.out]
  go_wp2_with fail
  refine (known_any w1).mono ?_
  rintro e w2 ⟨rfl, hbn⟩
  have HBB2 := Lib.hid (below_then HBB1.out hbn)
  have HK2 := Lib.hid (HK1.out.later hbn)
  have HT2 := Lib.hid (HT1.out.later hbn)
  have HX2 := Lib.hid (HX1.out.later hbn)
  have HG2 := Lib.hid (HG1.out.later hbn)
  clear hbn
  go_wp2_with ((with_reducible refine wpList_load_bkG2 ?_ 25 _ rfl z rfl l 25 HK2.out _ Tryd.underlying25 rfl HFL.out.rsize ?_); rfl)
  rw [HXE.out]
  refine (HFW.out w2 HX2.out).mono ?_
  rintro e w3 ⟨rfl, hbn⟩
  have HBB3 := Lib.hid (below_then HBB2.out hbn)
  have HK3 := Lib.hid (HK2.out.later hbn)
  have HT3 := Lib.hid (HT2.out.later hbn)
  have HX3 := Lib.hid (HX2.out.later hbn)
  have HG3 := Lib.hid (HG2.out.later hbn)
  clear hbn
  obtain ⟨fw, hfw⟩ : ∃ b, fewT L = b := ⟨_, rfl⟩
  rw [hfw]
  have HFE := Lib.hid hfw
  clear hfw HK1 HK2 HT1 HT2 HX1 HX2 HG1 HG2
  cases fw
  · go_wp2_with fail
    refine (known_any w3).mono ?_
    rintro e w4 ⟨rfl, hbn⟩
    go_wp2_with fail
    go_ret
    exact ⟨rfl, below_then HBB3.out hbn⟩
  have HMT := Lib.hid (HTM.out _ _ _ HT3.out)
  have h11 := HMT.out.c11; have h12 := HMT.out.c12
  simp only [Nat.zero_add] at h11 h12
  have hwr : wrap64 ((Nb : Int) + Ns) = Nb + Ns := IntWalk.wrap64_in _ (by omega)
  by_cases hbig : (1000 : Int) < Nb + Ns
  · go_wp2_with fail
    refine (known_any w3).mono ?_
    rintro e w4 ⟨rfl, hbn⟩
    go_wp2_with fail
    go_ret
    exact ⟨rfl, below_then HBB3.out hbn⟩
  have HN : Hid (N ≤ 66) := by have := few_len HFE.out; rw [HLN.out] at this; exact this
  have HEA := Lib.hid (few_each HFE.out)
  have HHL : Hid (Nb ≤ 1000 ∧ Ns ≤ 1000) := by show _ ∧ _; omega
  have HOF := Lib.hid (fun w' hx' => HOF.out w' hx' (by have := HN.out; omega))
  go_wp2_with (with_reducible refine wpList_load_bk rfl 25 _ rfl z rfl l 25 HK3.out _ Tryd.underlying25 rfl HFL.out.rsize ?_)
  rw [HXE.out]
  refine (HOF.out w3 HX3.out).mono ?_
  rintro e w4 ⟨⟨v, rfl, hown⟩, hbn⟩
  obtain ⟨A2, c2, rfl⟩ := own_form hown
  have HO4 : Hid (∃ xs, Txs w4 A2 N xs ∧ xs.map (·.2) = L) := ⟨xs, ⟨Sl.of_own hown, fun x hx => (HX3.out.th x hx).later hbn⟩, HL.out⟩
  have HBB4 := Lib.hid (below_then HBB3.out hbn)
  have HK4 := Lib.hid (HK3.out.later hbn)
  have HT4 := Lib.hid (HT3.out.later hbn)
  have HG4 := Lib.hid (HG3.out.later hbn)
  clear hbn
  have HCC : Hid (N ≤ c2) := own_cap hown
  clear hown h11 h12 hwr hbig HX3 HK3 HT3 HG3 HOF HFW HMT
  obtain ⟨B1, hB1⟩ : ∃ l, bkC p h m (.slice A2 N c2) = l := ⟨_, rfl⟩
  have HB1 := Lib.hid hB1
  have HF1 : Hid (BkFit B1) := hB1 ▸ HFB.out A2 N c2
  rw [hB1]
  clear hB1
  go_wp2_with (with_reducible refine stop_store 31 _ _ rfl ?_)
  refine StopD.go ?_
  obtain ⟨g5, hg5⟩ : ∃ g, w4.heap.size = g := ⟨_, rfl⟩
  have hbn : Below w4.heap.size w4 (w4.alloc (.cells #[.int .u8 0, .int .u8 0, .int .u8 0, .int .u8 0, .int .u8 0, .int .u8 0, .int .u8 0, .int .u8 0, .int .i64 0, .int .u8 0, .int .u8 0, .int .u8 0, .int .u8 0, .int .u8 0, .int .u8 0, .int .u8 0, .int .u8 0, .slice none 0 0] 31)) := below_new w4 _
  have kt : Bk (w4.alloc (.cells #[.int .u8 0, .int .u8 0, .int .u8 0, .int .u8 0, .int .u8 0, .int .u8 0, .int .u8 0, .int .u8 0, .int .i64 0, .int .u8 0, .int .u8 0, .int .u8 0, .int .u8 0, .int .u8 0, .int .u8 0, .int .u8 0, .int .u8 0, .slice none 0 0] 31)) g5 31 ([] ++ (zBk ++ [])) := by rw [← hg5]; exact Bk.new' w4 _ #[.int .u8 0, .int .u8 0, .int .u8 0, .int .u8 0, .int .u8 0, .int .u8 0, .int .u8 0, .int .u8 0, .int .i64 0, .int .u8 0, .int .u8 0, .int .u8 0, .int .u8 0, .int .u8 0, .int .u8 0, .int .u8 0, .int .u8 0, .slice none 0 0] rfl
  rw [hg5]
  refine wpList_store_part rfl 31 _ _ rfl g5 0 (.agg (B1).toArray) (B1) rfl rfl rfl 31 [] zBk [] kt rfl (by rw [HF1.out.len]; rfl) HF1.out.size HF1.out.one ?_
  intro w5 hp
  have hbn : Below w4.heap.size w4 w5 := hbn.grown hp.only hbn.size (fun q hq => by injection hq with hq; omega)
  have HA5 : Hid (Bk w5 g5 31 (B1)) := by show Bk _ _ _ _; have := hp.bk; simpa using this
  clear hp kt
  have HA5 : Hid (BkAt w5 g5 p h m A2 N c2 L) := by
    obtain ⟨xs', hx', he'⟩ := HO4.out
    exact ⟨by rw [HB1.out]; exact HA5.out, xs', hx'.later hbn, he'⟩
  have HBB5 := Lib.hid (below_then HBB4.out hbn)
  have HK5 := Lib.hid (HK4.out.later hbn)
  have HT5 := Lib.hid (HT4.out.later hbn)
  have HG5 := Lib.hid (HG4.out.later hbn)
  clear hbn
  clear hg5 HO4
  have HFC := Lib.hid (fun (w' : World) (k : BkAt w' g5 p h m A2 N c2 L) => k.fees HPO.out HMO.out)
  have HRC := Lib.hid (fun (w' : World) (k : BkAt w' g5 p h m A2 N c2 L) => k.right HPO.out HMO.out)
  rw [HB1.out] at HFC HRC
  have HBK := Lib.hid (fun (w' : World) (k : BkAt w' g5 p h m A2 N c2 L) => k.bk)
  rw [HB1.out] at HBK
  go_wp2_with (with_reducible refine wpList_load_bk rfl 31 _ rfl g5 rfl B1 31 (HBK.out _ HA5.out) _ Tryd.underlying31 rfl HF1.out.size ?_)
  refine (HFC.out w5 HA5.out).mono ?_
  rintro e w6 ⟨rfl, hbn⟩
  have HBB6 := Lib.hid (below_then HBB5.out hbn)
  have HK6 := Lib.hid (HK5.out.later hbn)
  have HT6 := Lib.hid (HT5.out.later hbn)
  have HG6 := Lib.hid (HG5.out.later hbn)
  have HA6 := Lib.hid (HA5.out.later hbn)
  clear hbn
  clear HK4 HK5 HT4 HT5 HG4 HG5 HA5
  obtain ⟨E, hE⟩ : ∃ E, blkE h L = E := ⟨_, rfl⟩
  obtain ⟨V, hV⟩ : ∃ V, feeV h L = V := ⟨_, rfl⟩
  have HE := Lib.hid hE; have HV := Lib.hid hV
  rw [hE] at HRC ⊢
  rw [hV]
  by_cases hE0 : E = 0
  · subst hE0
    have hV2 : V = feesS L := by rw [← hV, feeV_ok hE]
    as_aux_lemma =>
    have hz := blkE_zero hE
    have HN64 : Hid (N ≤ 64) := by have := hz.2.1; rw [HLN.out] at this; exact this
    have HFS := Lib.hid (feesS_pos L (fees_ok hE)); have HF2 := Lib.hid hz.2.2.2; have HV2 := Lib.hid hV2
    obtain ⟨k, hk⟩ : ∃ k, cu.toNat % (N + 1) = k := ⟨_, rfl⟩
    have HKN : Hid (k ≤ N) := by have := Nat.mod_lt cu.toNat (show 0 < N + 1 by omega); show k ≤ N; omega
    have hwr : wrap64 ((N : Int) + 1) = N + 1 := IntWalk.wrap64_in _ (by have := HN64.out; omega)
    have hrem : cu.tmod ((N : Int) + 1) = (k : Int) := by
      rw [Int.tmod_eq_emod_of_nonneg hc0, ← hk, Int.natCast_emod]
      congr 1
      omega
    have hne : ((N : Int) + 1 == 0) = false := by simp; omega
    have hne2 : ¬ ((N : Int) + 1 = 0) := by omega
    have hcv : wrap64 cu = cu := IntWalk.wrap64_in _ (by omega)
    have hcv2 : wrap64 (k : Int) = k := IntWalk.wrap64_in _ (by have := HKN.out; have := HN64.out; omega)
    have c17 : w6.cell? ⟨g5, 17, none⟩ = some (.slice A2 N c2) := (bkc_mem HPO.out HMO.out HA6.out.bk).c17
    clear hz hV2 hk hV hE
    go_wp2_with fail
    clear hwr hrem hne hne2 hcv hcv2 c17
    go_cut [11, 12] (fun p1 p2 wx => ∃ gF gB, p1 = .pointer (some ⟨gF, 0, none⟩) ∧ p2 = .pointer (some ⟨gB, 0, none⟩) ∧ Hid (gF ≠ gB ∧ w6.heap.size ≤ gF ∧ w6.heap.size ≤ gB) ∧ Hid (Bk wx gF 31 B1) ∧ Hid (Bk wx gB 31 B1) ∧ Hid (Below w6.heap.size w6 wx))
    case first =>
      as_aux_lemma =>
      refine wp_region_held_drew (S := fun w' => Bk w' g5 31 B1) (by kernel_rfl) (Bk.drew (HBK.out _ HA6.out)) (fun hHeld => ?_)
      refine wpAnyH_take (i := 0) (v := .agg (List.toArray (B1))) rfl (by kernel_rfl) (by kernel_rfl) (by kernel_rfl) (fun _ _ _ h => h) (yieldsIf_load_mid (by rfl) _ _ rfl _ _ rfl (B1) _ (fun w hSw => (Bk.range (pre := []) (post := []) (by simpa using hSw) rfl)) Tryd.underlying31 rfl (HF1.out.size)) (by assumption) ?_
      try simp only [Act.put, List.setIfInBounds_toArray, List.set_cons_zero, List.set_cons_succ, List.getElem_toArray, List.getElem_cons_zero, List.getElem_cons_succ]
      refine wpAnyH_take (i := 1) (v := .agg (List.toArray (B1))) rfl (by kernel_rfl) (by kernel_rfl) (by kernel_rfl) (fun _ _ _ h => h) (yieldsIf_load_mid (by rfl) _ _ rfl _ _ rfl (B1) _ (fun w hSw => (Bk.range (pre := []) (post := []) (by simpa using hSw) rfl)) Tryd.underlying31 rfl (HF1.out.size)) (by assumption) ?_
      try simp only [Act.put, List.setIfInBounds_toArray, List.set_cons_zero, List.set_cons_succ, List.getElem_toArray, List.getElem_cons_zero, List.getElem_cons_succ]
      refine wpAnyH_ready (rs := [2, 3]) (by kernel_rfl) (by simp) ?_
      refine AllReadyH.cons rfl (fun K hK => ?_) (AllReadyH.cons rfl (fun K hK => ?_) AllReadyH.nil)
      ·
        go_simp
        obtain ⟨s, hs⟩ : ∃ s, w6.heap.size = s := ⟨_, rfl⟩
        obtain ⟨wa, hwa⟩ : ∃ wa, (w6.alloc (.cells #[.int .u8 0, .int .u8 0, .int .u8 0, .int .u8 0, .int .u8 0, .int .u8 0, .int .u8 0, .int .u8 0, .int .i64 0, .int .u8 0, .int .u8 0, .int .u8 0, .int .u8 0, .int .u8 0, .int .u8 0, .int .u8 0, .int .u8 0, .slice none 0 0] 31)).drew = wa := ⟨_, rfl⟩
        have hb : Below w6.heap.size w6 wa := hwa ▸ (below_new w6 _).drew
        have k1 : Bk wa s 31 zBk := hwa ▸ (Bk.at_ w6 _ #[.int .u8 0, .int .u8 0, .int .u8 0, .int .u8 0, .int .u8 0, .int .u8 0, .int .u8 0, .int .u8 0, .int .i64 0, .int .u8 0, .int .u8 0, .int .u8 0, .int .u8 0, .int .u8 0, .int .u8 0, .int .u8 0, .int .u8 0, .slice none 0 0] hs rfl).drew
        have hsa : wa.heap.size = s + 1 := by rw [← hwa, ← hs]; simp [World.drew]
        rw [hwa, hs]
        refine hK.out _ _ (HBK.out _ (HA6.out.later hb)) (fun hHeld => ?_)
        clear hK K
        try simp only [Act.put, List.setIfInBounds_toArray, List.set_cons_zero, List.set_cons_succ, List.getElem_toArray, List.getElem_cons_zero, List.getElem_cons_succ]
        refine wpAnyH_ready (rs := [3]) (by kernel_rfl) (by simp) ?_
        refine AllReadyH.cons rfl (fun K hK => ?_) AllReadyH.nil
        go_simp
        obtain ⟨wb, hwb⟩ : ∃ wb, wa.alloc (.cells #[.int .u8 0, .int .u8 0, .int .u8 0, .int .u8 0, .int .u8 0, .int .u8 0, .int .u8 0, .int .u8 0, .int .i64 0, .int .u8 0, .int .u8 0, .int .u8 0, .int .u8 0, .int .u8 0, .int .u8 0, .int .u8 0, .int .u8 0, .slice none 0 0] 31) = wb := ⟨_, rfl⟩
        have hb2 : Below wa.heap.size wa wb := hwb ▸ below_new wa _
        have k2 : Bk wb (s + 1) 31 zBk := hwb ▸ Bk.at_ wa _ #[.int .u8 0, .int .u8 0, .int .u8 0, .int .u8 0, .int .u8 0, .int .u8 0, .int .u8 0, .int .u8 0, .int .i64 0, .int .u8 0, .int .u8 0, .int .u8 0, .int .u8 0, .int .u8 0, .int .u8 0, .int .u8 0, .int .u8 0, .slice none 0 0] hsa rfl
        have k1 : Bk wb s 31 zBk := k1.later hb2
        have hb : Below w6.heap.size w6 wb := below_then hb hb2
        rw [hwb]
        try rw [hsa]
        refine hK.out _ _ (HBK.out _ (HA6.out.later hb)) (fun hHeld => ?_)
        clear hK K hwa hwb hb2
        try simp only [Act.put, List.setIfInBounds_toArray, List.set_cons_zero, List.set_cons_succ, List.getElem_toArray, List.getElem_cons_zero, List.getElem_cons_succ]
        refine wpAnyH_ready (rs := [4]) (by kernel_rfl) (by simp) ?_
        refine AllReadyH.cons rfl (fun K hK => ?_) AllReadyH.nil
        rw [if_pos (by rfl)]
        refine wp_store_part _ _ _ rfl s 0 _ (B1) rfl rfl rfl _ ([]) (zBk) ([]) (by simpa using k1) rfl (by rw [HF1.out.len]; rfl) HF1.out.size HF1.out.one ?_
        intro wd hp
        refine hK.out _ _ (HBK.out _ (HA6.out.later (below_only hb hp.only hb.size (by omega)))) (fun hHeld => ?_)
        clear hK K
        try simp only [Act.put, List.setIfInBounds_toArray, List.set_cons_zero, List.set_cons_succ, List.getElem_toArray, List.getElem_cons_zero, List.getElem_cons_succ]
        have hb : Below w6.heap.size w6 wd := below_only hb hp.only hb.size (by omega)
        have k3 : Bk wd (s) 31 B1 := by have := hp.bk; simpa using this
        have k4 : Bk wd ((s + 1)) 31 zBk := k2.grown hp.only (by intro e; injection e with e; omega)
        clear hp
        refine wpAnyH_ready (rs := [5]) (by kernel_rfl) (by simp) ?_
        refine AllReadyH.cons rfl (fun K hK => ?_) AllReadyH.nil
        rw [if_pos (by rfl)]
        refine wp_store_part _ _ _ rfl (s + 1) 0 _ (B1) rfl rfl rfl _ ([]) (zBk) ([]) (by simpa using k4) rfl (by rw [HF1.out.len]; rfl) HF1.out.size HF1.out.one ?_
        intro we hp
        refine hK.out _ _ (HBK.out _ (HA6.out.later (below_only hb hp.only hb.size (by omega)))) (fun hHeld => ?_)
        clear hK K
        try simp only [Act.put, List.setIfInBounds_toArray, List.set_cons_zero, List.set_cons_succ, List.getElem_toArray, List.getElem_cons_zero, List.getElem_cons_succ]
        have hb : Below w6.heap.size w6 we := below_only hb hp.only hb.size (by omega)
        have k5 : Bk we ((s + 1)) 31 B1 := by have := hp.bk; simpa using this
        have k6 : Bk we (s) 31 B1 := k3.grown hp.only (by intro e; injection e with e; omega)
        clear hp
        refine wpAnyH_done rfl ?_ _
        go_wp2_with fail
        go_meet
        exact ⟨_, _, rfl, rfl, ⟨by omega, by omega, by omega⟩, k6, k5, hb⟩
      ·
        go_simp
        obtain ⟨s, hs⟩ : ∃ s, w6.heap.size = s := ⟨_, rfl⟩
        obtain ⟨wa, hwa⟩ : ∃ wa, (w6.alloc (.cells #[.int .u8 0, .int .u8 0, .int .u8 0, .int .u8 0, .int .u8 0, .int .u8 0, .int .u8 0, .int .u8 0, .int .i64 0, .int .u8 0, .int .u8 0, .int .u8 0, .int .u8 0, .int .u8 0, .int .u8 0, .int .u8 0, .int .u8 0, .slice none 0 0] 31)).drew = wa := ⟨_, rfl⟩
        have hb : Below w6.heap.size w6 wa := hwa ▸ (below_new w6 _).drew
        have k1 : Bk wa s 31 zBk := hwa ▸ (Bk.at_ w6 _ #[.int .u8 0, .int .u8 0, .int .u8 0, .int .u8 0, .int .u8 0, .int .u8 0, .int .u8 0, .int .u8 0, .int .i64 0, .int .u8 0, .int .u8 0, .int .u8 0, .int .u8 0, .int .u8 0, .int .u8 0, .int .u8 0, .int .u8 0, .slice none 0 0] hs rfl).drew
        have hsa : wa.heap.size = s + 1 := by rw [← hwa, ← hs]; simp [World.drew]
        rw [hwa, hs]
        refine hK.out _ _ (HBK.out _ (HA6.out.later hb)) (fun hHeld => ?_)
        clear hK K
        try simp only [Act.put, List.setIfInBounds_toArray, List.set_cons_zero, List.set_cons_succ, List.getElem_toArray, List.getElem_cons_zero, List.getElem_cons_succ]
        refine wpAnyH_ready (rs := [2]) (by kernel_rfl) (by simp) ?_
        refine AllReadyH.cons rfl (fun K hK => ?_) AllReadyH.nil
        go_simp
        obtain ⟨wb, hwb⟩ : ∃ wb, wa.alloc (.cells #[.int .u8 0, .int .u8 0, .int .u8 0, .int .u8 0, .int .u8 0, .int .u8 0, .int .u8 0, .int .u8 0, .int .i64 0, .int .u8 0, .int .u8 0, .int .u8 0, .int .u8 0, .int .u8 0, .int .u8 0, .int .u8 0, .int .u8 0, .slice none 0 0] 31) = wb := ⟨_, rfl⟩
        have hb2 : Below wa.heap.size wa wb := hwb ▸ below_new wa _
        have k2 : Bk wb (s + 1) 31 zBk := hwb ▸ Bk.at_ wa _ #[.int .u8 0, .int .u8 0, .int .u8 0, .int .u8 0, .int .u8 0, .int .u8 0, .int .u8 0, .int .u8 0, .int .i64 0, .int .u8 0, .int .u8 0, .int .u8 0, .int .u8 0, .int .u8 0, .int .u8 0, .int .u8 0, .int .u8 0, .slice none 0 0] hsa rfl
        have k1 : Bk wb s 31 zBk := k1.later hb2
        have hb : Below w6.heap.size w6 wb := below_then hb hb2
        rw [hwb]
        try rw [hsa]
        refine hK.out _ _ (HBK.out _ (HA6.out.later hb)) (fun hHeld => ?_)
        clear hK K hwa hwb hb2
        try simp only [Act.put, List.setIfInBounds_toArray, List.set_cons_zero, List.set_cons_succ, List.getElem_toArray, List.getElem_cons_zero, List.getElem_cons_succ]
        refine wpAnyH_ready (rs := [4]) (by kernel_rfl) (by simp) ?_
        refine AllReadyH.cons rfl (fun K hK => ?_) AllReadyH.nil
        rw [if_pos (by rfl)]
        refine wp_store_part _ _ _ rfl (s + 1) 0 _ (B1) rfl rfl rfl _ ([]) (zBk) ([]) (by simpa using k2) rfl (by rw [HF1.out.len]; rfl) HF1.out.size HF1.out.one ?_
        intro wd hp
        refine hK.out _ _ (HBK.out _ (HA6.out.later (below_only hb hp.only hb.size (by omega)))) (fun hHeld => ?_)
        clear hK K
        try simp only [Act.put, List.setIfInBounds_toArray, List.set_cons_zero, List.set_cons_succ, List.getElem_toArray, List.getElem_cons_zero, List.getElem_cons_succ]
        have hb : Below w6.heap.size w6 wd := below_only hb hp.only hb.size (by omega)
        have k3 : Bk wd ((s + 1)) 31 B1 := by have := hp.bk; simpa using this
        have k4 : Bk wd (s) 31 zBk := k1.grown hp.only (by intro e; injection e with e; omega)
        clear hp
        refine wpAnyH_ready (rs := [5]) (by kernel_rfl) (by simp) ?_
        refine AllReadyH.cons rfl (fun K hK => ?_) AllReadyH.nil
        rw [if_pos (by rfl)]
        refine wp_store_part _ _ _ rfl s 0 _ (B1) rfl rfl rfl _ ([]) (zBk) ([]) (by simpa using k4) rfl (by rw [HF1.out.len]; rfl) HF1.out.size HF1.out.one ?_
        intro we hp
        refine hK.out _ _ (HBK.out _ (HA6.out.later (below_only hb hp.only hb.size (by omega)))) (fun hHeld => ?_)
        clear hK K
        try simp only [Act.put, List.setIfInBounds_toArray, List.set_cons_zero, List.set_cons_succ, List.getElem_toArray, List.getElem_cons_zero, List.getElem_cons_succ]
        have hb : Below w6.heap.size w6 we := below_only hb hp.only hb.size (by omega)
        have k5 : Bk we (s) 31 B1 := by have := hp.bk; simpa using this
        have k6 : Bk we ((s + 1)) 31 B1 := k3.grown hp.only (by intro e; injection e with e; omega)
        clear hp
        refine wpAnyH_done rfl ?_ _
        go_wp2_with fail
        go_meet
        exact ⟨_, _, rfl, rfl, ⟨by omega, by omega, by omega⟩, k6, k5, hb⟩
    obtain ⟨gF, gB, rfl, rfl, HGN, HF7, HB7, HBN⟩ := hcut
    have HG5 : Hid (g5 < w6.heap.size) := HA6.out.bk.lt
    refine ‹∀ (a : Act) (w : World), Code.wp _ _ _ a w → _› _ _ ?_
    as_aux_lemma =>
    go_wp2_with fail
    obtain ⟨Ak, hAk⟩ : ∃ Ak, (if c2 = k then A2 else Option.map (fun x => x.add (k * 13)) A2) = Ak := ⟨_, rfl⟩
    have hrb := fun W => run_tback A2 N c2 k HKN.out HCC.out W
    rw [hAk] at hrb
    have hrf := fun W => run_tfront A2 N c2 k HKN.out HCC.out W
    have HAK := Lib.hid hAk
    clear hAk
    refine wp_region_held_drew (S := fun w' => Bk w' g5 31 B1) (by kernel_rfl) (Bk.drew (HBK.out _ (HA6.out.later HBN.out))) (fun hHeld => ?_)
    have hbn : Below wc.heap.size wc wc.drew := below_draws wc wc.heap.size 1
    obtain ⟨w8, hw8⟩ : ∃ wa, wc.drew = wa := ⟨_, rfl⟩
    rw [hw8] at hbn hHeld ⊢
    have HF8 := Lib.hid (HF7.out.later hbn); have HB8 := Lib.hid (HB7.out.later hbn); have HBN8 := Lib.hid (below_then HBN.out hbn)
    clear HF7 HB7 HBN hw8 hbn
    refine wpAnyH_take (i := 0) (v := ?_) rfl (by kernel_rfl) (by kernel_rfl) (by kernel_rfl) (fun _ _ _ h => h) (Or.inl ⟨by rfl, ?_⟩) (by assumption) ?_
    rotate_left
    · intro w hSw
      (try dsimp only at hSw)
      go_simp
      try with_reducible rfl
    try simp only [Act.put, List.setIfInBounds_toArray, List.set_cons_zero, List.set_cons_succ, List.getElem_toArray, List.getElem_cons_zero, List.getElem_cons_succ]
    refine wpAnyH_take (i := 2) (v := ?_) rfl (by kernel_rfl) (by kernel_rfl) (by kernel_rfl) (fun _ _ _ h => h) (Or.inl ⟨by rfl, ?_⟩) (by assumption) ?_
    rotate_left
    · intro w hSw
      (try dsimp only at hSw)
      go_simp
      try with_reducible rfl
    try simp only [Act.put, List.setIfInBounds_toArray, List.set_cons_zero, List.set_cons_succ, List.getElem_toArray, List.getElem_cons_zero, List.getElem_cons_succ]
    refine wpAnyH_take (i := 4) (v := ?_) rfl (by kernel_rfl) (by kernel_rfl) (by kernel_rfl) (fun _ _ _ h => h) (Or.inl ⟨by rfl, ?_⟩) (by assumption) ?_
    rotate_left
    · intro w hSw
      (try dsimp only at hSw)
      go_simp
      try with_reducible rfl
    try simp only [Act.put, List.setIfInBounds_toArray, List.set_cons_zero, List.set_cons_succ, List.getElem_toArray, List.getElem_cons_zero, List.getElem_cons_succ]
    refine wpAnyH_take (i := 6) (v := ?_) rfl (by kernel_rfl) (by kernel_rfl) (by kernel_rfl) (fun _ _ _ h => h) (Or.inl ⟨by rfl, ?_⟩) (by assumption) ?_
    rotate_left
    · intro w hSw
      (try dsimp only at hSw)
      go_simp
      try with_reducible rfl
    try simp only [Act.put, List.setIfInBounds_toArray, List.set_cons_zero, List.set_cons_succ, List.getElem_toArray, List.getElem_cons_zero, List.getElem_cons_succ]
    refine wpAnyH_take (i := 1) (v := ?_) rfl (by kernel_rfl) (by kernel_rfl) (by kernel_rfl) (fun _ _ _ h => h) (Or.inl ⟨by rfl, ?_⟩) (by assumption) ?_
    rotate_left
    · intro w hSw
      have hcell := (bkc_mem HPO.out HMO.out (by rw [HB1.out]; exact hSw)).c17
      clear hSw
      go_simp
      try with_reducible rfl
    try simp only [Act.put, List.setIfInBounds_toArray, List.set_cons_zero, List.set_cons_succ, List.getElem_toArray, List.getElem_cons_zero, List.getElem_cons_succ]
    refine wpAnyH_take (i := 5) (v := ?_) rfl (by kernel_rfl) (by kernel_rfl) (by kernel_rfl) (fun _ _ _ h => h) (Or.inl ⟨by rfl, ?_⟩) (by assumption) ?_
    rotate_left
    · intro w hSw
      have hcell := (bkc_mem HPO.out HMO.out (by rw [HB1.out]; exact hSw)).c17
      clear hSw
      go_simp
      try with_reducible rfl
    try simp only [Act.put, List.setIfInBounds_toArray, List.set_cons_zero, List.set_cons_succ, List.getElem_toArray, List.getElem_cons_zero, List.getElem_cons_succ]
    refine wpAnyH_take (i := 3) (v := ?_) rfl (by kernel_rfl) (by kernel_rfl) (by kernel_rfl) (fun _ _ _ h => h) (Or.inl ⟨by rfl, ?_⟩) (by assumption) ?_
    rotate_left
    · intro w hSw
      (try dsimp only at hSw)
      go_simp
      try with_reducible rfl
    try simp only [Act.put, List.setIfInBounds_toArray, List.set_cons_zero, List.set_cons_succ, List.getElem_toArray, List.getElem_cons_zero, List.getElem_cons_succ]
    refine wpAnyH_take (i := 7) (v := ?_) rfl (by kernel_rfl) (by kernel_rfl) (by kernel_rfl) (fun _ _ _ h => h) (Or.inl ⟨by rfl, ?_⟩) (by assumption) ?_
    rotate_left
    · intro w hSw
      (try dsimp only at hSw)
      go_simp
      try with_reducible rfl
    try simp only [Act.put, List.setIfInBounds_toArray, List.set_cons_zero, List.set_cons_succ, List.getElem_toArray, List.getElem_cons_zero, List.getElem_cons_succ]
    refine wpAnyH_take (i := 8) (v := ?_) rfl (by kernel_rfl) (by kernel_rfl) (by kernel_rfl) (fun _ _ _ h => h) (Or.inl ⟨by rfl, ?_⟩) (by assumption) ?_
    rotate_left
    · intro w hSw
      (try dsimp only at hSw)
      go_simp
      try with_reducible rfl
    try simp only [Act.put, List.setIfInBounds_toArray, List.set_cons_zero, List.set_cons_succ, List.getElem_toArray, List.getElem_cons_zero, List.getElem_cons_succ]
    refine wpAnyH_ready (rs := [9]) (by kernel_rfl) (by simp) ?_
    refine AllReadyH.cons rfl (fun K hK => ?_) AllReadyH.nil
    rw [if_pos (by rfl)]
    refine wp_store_part _ _ _ rfl gF 17 _ ([.slice A2 k c2]) rfl rfl rfl _ ((dl p ++ .int .i64 h :: dl m)) ([.slice A2 N c2]) ([]) (by have := HF8.out; rw [← HB1.out] at this; simpa [bkC] using this) (by simp [dl_len, HPO.out.len, HMO.out.len]) rfl (by kernel_rfl) (by intro x hx; simp at hx; subst hx; rfl) ?_
    intro w9 hp
    refine hK.out _ _ (HBK.out _ (HA6.out.later (below_only HBN8.out hp.only HBN8.out.size HGN.out.2.1))) (fun hHeld => ?_)
    clear hK K
    try simp only [Act.put, List.setIfInBounds_toArray, List.set_cons_zero, List.set_cons_succ, List.getElem_toArray, List.getElem_cons_zero, List.getElem_cons_succ]
    have HBN9 := Lib.hid (below_only HBN8.out hp.only HBN8.out.size HGN.out.2.1)
    have HF9 : Hid (Bk w9 gF 31 (bkC p h m (.slice A2 k c2))) := by show Bk _ _ _ _; have := hp.bk; simpa [bkC] using this
    have HB9 := Lib.hid (HB8.out.grown hp.only (by intro e; injection e with e; have := HGN.out.1; omega))
    clear hp HF8 HB8 HBN8
    refine wpAnyH_take (i := 10) (v := ?_) rfl (by kernel_rfl) (by kernel_rfl) (by kernel_rfl) (fun _ _ _ h => h) (Or.inl ⟨by rfl, ?_⟩) (by assumption) ?_
    rotate_left
    · intro w hSw
      (try dsimp only at hSw)
      go_simp
      try with_reducible rfl
    try simp only [Act.put, List.setIfInBounds_toArray, List.set_cons_zero, List.set_cons_succ, List.getElem_toArray, List.getElem_cons_zero, List.getElem_cons_succ]
    refine wpAnyH_ready (rs := [11]) (by kernel_rfl) (by simp) ?_
    refine AllReadyH.cons rfl (fun K hK => ?_) AllReadyH.nil
    rw [if_pos (by rfl)]
    refine wp_store_part _ _ _ rfl gB 17 _ ([.slice Ak (N - k) (c2 - k)]) rfl rfl rfl _ ((dl p ++ .int .i64 h :: dl m)) ([.slice A2 N c2]) ([]) (by have := HB9.out; rw [← HB1.out] at this; simpa [bkC] using this) (by simp [dl_len, HPO.out.len, HMO.out.len]) rfl (by kernel_rfl) (by intro x hx; simp at hx; subst hx; rfl) ?_
    intro w10 hp
    refine hK.out _ _ (HBK.out _ (HA6.out.later (below_only HBN9.out hp.only HBN9.out.size HGN.out.2.2))) (fun hHeld => ?_)
    clear hK K
    try simp only [Act.put, List.setIfInBounds_toArray, List.set_cons_zero, List.set_cons_succ, List.getElem_toArray, List.getElem_cons_zero, List.getElem_cons_succ]
    have HBN10 := Lib.hid (below_only HBN9.out hp.only HBN9.out.size HGN.out.2.2)
    have HB10 : Hid (Bk w10 gB 31 (bkC p h m (.slice Ak (N - k) (c2 - k)))) := by show Bk _ _ _ _; have := hp.bk; simpa [bkC] using this
    have HF10 := Lib.hid (HF9.out.grown hp.only (by intro e; injection e with e; have := HGN.out.1; omega))
    clear hp HF9 HB9 HBN9
    refine wpAnyH_done rfl ?_ _
    have hbn := HBN10.out
    have HBB10 := Lib.hid (below_then HBB6.out hbn)
    have HK10 := Lib.hid (HK6.out.later hbn)
    have HT10 := Lib.hid (HT6.out.later hbn)
    have HG10 := Lib.hid (HG6.out.later hbn)
    have HA10 := Lib.hid (HA6.out.later hbn)
    clear hbn
    have HF10 : Hid (BkAt w10 gF p h m A2 k c2 (L.take k)) := by
      obtain ⟨xs', hx', he'⟩ := HA10.out.txs
      exact ⟨HF10.out, xs'.take k, hx'.front HKN.out, by rw [map_take2, he']⟩
    have HB10 : Hid (BkAt w10 gB p h m Ak (N - k) (c2 - k) (L.drop k)) := by
      obtain ⟨xs', hx', he'⟩ := HA10.out.txs
      exact ⟨HB10.out, xs'.drop k, by rw [← HAK.out]; exact hx'.back HCC.out HKN.out, by rw [List.map_drop, he']⟩
    clear HK6 HT6 HG6 HA6 HBB6 HBN10 hrb hrf
    have hhf := blk_half (h := h) (a := L.take k) (b := L.drop k) (by rw [List.take_append_drop]; exact HE.out)
    rw [List.take_append_drop, ← HV2.out] at hhf
    have hpa := feesS_pos _ (fees_ok hhf.1); have hpb := feesS_pos _ (fees_ok hhf.2.1)
    have hfa := (HF10.out.fees HPO.out HMO.out); have hfb := fun (w' : World) (k' : BkAt w' gB p h m Ak (N - k) (c2 - k) (L.drop k)) => k'.fees HPO.out HMO.out
    rw [feeV_ok hhf.1, hhf.1] at hfa
    rw [feeV_ok hhf.2.1, hhf.2.1] at hfb
    obtain ⟨F, hF⟩ : ∃ F, feesS (L.take k) = F := ⟨_, rfl⟩
    obtain ⟨G, hG⟩ : ∃ F, feesS (L.drop k) = F := ⟨_, rfl⟩
    rw [hF] at hfa hpa hhf
    rw [hG] at hfb hpb hhf
    have HFG : Hid (F + G = V ∧ 0 ≤ F ∧ 0 ≤ G) := ⟨hhf.2.2, hpa, hpb⟩
    have hFF : Hid (BkFit (bkC p h m (.slice A2 k c2))) := HFB.out _ _ _
    have hFB : Hid (BkFit (bkC p h m (.slice Ak (N - k) (c2 - k)))) := HFB.out _ _ _
    have HBF := Lib.hid HF10.out.bk
    have HBB := Lib.hid (fun (w' : World) (k' : BkAt w' gB p h m Ak (N - k) (c2 - k) (L.drop k)) => k'.bk)
    obtain ⟨CF, hCF⟩ : ∃ l, bkC p h m (.slice A2 k c2) = l := ⟨_, rfl⟩
    obtain ⟨CB, hCB⟩ : ∃ l, bkC p h m (.slice Ak (N - k) (c2 - k)) = l := ⟨_, rfl⟩
    rw [hCF] at hFF hfa HBF
    rw [hCB] at hFB hfb HBB
    have HFA := Lib.hid hfa; have HFBB := Lib.hid hfb
    clear hfa hfb hhf hpa hpb hF hG hCF hCB
    go_wp2_with (with_reducible refine wpList_load_bk rfl 31 _ rfl gF rfl CF 31 HBF.out _ Tryd.underlying31 rfl hFF.out.size ?_)
    refine HFA.out.mono ?_
    rintro e w11 ⟨rfl, hbn⟩
    have HB11 := Lib.hid (HB10.out.later hbn)
    have HBB11 := Lib.hid (below_then HBB10.out hbn)
    have HK11 := Lib.hid (HK10.out.later hbn)
    have HT11 := Lib.hid (HT10.out.later hbn)
    have HG11 := Lib.hid (HG10.out.later hbn)
    have HA11 := Lib.hid (HA10.out.later hbn)
    clear hbn
    clear HK10 HT10 HG10 HA10 HB10 HF10 HBF HFA
    go_wp2_with (with_reducible refine wpList_load_bk rfl 31 _ rfl gB rfl CB 31 (HBB.out _ HB11.out) _ Tryd.underlying31 rfl hFB.out.size ?_)
    refine (HFBB.out w11 HB11.out).mono ?_
    rintro e w12 ⟨rfl, hbn⟩
    have HBB12 := Lib.hid (below_then HBB11.out hbn)
    have HK12 := Lib.hid (HK11.out.later hbn)
    have HT12 := Lib.hid (HT11.out.later hbn)
    have HG12 := Lib.hid (HG11.out.later hbn)
    have HA12 := Lib.hid (HA11.out.later hbn)
    clear hbn
    clear HK11 HT11 HG11 HA11 HB11 HBB HFBB hFF hFB
    as_aux_lemma =>
    have hwr : wrap64 (F + G) = V := by
      have := HFG.out; have := HF2.out; have := HV2.out
      rw [IntWalk.wrap64_in _ (by omega)]; omega
    have hvv : (V != V) = false := by simp
    have HEL : Hid (∀ t ∈ L, t.b.length ≤ 4294967296 ∧ t.s.length ≤ 4294967296) := fun t ht => by have := HEA.out t ht; omega
    have hcl := HA12.out.clone HPO.out HMO.out (by have := HN.out; omega) HEL.out
    rw [HB1.out] at hcl
    have HCL := Lib.hid hcl
    clear hcl
    go_wp2_with (with_reducible refine wpList_load_bk rfl 31 _ rfl g5 rfl B1 31 (HBK.out _ HA12.out) _ Tryd.underlying31 rfl HF1.out.size ?_)
    refine HCL.out.mono ?_
    rintro e w13 ⟨⟨v, ys, rfl, hown⟩, hbn⟩
    have hbn12 := hbn.size; have hbq := hbn
    obtain ⟨A13, c13, rfl⟩ := own_form hown.own
    have HBB13 := Lib.hid (below_then HBB12.out hbn)
    have HK13 := Lib.hid (HK12.out.later hbn)
    have HT13 := Lib.hid (HT12.out.later hbn)
    have HG13 := Lib.hid (HG12.out.later hbn)
    have HA13 := Lib.hid (HA12.out.later hbn)
    clear hbn
    have HO13 := Lib.hid hown
    clear hown HCL hwr hvv
    have HBQ13 : Hid (Below w12.heap.size w12 w13) := hbq
    as_aux_lemma =>
    have HF3 : Hid (BkFit (bkC p h m (.slice A13 N c13))) := HFB.out _ _ _
    go_wp2_with (with_reducible refine stop_store 31 _ _ rfl ?_)
    refine StopD.go ?_
    obtain ⟨g14, hg14⟩ : ∃ g, w13.heap.size = g := ⟨_, rfl⟩
    have hbn : Below w13.heap.size w13 (w13.alloc (.cells #[.int .u8 0, .int .u8 0, .int .u8 0, .int .u8 0, .int .u8 0, .int .u8 0, .int .u8 0, .int .u8 0, .int .i64 0, .int .u8 0, .int .u8 0, .int .u8 0, .int .u8 0, .int .u8 0, .int .u8 0, .int .u8 0, .int .u8 0, .slice none 0 0] 31)) := below_new w13 _
    have kt : Bk (w13.alloc (.cells #[.int .u8 0, .int .u8 0, .int .u8 0, .int .u8 0, .int .u8 0, .int .u8 0, .int .u8 0, .int .u8 0, .int .i64 0, .int .u8 0, .int .u8 0, .int .u8 0, .int .u8 0, .int .u8 0, .int .u8 0, .int .u8 0, .int .u8 0, .slice none 0 0] 31)) g14 31 ([] ++ (zBk ++ [])) := by rw [← hg14]; exact Bk.new' w13 _ #[.int .u8 0, .int .u8 0, .int .u8 0, .int .u8 0, .int .u8 0, .int .u8 0, .int .u8 0, .int .u8 0, .int .i64 0, .int .u8 0, .int .u8 0, .int .u8 0, .int .u8 0, .int .u8 0, .int .u8 0, .int .u8 0, .int .u8 0, .slice none 0 0] rfl
    rw [hg14]
    refine wpList_store_part rfl 31 _ _ rfl g14 0 (.agg (bkC p h m (.slice A13 N c13)).toArray) (bkC p h m (.slice A13 N c13)) rfl rfl rfl 31 [] zBk [] kt rfl (by rw [HF3.out.len]; rfl) HF3.out.size HF3.out.one ?_
    intro w14 hp
    have hbn : Below w13.heap.size w13 w14 := hbn.grown hp.only hbn.size (fun q hq => by injection hq with hq; omega)
    have HM14 : Hid (Bk w14 g14 31 (bkC p h m (.slice A13 N c13))) := by show Bk _ _ _ _; have := hp.bk; simpa using this
    clear hp kt
    have HO14 := Lib.hid (HO13.out.later hbn)
    have HGE : Hid (w12.heap.size ≤ w13.heap.size ∧ w13.heap.size = g14) := ⟨hbn12, hg14⟩
    have HBL14 : Hid (w12.heap.size ≤ w14.heap.size) := Nat.le_trans hbn12 hbn.size
    have HBQ14 := Lib.hid (below_then HBQ13.out hbn)
    have HBB14 := Lib.hid (below_then HBB13.out hbn)
    have HK14 := Lib.hid (HK13.out.later hbn)
    have HT14 := Lib.hid (HT13.out.later hbn)
    have HG14 := Lib.hid (HG13.out.later hbn)
    have HA14 := Lib.hid (HA13.out.later hbn)
    clear hbn
    clear hg14 HK13 HT13 HG13 HA13 HO13 hbn12
    go_wp2_with (first
      | (with_reducible refine wpList_load_bk rfl 42 _ rfl (z + 1) rfl lt 42 HT14.out _ Tryd.underlying42 rfl HG14.out.rsize ?_)
      | (with_reducible refine stop_bs2 23 _ _ rfl ?_))
    refine StopD.go ?_
    refine wpList_bsliceG2 rfl 23 1 _ rfl #[(0, .agg lt.toArray)] ?_ 42 lt (fun w => by rw [← HTE.out]; exact bs_rtx HOK.out.f Ab As Nb Cb Ns Cs w) ?_
    · simp [Act.eval, Act.put]
    intro q15 w15 hq15 hb15 hbn
    have HO15 := Lib.hid (HO14.out.later hbn); have HM15 := Lib.hid (HM14.out.later hbn)
    have HBQ15 := Lib.hid (below_then HBQ14.out hbn)
    have HBL15 : Hid (w12.heap.size ≤ w15.heap.size) := Nat.le_trans HBL14.out hbn.size
    have HBB15 := Lib.hid (below_then HBB14.out hbn)
    have HK15 := Lib.hid (HK14.out.later hbn)
    have HT15 := Lib.hid (HT14.out.later hbn)
    have HG15 := Lib.hid (HG14.out.later hbn)
    have HA15 := Lib.hid (HA14.out.later hbn)
    clear hbn
    have hX15 : Txs w15 (some ⟨q15, 0, none⟩) 1 [(lt, t)] := ⟨by
      have hl := HG15.out.len
      have := Sl.of_own (hb15.own (base := 0) (size := 13) (cap := 1) (n := 1) (Nat.zero_le _) (Nat.le_refl _) (by omega) (by rw [hl]) (by rw [List.take_of_length_le (by rw [hl]; exact Nat.le_refl _)]))
      simpa using this, fun x hx => by rw [List.mem_singleton] at hx; subst hx; exact HG15.out⟩
    have HOF := Lib.hid (of_any w15 zeroD 0 zeroD zero_ok zero_ok (some ⟨q15, 0, none⟩) 1 1 [(lt, t)] hX15 (by omega))
    clear hq15 hb15 hX15 HO14 HM14 HK14 HT14 HG14 HA14
    go_wp2_with ((with_reducible refine wpList_build rfl 25 _ rfl #[(3, .slice (some ⟨q15, 0, none⟩) 1 1)] ?_ _ (build_rb1 _ 1 1 _) ?_); focus (simp [Act.eval, Act.put]; done))
    refine HOF.out.mono ?_
    rintro e w16 ⟨⟨v, rfl, hown⟩, hbn⟩
    obtain ⟨A16, c16, rfl⟩ := own_form hown
    have HO16 := Lib.hid (HO15.out.later hbn); have HM16 := Lib.hid (HM15.out.later hbn)
    have HBQ16 := Lib.hid (below_then HBQ15.out hbn)
    have HBL16 : Hid (w12.heap.size ≤ w16.heap.size) := Nat.le_trans HBL15.out hbn.size
    have HBB16 := Lib.hid (below_then HBB15.out hbn)
    have HK16 := Lib.hid (HK15.out.later hbn)
    have HT16 := Lib.hid (HT15.out.later hbn)
    have HG16 := Lib.hid (HG15.out.later hbn)
    have HA16 := Lib.hid (HA15.out.later hbn)
    clear hbn
    have hX16 : Txs w16 A16 1 [(lt, t)] := ⟨Sl.of_own hown, fun x hx => by rw [List.mem_singleton] at hx; subst hx; exact HG16.out⟩
    obtain ⟨b16, o16, rfl, hr16, _⟩ := hX16.at_ (Below.refl _ _) (k := 0) rfl
    have hr16 : w16.rangeAt b16 o16 lt := by simpa using hr16
    have HR16 := Lib.hid hr16
    clear hown hX16 hr16 HOF HO15 HM15 HK15 HT15 HG15 HA15
    have hfd : ∀ W, (Instr.field 31 (.agg (bkC zeroD 0 zeroD (.slice (some ⟨b16, o16, none⟩) 1 c16)).toArray) 3).run Tryd.prog W = .ok (.slice (some ⟨b16, o16, none⟩) 1 c16) W := fun W => by kernel_rfl
    go_wp2_with (first
      | (with_reducible refine wpList_load_mid rfl 47 _ rfl b16 o16 rfl lt _ HR16.out Tryd.underlying47 rfl HG16.out.size ?_)
      | (with_reducible refine stop_store 47 _ _ rfl ?_))
    refine StopD.go ?_
    obtain ⟨g17, hg17⟩ : ∃ g, w16.heap.size = g := ⟨_, rfl⟩
    have hbn : Below w16.heap.size w16 (w16.alloc (.cells #[.int .u8 0, .int .u8 0, .int .u8 0, .int .u8 0, .int .u8 0, .int .u8 0, .int .u8 0, .int .u8 0, .int .i64 0, .int .i64 0, .int .i64 0, .slice none 0 0, .slice none 0 0] 47)) := below_new w16 _
    have kt : Bk (w16.alloc (.cells #[.int .u8 0, .int .u8 0, .int .u8 0, .int .u8 0, .int .u8 0, .int .u8 0, .int .u8 0, .int .u8 0, .int .i64 0, .int .i64 0, .int .i64 0, .slice none 0 0, .slice none 0 0] 47)) g17 47 ([] ++ (zTx ++ [])) := by rw [← hg17]; exact Bk.new' w16 _ #[.int .u8 0, .int .u8 0, .int .u8 0, .int .u8 0, .int .u8 0, .int .u8 0, .int .u8 0, .int .u8 0, .int .i64 0, .int .i64 0, .int .i64 0, .slice none 0 0, .slice none 0 0] rfl
    rw [hg17]
    refine wpList_store_part rfl 47 _ _ rfl g17 0 (.agg (lt).toArray) (lt) rfl rfl rfl 47 [] zTx [] kt rfl (by rw [HG16.out.len]; rfl) HG16.out.size HG16.out.one ?_
    intro w17 hp
    have hbn : Below w16.heap.size w16 w17 := hbn.grown hp.only hbn.size (fun q hq => by injection hq with hq; omega)
    have HN17 : Hid (Bk w17 g17 47 (lt)) := by show Bk _ _ _ _; have := hp.bk; simpa using this
    clear hp kt
    have HOL : Hid (∀ q, (Value.slice A13 N c13).ownBlock = some q → q < g17) := fun q e => by have := (HO16.out.own.lt _ e).2; omega
    have HO17 := Lib.hid (HO16.out.later hbn); have HM17 := Lib.hid (HM16.out.later hbn)
    have HBQ17 := Lib.hid (below_then HBQ16.out hbn)
    have HBL17 : Hid (w12.heap.size ≤ w17.heap.size) := Nat.le_trans HBL16.out hbn.size
    have HBB17 := Lib.hid (below_then HBB16.out hbn)
    have HK17 := Lib.hid (HK16.out.later hbn)
    have HT17 := Lib.hid (HT16.out.later hbn)
    have HG17 := Lib.hid (HG16.out.later hbn)
    have HA17 := Lib.hid (HA16.out.later hbn)
    clear hbn
    have hc17 := (bkc_mem HPO.out HMO.out HM17.out).c17
    as_aux_lemma =>
    clear hfd HO16 HM16 HK16 HT16 HG16 HA16 HR16 hg17
    go_wp2_with (first
      | (with_reducible refine wpList_load_bk rfl 47 _ rfl g17 rfl lt 47 HN17.out _ Tryd.underlying47 rfl HG17.out.size ?_)
      | (with_reducible refine stop_bs2 29 _ _ rfl ?_))
    refine StopD.go ?_
    refine wpList_bsliceG2 rfl 29 1 _ rfl #[(0, .agg lt.toArray)] ?_ 47 lt (fun w => by rw [← HTE.out]; exact bs_tx HOK.out.f Ab As Nb Cb Ns Cs w) ?_
    · simp [Act.eval, Act.put]
    intro q18 w18 hq18 hb18 hbn
    have HO18 := Lib.hid (HO17.out.later hbn); have HM18 := Lib.hid (HM17.out.later hbn); have HN18 := Lib.hid (HN17.out.later hbn); have HC18 := Lib.hid hb18
    have HBQ18 := Lib.hid (below_then HBQ17.out hbn)
    have HBL18 : Hid (w12.heap.size ≤ w18.heap.size) := Nat.le_trans HBL17.out hbn.size
    have HBB18 := Lib.hid (below_then HBB17.out hbn)
    have HK18 := Lib.hid (HK17.out.later hbn)
    have HT18 := Lib.hid (HT17.out.later hbn)
    have HG18 := Lib.hid (HG17.out.later hbn)
    have HA18 := Lib.hid (HA17.out.later hbn)
    clear hbn
    clear hq18 hb18 HO17 HM17 HN17 HK17 HT17 HG17 HA17 hc17
    obtain ⟨i0, hi, hi0, hi1, hi2⟩ := info_parts Tryd.infoTx
    have hl13 := HG18.out.len
    have hb12 : w12.heap.size ≤ w18.heap.size := HBL18.out
    go_wp2_with (at_builtin; refine stop_here2 ?_)
    refine StopD.go ?_
    refine wpList_app _ rfl (.tmp 111) (.tmp 113) 29 rfl w12.heap.size 47 i0 (.agg zTx.toArray) 13 80 Tryd.underlying29 hi hi0 hi1 hi2 rfl (by decide) _ _ _ rfl HO18.out.own _ _ _ _ _ rfl (Sl.of_own (HC18.out.own (base := 0) (size := 13) (cap := 1) (n := 1) (Nat.zero_le _) (Nat.le_refl _) (by omega) (by rw [hl13]) (by rw [List.take_of_length_le (by rw [hl13]; exact Nat.le_refl _)]))) HG18.out.one (by unfold maxLen; have := HN.out; omega) (by have := HN.out; omega) hb12 ?_
    intro v19 w19 hown hgr hat
    obtain ⟨A19, c19, rfl⟩ := own_form hown
    have HBQ19 := Lib.hid (grown_below HBQ18.out HO18.out.own hgr (Nat.le_refl _) HBQ18.out.size)
    have HM19 := Lib.hid (HM18.out.grown hgr (Ne.symm (own_bk_ne HO18.out.own HM18.out (by decide))))
    have HN19 := Lib.hid (HN18.out.grown hgr (fun e => by have := HOL.out _ e.symm; omega))
    have hap : ∀ (cs : List Value) (t : TxT), TxgO w12.heap.size w18 cs t → TxgO w12.heap.size w19 cs t := fun cs t h => by
      obtain ⟨⟨A, B, N, C, M, D, e, h1, h2⟩, ok⟩ := h
      exact ⟨⟨A, B, N, C, M, D, e, own_apart2 h1 HO18.out.own (by decide) hgr, own_apart2 h2 HO18.out.own (by decide) hgr⟩, ok⟩
    have HY19 : Hid (∀ y ∈ ys, TxgO w12.heap.size w19 y.1 y.2) := fun y hy => hap _ _ (HO18.out.all y hy)
    have HO19 := Lib.hid hown
    have HYM := Lib.hid HO18.out.map
    clear hown hgr hat hap HM18 HN18 HO18 hi hi0 hi1 hi2 hl13 hb12
    go_wp2_with (with_reducible refine stop_store 29 _ _ rfl ?_)
    refine StopD.go ?_
    refine wpList_store_part rfl 29 _ _ rfl g14 17 (.slice A19 (N + 1) c19) [.slice A19 (N + 1) c19] rfl rfl rfl 31 (dl p ++ .int .i64 h :: dl m) [.slice A13 N c13] [] (by have := HM19.out; simpa [bkC] using this) (by simp [dl_len, HPO.out.len, HMO.out.len]) rfl (by kernel_rfl) (by intro x hx; simp at hx; subst hx; rfl) ?_
    intro w20 hp
    have HM20 : Hid (Bk w20 g14 31 (bkC p h m (.slice A19 (N + 1) c19))) := by show Bk _ _ _ _; have := hp.bk; simpa [bkC] using this
    have HO20 := Lib.hid (own_only HO19.out hp.only (own_bk_ne HO19.out HM19.out (by decide)))
    have HY20 : Hid (∀ y ∈ ys, TxgO w12.heap.size w20 y.1 y.2) := fun y hy => (HY19.out y hy).grown hp.only HM19.out (by decide)
    have HN20 := Lib.hid (HN19.out.grown hp.only (fun e => by injection e with e; exact absurd e (Bk.ne_ HN19.out HM19.out (by decide))))
    have HBQ20 := Lib.hid (below_only HBQ19.out hp.only HBQ19.out.size (by have := HGE.out; omega))
    clear hp HM19 HO19 HY19 HN19 HBQ19 HK18 HT18 HG18 HA18 HBB18
    as_aux_lemma =>
    have hbn := HBQ20.out
    have HBB20 := Lib.hid (below_then HBB12.out hbn)
    have HK20 := Lib.hid (HK12.out.later hbn)
    have HT20 := Lib.hid (HT12.out.later hbn)
    have HG20 := Lib.hid (HG12.out.later hbn)
    have HA20 := Lib.hid (HA12.out.later hbn)
    clear hbn
    have HM20 : Hid (BkAt w20 g14 p h m A19 (N + 1) c19 (L ++ [t])) := ⟨HM20.out, ys ++ [(lt, t)], ⟨by
      have := Sl.of_own HO20.out
      rw [List.map_append, List.flatten_append]
      simpa using this, fun y hy => by
        rcases List.mem_append.1 hy with hy | hy
        · exact (HY20.out y hy).g
        · rw [List.mem_singleton] at hy; subst hy; exact HG20.out⟩, by rw [List.map_append, HYM.out]; rfl⟩
    clear HO20 HY20 HYM HC18
    have hfm := HM20.out.fees HPO.out HMO.out
    have HF4 : Hid (BkFit (bkC p h m (.slice A19 (N + 1) c19))) := HFB.out _ _ _
    have HMB := Lib.hid HM20.out.bk
    obtain ⟨B4, hB4⟩ : ∃ l, bkC p h m (.slice A19 (N + 1) c19) = l := ⟨_, rfl⟩
    rw [hB4] at hfm HF4 HMB
    have HFM := Lib.hid hfm
    clear hfm hB4
    go_wp2_with (with_reducible refine wpList_load_bk rfl 31 _ rfl g14 rfl B4 31 HMB.out _ Tryd.underlying31 rfl HF4.out.size ?_)
    refine HFM.out.mono ?_
    rintro e w21 ⟨rfl, hbn⟩
    have HN21 := Lib.hid (HN20.out.later hbn)
    have HBB21 := Lib.hid (below_then HBB20.out hbn)
    have HK21 := Lib.hid (HK20.out.later hbn)
    have HT21 := Lib.hid (HT20.out.later hbn)
    have HG21 := Lib.hid (HG20.out.later hbn)
    have HA21 := Lib.hid (HA20.out.later hbn)
    clear hbn
    clear HFM HMB HM20 HN20 HK20 HT20 HG20 HA20 HF4
    obtain ⟨S, hS⟩ : ∃ S, feeV h (L ++ [t]) = S := ⟨_, rfl⟩
    obtain ⟨E2, hE2⟩ : ∃ S, blkE h (L ++ [t]) = S := ⟨_, rfl⟩
    have HMR : Hid (E2 = if N = 64 then 8 else if txE t ≠ 0 then txE t else if L.any (turnB t) then 7 else if 1125899906842624 < V + t.e then 2 else 0) := by
      show _ = _
      rw [← hE2, blk_more t HE.out, HLN.out, HV2.out]
    have HSV : Hid (E2 = 0 → S = V + t.e) := fun e0 => by
      rw [← hS, feeV_ok (by rw [hE2]; exact e0), feesS_app, show feesS [t] = t.e by rw [feesS_cons]; show t.e + 0 = _; omega, HV2.out]
    rw [hS, hE2]
    clear hS hE2
    have hc17 : w21.cell? ⟨g5, 17, none⟩ = some (.slice A2 N c2) := (bkc_mem HPO.out HMO.out HA21.out.bk).c17
    go_wp2_with fail
    clear hc17
    go_loopw [21, 23, 124] (fun tv _ kv wr => ∃ q : Nat, q ≤ N ∧ kv = .int .i64 q ∧ tv = .bool ((L.take q).any (turnB t)) ∧ Hid (Below w21.heap.size w21 wr)) (fun _ _ kv _ => N - (intOf kv).toNat)
    case atStart => exact ⟨0, Nat.zero_le _, rfl, rfl, Below.refl _ _⟩
    case round =>
      as_aux_lemma =>
      obtain ⟨q, hq, rfl, rfl, HB⟩ := hrel
      by_cases hlt : q < N
      · have hki : (q : Int) < N := by omega
        have HQ1 : Hid (wrap64 ((q : Int) + 1) = (q : Int) + 1) := IntWalk.wrap64_in _ (by have := HN64.out; omega)
        have hk0 : (0 : Int) ≤ q := by omega
        obtain ⟨xs', hx', he'⟩ := HA21.out.txs
        obtain ⟨⟨cs, u⟩, hx⟩ : ∃ x, xs'[q]? = some x := ⟨xs'[q]'(by rw [hx'.length]; omega), List.getElem?_eq_getElem _⟩
        have hg : Txg wr cs u := (hx'.later HB.out).th (cs, u) (List.mem_of_getElem? hx)
        obtain ⟨b, o, hA, hr, _⟩ := hx'.at_ HB.out hx
        have hr : wr.rangeAt b (o + q * 13) cs := hr
        have hLk : L[q]? = some u := by rw [← he', List.getElem?_map, hx]; rfl
        have HG := Lib.hid hg; have HR := Lib.hid hr; have HLK := Lib.hid hLk; have HAA := Lib.hid hA
        have HNr := Lib.hid (HTM.out _ _ _ (HN21.out.later HB.out))
        clear hr hx hg hLk hx' he' hA
        subst A2
        go_wp2_with (first
          | (with_reducible refine wpList_load_mid rfl 47 _ rfl b (o + q * 13) rfl cs _ HR.out Tryd.underlying47 rfl HG.out.size ?_)
          | (with_reducible refine stop_store 47 _ _ rfl ?_))
        refine StopD.go ?_
        obtain ⟨g22, hg22⟩ : ∃ g, wr.heap.size = g := ⟨_, rfl⟩
        have hbn : Below wr.heap.size wr (wr.alloc (.cells #[.int .u8 0, .int .u8 0, .int .u8 0, .int .u8 0, .int .u8 0, .int .u8 0, .int .u8 0, .int .u8 0, .int .i64 0, .int .i64 0, .int .i64 0, .slice none 0 0, .slice none 0 0] 47)) := below_new wr _
        have kt : Bk (wr.alloc (.cells #[.int .u8 0, .int .u8 0, .int .u8 0, .int .u8 0, .int .u8 0, .int .u8 0, .int .u8 0, .int .u8 0, .int .i64 0, .int .i64 0, .int .i64 0, .slice none 0 0, .slice none 0 0] 47)) g22 47 ([] ++ (zTx ++ [])) := by rw [← hg22]; exact Bk.new' wr _ #[.int .u8 0, .int .u8 0, .int .u8 0, .int .u8 0, .int .u8 0, .int .u8 0, .int .u8 0, .int .u8 0, .int .i64 0, .int .i64 0, .int .i64 0, .slice none 0 0, .slice none 0 0] rfl
        rw [hg22]
        refine wpList_store_part rfl 47 _ _ rfl g22 0 (.agg (cs).toArray) (cs) rfl rfl rfl 47 [] zTx [] kt rfl (by rw [HG.out.len]; rfl) HG.out.size HG.out.one ?_
        intro w22 hp
        have hbn : Below wr.heap.size wr w22 := hbn.grown hp.only hbn.size (fun q hq => by injection hq with hq; omega)
        have HT22 : Hid (Bk w22 g22 47 (cs)) := by show Bk _ _ _ _; have := hp.bk; simpa using this
        clear hp kt hg22
        have HB22 := Lib.hid (below_then HB.out hbn)
        have HN22 := Lib.hid (HTM.out _ _ _ (HN21.out.later HB22.out))
        obtain ⟨h0, h8⟩ := HG.out.at0 HT22.out
        have H0 := Lib.hid h0; have HUO := Lib.hid HG.out.ok
        have h8' := HN22.out.c8
        simp only [Nat.zero_add] at h8'
        have heq := dg_eqb u.f t.f HUO.out.f HOK.out.f
        have HNX : Hid ((L.take (q + 1)).any (turnB t) = ((L.take q).any (turnB t) || (eqL u.f t.f && decide (u.n = t.n)))) := by
          show _ = _
          rw [take_snoc HLK.out, List.any_append]
          congr 1
          rw [Bool.eq_iff_iff]
          simp only [List.any_cons, List.any_nil, Bool.or_false, turnB, eqL, Bool.and_eq_true, beq_iff_eq, decide_eq_true_eq]
          exact ⟨fun h => ⟨h.1.symm, h.2.symm⟩, fun h => ⟨h.1.symm, h.2.symm⟩⟩
        obtain ⟨tw, htw⟩ : ∃ b, (L.take q).any (turnB t) = b := ⟨_, rfl⟩
        obtain ⟨e1, he1⟩ : ∃ b, eqL u.f t.f = b := ⟨_, rfl⟩
        rw [htw, he1] at HNX
        rw [htw]
        rw [he1] at heq
        clear htw he1 hbn h0
        cases tw
        · cases e1
          · as_aux_lemma =>
            have HNX : Hid ((L.take (q + 1)).any (turnB t) = false) := HNX.out
            go_wp2_with (first
              | ((with_reducible refine wpList_load_midG2 ?_ 28 _ rfl g22 0 rfl (dl u.f) _ H0.out Tryd.underlying28 rfl (hdg_size _ HUO.out.f) ?_); rfl)
              | ((with_reducible refine wpList_load_midG2 ?_ 28 _ rfl g17 0 rfl (dl t.f) _ HN22.out.r0 Tryd.underlying28 rfl (hdg_size _ HOK.out.f) ?_); rfl))
            go_roundw
            case rel => exact ⟨q + 1, hlt, by rw [HQ1.out]; rfl, by rw [HNX.out], HB22⟩
            case measure => exact ms_step hlt HQ1.out
          · by_cases hn : u.n = t.n
            · as_aux_lemma =>
              have HNX : Hid ((L.take (q + 1)).any (turnB t) = true) := by have := HNX.out; rw [decide_eq_true hn] at this; exact this
              have hn1 : (u.n == t.n) = true := by simp [hn]
              have hn2 : decide (u.n = t.n) = true := by simp [hn]
              go_wp2_with (first
                | ((with_reducible refine wpList_load_midG2 ?_ 28 _ rfl g22 0 rfl (dl u.f) _ H0.out Tryd.underlying28 rfl (hdg_size _ HUO.out.f) ?_); rfl)
                | ((with_reducible refine wpList_load_midG2 ?_ 28 _ rfl g17 0 rfl (dl t.f) _ HN22.out.r0 Tryd.underlying28 rfl (hdg_size _ HOK.out.f) ?_); rfl))
              go_roundw
              case rel => exact ⟨q + 1, hlt, by rw [HQ1.out]; rfl, by rw [HNX.out], HB22⟩
              case measure => exact ms_step hlt HQ1.out
            · as_aux_lemma =>
              have HNX : Hid ((L.take (q + 1)).any (turnB t) = false) := by have := HNX.out; rw [decide_eq_false hn] at this; exact this
              have hn1 : (u.n == t.n) = false := by simp [hn]
              have hn2 : decide (u.n = t.n) = false := by simp [hn]
              go_wp2_with (first
                | ((with_reducible refine wpList_load_midG2 ?_ 28 _ rfl g22 0 rfl (dl u.f) _ H0.out Tryd.underlying28 rfl (hdg_size _ HUO.out.f) ?_); rfl)
                | ((with_reducible refine wpList_load_midG2 ?_ 28 _ rfl g17 0 rfl (dl t.f) _ HN22.out.r0 Tryd.underlying28 rfl (hdg_size _ HOK.out.f) ?_); rfl))
              go_roundw
              case rel => exact ⟨q + 1, hlt, by rw [HQ1.out]; rfl, by rw [HNX.out], HB22⟩
              case measure => exact ms_step hlt HQ1.out
        · as_aux_lemma =>
          have HNX : Hid ((L.take (q + 1)).any (turnB t) = true) := HNX.out
          go_wp2_with fail
          go_roundw
          case rel => exact ⟨q + 1, hlt, by rw [HQ1.out]; rfl, by rw [HNX.out], HB22⟩
          case measure => exact ms_step hlt HQ1.out
      · have hki : ¬ ((q : Int) < N) := by omega
        obtain rfl : q = N := by omega
        as_aux_lemma =>
        have htk : L.take q = L := List.take_of_length_le (by rw [HLN.out]; exact Nat.le_refl _)
        rw [htk]
        obtain ⟨TW, hTW⟩ : ∃ b, L.any (turnB t) = b := ⟨_, rfl⟩
        have HMR := HMR
        rw [hTW] at HMR ⊢
        have hc17 : wr.cell? ⟨g5, 17, none⟩ = some (.slice A2 q c2) := (bkc_mem HPO.out HMO.out (HA21.out.later HB.out).bk).c17
        have HNr := Lib.hid (HN21.out.later HB.out); have HGr := Lib.hid (HG21.out.later HB.out); have HBr := Lib.hid (below_then HBB21.out HB.out)
        clear hTW htk HN21 HG21 HA21 HK21 HT21 HB hlt hki
        by_cases h64 : (q : Int) = 64
        · as_aux_lemma =>
          have hE : E2 = 8 := by have := HMR.out; rwa [if_pos (by omega)] at this
          subst hE
          have h65 : ((q : Int) == 64) = true := by simp [h64]
          have h66 : decide ((q : Int) = 64) = true := by simp [h64]
          go_wp2_with fail
          go_ret
          exact ⟨by simp, HBr.out⟩
        · have h65 : ((q : Int) == 64) = false := by simp [h64]
          have h66 : decide ((q : Int) = 64) = false := by simp [h64]
          have HMR : Hid (E2 = if txE t ≠ 0 then txE t else if TW then 7 else if 1125899906842624 < V + t.e then 2 else 0) := by
            have := HMR.out
            rwa [if_neg (by omega)] at this
          have HFIT := Lib.hid (fun (e : txE t = 0) => fit_fee (txE_fit e))
          clear h64
          go_wp2_with (with_reducible refine wpList_load_bk rfl 47 _ rfl g17 rfl lt 47 HNr.out _ Tryd.underlying47 rfl HGr.out.size ?_)
          refine (txg_check HGr.out).mono ?_
          rintro e w22 ⟨rfl, hbn⟩
          have HN22 := Lib.hid (HNr.out.later hbn); have HG22 := Lib.hid (HGr.out.later hbn); have HB22 := Lib.hid (below_then HBr.out hbn)
          clear hbn HNr HGr HBr hc17
          obtain ⟨T, hT⟩ : ∃ T, txE t = T := ⟨_, rfl⟩
          have HTT := Lib.hid hT
          rw [hT] at HMR HFIT ⊢
          clear hT
          by_cases hT0 : T = 0
          · as_aux_lemma =>
            have hd1 : (T != 0) = false := by simp [hT0]
            have hfit := HFIT.out hT0
            have HMR : Hid (E2 = if TW then 7 else if 1125899906842624 < V + t.e then 2 else 0) := by
              have := HMR.out
              rwa [if_neg (by simp [hT0])] at this
            clear hT0 HFIT
            have hwr : wrap64 (V + t.e) = V + t.e := by
              have := HFS.out; have := HV2.out; have := HF2.out
              exact IntWalk.wrap64_in _ (by omega)
            have h9 := (HTM.out _ _ _ HN22.out).c9
            simp only [Nat.zero_add] at h9
            cases TW
            · have HMR : Hid (E2 = if 1125899906842624 < V + t.e then 2 else 0) := by
                show _ = _
                have := HMR.out
                simpa using this
              by_cases hbig : 1125899906842624 < V + t.e
              · have hE : E2 = 2 := by have := HMR.out; rwa [if_pos hbig] at this
                subst hE
                go_wp2_with fail
                go_ret
                exact ⟨by simp, HB22.out⟩
              · have hE : E2 = 0 := by have := HMR.out; rwa [if_neg hbig] at this
                have hS : S = V + t.e := HSV.out hE
                subst hE
                have hSS : (S == V + t.e) = true := by simp [hS]
                have hS2 : decide (S = V + t.e) = true := by simp [hS]
                have hbig' : decide (1125899906842624 < V + t.e) = false := by simp; omega
                go_wp2_with fail
                have hrn : Calls Tryd.prog 18 #[.agg (dl zeroD).toArray] w22 fun e w' => e = .returned (.int .u64 0) ∧ Below w22.heap.size w22 w' := rnum_any zeroD zero_ok w22
                refine hrn.mono ?_
                rintro e w23 ⟨rfl, hbn⟩
                go_wp2_with fail
                go_ret
                exact ⟨rfl, below_then HB22.out hbn⟩
            · have hE : E2 = 7 := by have := HMR.out; simpa using this
              subst hE
              go_wp2_with fail
              go_ret
              exact ⟨by simp, HB22.out⟩
          · have hd1 : (T != 0) = true := by simp [hT0]
            have hE : E2 = T := by have := HMR.out; rwa [if_pos hT0] at this
            subst hE
            clear hT0 HFIT HMR HSV
            go_wp2_with (with_reducible refine wpList_load_bk rfl 47 _ rfl g17 rfl lt 47 HN22.out _ Tryd.underlying47 rfl HG22.out.size ?_)
            refine (txg_check HG22.out).mono ?_
            rintro e w23 ⟨rfl, hbn⟩
            rw [HTT.out]
            go_wp2_with fail
            go_ret
            exact ⟨by simp, below_then HB22.out hbn⟩
  · have hd1 : (E != 0) = true := by simp [hE0]
    have hV0 : V = 0 := by rw [← hV, feeV_bad (by rw [hE]; exact hE0)]
    subst hV0
    clear hE hV hE0
    go_wp2_with ((with_reducible refine wpList_load_bkG2 ?_ 31 _ rfl g5 rfl B1 31 (HBK.out _ HA6.out) _ Tryd.underlying31 rfl HF1.out.size ?_); rfl)
    refine (HRC.out w6 HA6.out).mono ?_
    rintro e w7 ⟨rfl, hbn⟩
    go_wp2_with fail
    go_ret
    exact ⟨by simp, below_then HBB6.out hbn⟩
end Go.Proofs.YtbpmomedhdmloaaDoor
