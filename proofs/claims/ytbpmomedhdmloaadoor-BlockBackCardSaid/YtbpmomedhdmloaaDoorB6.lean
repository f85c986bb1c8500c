/- A block's fees: the program's list of them. -/
import Derived.Test.YtbpmomedhdmloaaDoorB5
import Derived.Test.YtbpmomedhdmloaaDoorA1
import Derived.Test.YtbpmomedhdmloaaDoorB2
namespace Go.Proofs.YtbpmomedhdmloaaDoor
set_option linter.unusedSimpArgs false
set_option linter.unusedVariables false
open Go.RowKit Go.Maps

def zTx : List Value := [.int .u8 0, .int .u8 0, .int .u8 0, .int .u8 0, .int .u8 0, .int .u8 0, .int .u8 0, .int .u8 0, .int .i64 0, .int .i64 0, .int .i64 0, .slice none 0 0, .slice none 0 0]
theorem Tryd.infoIntB : (Tryd.prog.info? 3).map (fun i => (i.zero, i.size, i.bytes)) = some (some (.int .i64 0), 1, 8) := by kernel_rfl
theorem bs_i1b (y : Int) (w : World) : (Instr.buildSlice 78 1 #[(0, .int .i64 y)]).run Tryd.prog w = .ok (.slice (some ⟨w.heap.size, 0, none⟩) 1 1) (w.alloc (.cells ([Value.int .i64 y]).toArray 3)) := by kernel_rfl
theorem Txg.at9 {w wk : World} {cs : List Value} {t : TxT} {g : Nat} {ty : TypeId} (h : Txg w cs t) (hk : Bk wk g ty cs) : wk.cell? ⟨g, 9, none⟩ = some (.int .i64 t.e) := by
  obtain ⟨⟨A, B, N, C, M, D, e, _⟩, h4⟩ := h
  have := (tx_mem h4.f (by rw [← e]; exact hk)).c9
  simpa using this
set_option maxRecDepth 20000 in
set_option maxHeartbeats 4000000 in
theorem fees_any (w : World) (p : List Int) (h : Int) (m : List Int) (hp : DgOk p) (hm : DgOk m) (A : Option Addr) (N C : Nat) (xs : List (List Value × TxT)) (hx : Txs w A N xs) (hN : N ≤ 1000) :
    Calls Tryd.prog 36 #[.agg (bkC p h m (.slice A N C)).toArray] w fun e w' => (∃ v, e = .returned v ∧ w'.ownsRow w.heap.size 3 1 v N ((xs.map (·.2.e)).map (.int .i64))) ∧ Below w.heap.size w w' := by
  obtain ⟨l, hl⟩ : ∃ x, bkC p h m (.slice A N C) = x := ⟨_, rfl⟩
  obtain ⟨X, hX⟩ : ∃ X, l.toArray = X := ⟨_, rfl⟩
  obtain ⟨z, hz⟩ : ∃ z, w.heap.size = z := ⟨_, rfl⟩
  obtain ⟨w1, hw1⟩ : ∃ w1, w.alloc (.cells X 31) = w1 := ⟨_, rfl⟩
  have hb1 : Below w.heap.size w w1 := hw1 ▸ below_new w _
  have kx : Bk w1 z 31 l := hw1 ▸ Bk.at_ w _ X hz (by rw [← hX])
  have hbm := bkc_mem hp hm (by rw [hl]; exact kx)
  have c8 := hbm.c8; have c17 := hbm.c17
  have HW := Lib.hid hw1; have HBB1 := Lib.hid hb1; have HZ := Lib.hid hz; have HK1 := Lib.hid kx; have HPO := Lib.hid hp; have HMO := Lib.hid hm; have HXE := Lib.hid hX; have HLE := Lib.hid hl
  have HXS := Lib.hid (hx.later hb1); have HLN := Lib.hid hx.length
  rw [hl, hX]
  clear hl hX hw1 hb1 kx hbm hz hp hm hx
  obtain ⟨i0, hi, hi0, hi1, hi2⟩ := info_parts Tryd.infoIntB
  go_enter Tryd.func36, Tryd.ntmps36
  go_upto_region 1 with fail
  rw [HW.out, HZ.out]
  go_wp2_with (at_make; refine stop_here2 ?_)
  refine StopD.go ?_
  refine wpList_make_own _ rfl _ _ 78 rfl w1.heap.size 3 i0 (.int .i64 0) 1 Tryd.underlying78 hi hi0 hi1 .i64 .i64 _ N rfl rfl rfl (by rw [hi2]; omega) (by unfold maxLen; omega) (Nat.le_refl _) ?_
  intro w2 hown2 hg2
  have hbn := below_grow hg2
  have HL2 := Lib.hid hown2; have HB2 := Lib.hid hbn; have HBB2 := Lib.hid (below_then HBB1.out hbn)
  have hc17 : w2.cell? ⟨z, 17, none⟩ = some (.slice A N C) := (hbn.cell (p := ⟨z, 17, none⟩) HK1.out.lt).trans c17
  clear hown2 hg2 hbn c8 c17
  go_wp2_with fail
  go_loopw [3, 5, 13] (fun lv _ kv wr => ∃ k : Nat, k ≤ N ∧ kv = .int .i64 k ∧ Hid (wr.ownsRow w1.heap.size 3 1 lv k (((xs.map (·.2.e)).take k).map (.int .i64))) ∧ Hid (Below w1.heap.size w1 wr)) (fun _ _ kv _ => N - (intOf kv).toNat)
  case atStart => exact ⟨0, Nat.zero_le _, rfl, HL2.out, HB2.out⟩
  case round =>
    obtain ⟨k, hk, rfl, HJ, HB⟩ := hrel
    by_cases hlt : k < N
    · have hki : (k : Int) < N := by omega
      have hk0 : (0 : Int) ≤ k := by omega
      obtain ⟨x, hx⟩ : ∃ x, xs[k]? = some x := ⟨xs[k]'(by rw [HLN.out]; omega), List.getElem?_eq_getElem _⟩
      have hg := (HXS.out.later HB.out).th x (List.mem_of_getElem? hx)
      obtain ⟨b, o, rfl, hr, _⟩ := HXS.out.at_ HB.out hx
      have HG := Lib.hid hg; have HR := Lib.hid hr; have HXK := Lib.hid hx
      clear hg hr hx
      go_wp2_with (first
        | (with_reducible refine wpList_load_mid rfl 47 _ rfl b (o + k * 13) rfl x.1 _ HR.out Tryd.underlying47 rfl HG.out.size ?_)
        | (with_reducible refine stop_store 47 _ _ rfl ?_))
      refine StopD.go ?_
      obtain ⟨g5, hg5⟩ : ∃ g, wr.heap.size = g := ⟨_, rfl⟩
      have hbn : Below wr.heap.size wr (wr.alloc (.cells #[.int .u8 0, .int .u8 0, .int .u8 0, .int .u8 0, .int .u8 0, .int .u8 0, .int .u8 0, .int .u8 0, .int .i64 0, .int .i64 0, .int .i64 0, .slice none 0 0, .slice none 0 0] 47)) := below_new wr _
      have kt : Bk (wr.alloc (.cells #[.int .u8 0, .int .u8 0, .int .u8 0, .int .u8 0, .int .u8 0, .int .u8 0, .int .u8 0, .int .u8 0, .int .i64 0, .int .i64 0, .int .i64 0, .slice none 0 0, .slice none 0 0] 47)) g5 47 ([] ++ (zTx ++ [])) := by rw [← hg5]; exact Bk.new' wr _ #[.int .u8 0, .int .u8 0, .int .u8 0, .int .u8 0, .int .u8 0, .int .u8 0, .int .u8 0, .int .u8 0, .int .i64 0, .int .i64 0, .int .i64 0, .slice none 0 0, .slice none 0 0] rfl
      rw [hg5]
      refine wpList_store_part rfl 47 _ _ rfl g5 0 (.agg (x.1).toArray) (x.1) rfl rfl rfl 47 [] zTx [] kt rfl (by rw [HG.out.len]; rfl) HG.out.size HG.out.one ?_
      intro w5 hp
      have hbn : Below wr.heap.size wr w5 := hbn.grown hp.only hbn.size (fun q hq => by injection hq with hq; omega)
      have HT5 : Hid (Bk w5 g5 47 (x.1)) := by show Bk _ _ _ _; have := hp.bk; simpa using this
      clear hp kt hg5
      have HB5 := Lib.hid (below_then HB.out hbn); have HJ5 := Lib.hid (own_keep HJ.out hbn)
      have h9 := HG.out.at9 HT5.out
      clear hbn
      go_wp2_with (with_reducible refine stop_bs2 78 _ _ rfl ?_)
      refine StopD.go ?_
      refine wpList_bsliceG2 rfl 78 1 _ rfl #[(0, .int .i64 x.2.e)] ?_ 3 [.int .i64 x.2.e] (fun w => bs_i1b x.2.e w) ?_
      · simp [Act.eval, Act.put]
      intro q8 w8 hq8 hb8 hbn
      have HB8 := Lib.hid (below_then HB5.out hbn); have HJ8 := Lib.hid (own_keep HJ5.out hbn); have HC8 := Lib.hid hb8
      clear hq8 hb8 hbn
      go_wp2_with (at_builtin; refine stop_here2 ?_)
      refine StopD.go ?_
      refine wpList_app _ rfl (.tmp 17) (.tmp 20) 78 rfl w1.heap.size 3 i0 (.int .i64 0) 1 8 Tryd.underlying78 hi hi0 hi1 hi2 rfl (by decide) _ _ _ rfl HJ8.out _ _ _ _ _ rfl (Sl.of_own (HC8.out.own (base := 0) (size := 1) (cap := 1) (n := 1) (Nat.zero_le _) (Nat.le_refl _) (by omega) rfl rfl)) (by intro u hu; simp at hu; subst hu; rfl) (by unfold maxLen; omega) (by omega) HB8.out.size ?_
      intro v9 w9 hown hg hat
      have HB9 := Lib.hid (grown_below HB8.out HJ8.out hg (Nat.le_refl _) HB8.out.size)
      have HJ9 : Hid (w9.ownsRow w1.heap.size 3 1 v9 (k + 1) (((xs.map (·.2.e)).take (k + 1)).map (.int .i64))) := by
        show World.ownsRow _ _ _ _ _ _ _
        rw [take_snoc (z := x.2.e) (by rw [List.getElem?_map, HXK.out]; rfl), List.map_append]
        exact hown
      clear hown hg hat
      go_wp2_with fail
      go_roundw
      case rel => exact ⟨k + 1, hlt, by go_num, HJ9, HB9⟩
      case measure => simp [intOf]; omega
    · have hki : ¬ ((k : Int) < N) := by omega
      obtain rfl : k = N := by omega
      go_wp2_with fail
      go_ret
      refine ⟨⟨_, rfl, ?_⟩, below_then HBB1.out HB.out⟩
      have hh := HJ.out
      rw [List.take_of_length_le (by rw [List.length_map, HLN.out]; exact Nat.le_refl _)] at hh
      try rw [List.map_map] at hh
      exact own_base hh HBB1.out.size
end Go.Proofs.YtbpmomedhdmloaaDoor
