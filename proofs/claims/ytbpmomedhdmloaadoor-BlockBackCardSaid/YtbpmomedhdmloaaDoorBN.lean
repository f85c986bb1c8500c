/- The names of a block's transactions; the root of any block. -/
import Derived.Test.YtbpmomedhdmloaaDoorBM
import Derived.Test.YtbpmomedhdmloaaDoorTE
namespace Go.Proofs.YtbpmomedhdmloaaDoor
set_option linter.unusedSimpArgs false
set_option linter.unusedVariables false
open Go.RowKit Go.Maps

theorem Tryd.infoDgB : (Tryd.prog.info? 28).map (fun i => (i.zero, i.size, i.bytes)) = some (some (.agg (dgA zeroD)), 8, 8) := by kernel_rfl
theorem bs_dgb {d : List Int} (h : DgOk d) (w : World) : (Instr.buildSlice 54 1 #[(0, .agg (dl d).toArray)]).run Tryd.prog w = .ok (.slice (some ⟨w.heap.size, 0, none⟩) 1 1) (w.alloc (.cells (dl d).toArray 28)) := by
  obtain ⟨x0, x1, x2, x3, x4, x5, x6, x7, rfl⟩ := list8 d h.len
  kernel_rfl
def namesT (L : List TxT) : List (List Int) := L.map txN
theorem namesT_ok (L : List TxT) : DsOk (namesT L) := fun d hd => by
  obtain ⟨t, _, rfl⟩ := List.mem_map.1 hd
  exact txN_ok t
theorem namesT_snoc {L : List TxT} {k : Nat} {t : TxT} (hk : L[k]? = some t) : cellsD (namesT (L.take (k + 1))) = cellsD (namesT (L.take k)) ++ dl (txN t) := by
  rw [take_snoc hk, namesT, List.map_append, cellsD, List.flatMap_append]
  simp [namesT, cellsD, dl]
set_option maxRecDepth 20000 in
set_option maxHeartbeats 4000000 in
theorem names_any (w : World) (p : List Int) (h : Int) (m : List Int) (hp : DgOk p) (hm : DgOk m) (A : Option Addr) (N C : Nat) (xs : List (List Value × TxT)) (hx : Txs w A N xs) (hN : N ≤ 1000) (hl : ∀ x ∈ xs, x.2.b.length ≤ 1073741000 ∧ x.2.s.length ≤ 1073741000) :
    Calls Tryd.prog 43 #[.agg (bkC p h m (.slice A N C)).toArray] w fun e w' => (∃ v, e = .returned v ∧ w'.ownsRow w.heap.size 28 8 v N (cellsD (namesT (xs.map (·.2))))) ∧ Below w.heap.size w w' := by
  obtain ⟨l, hl⟩ : ∃ x, bkC p h m (.slice A N C) = x := ⟨_, rfl⟩
  obtain ⟨X, hX⟩ : ∃ X, l.toArray = X := ⟨_, rfl⟩
  obtain ⟨z, hz⟩ : ∃ z, w.heap.size = z := ⟨_, rfl⟩
  obtain ⟨w1, hw1⟩ : ∃ w1, w.alloc (.cells X 31) = w1 := ⟨_, rfl⟩
  have hb1 : Below w.heap.size w w1 := hw1 ▸ below_new w _
  have kx : Bk w1 z 31 l := hw1 ▸ Bk.at_ w _ X hz (by rw [← hX])
  have hbm := bkc_mem hp hm (by rw [hl]; exact kx)
  have c8 := hbm.c8; have c17 := hbm.c17
  have HW := Lib.hid hw1; have HBB1 := Lib.hid hb1; have HZ := Lib.hid hz; have HK1 := Lib.hid kx; have HPO := Lib.hid hp; have HMO := Lib.hid hm; have HXE := Lib.hid hX; have HLE := Lib.hid hl
  have HXS := Lib.hid (hx.later hb1); have HLN := Lib.hid hx.length
  rw [hl, hX]
  clear hl hX hw1 hb1 kx hbm hz hp hm hx
  have HLB := Lib.hid hl
  obtain ⟨i0, hi, hi0, hi1, hi2⟩ := info_parts Tryd.infoDgB
  clear hl
  go_enter Tryd.func43, Tryd.ntmps43
  go_upto_region 1 with fail
  rw [HW.out, HZ.out]
  go_wp2_with (at_make; refine stop_here2 ?_)
  refine StopD.go ?_
  refine wpList_make_own _ rfl _ _ 54 rfl w1.heap.size 28 i0 (.agg (dgA zeroD)) 8 Tryd.underlying54 hi hi0 hi1 .i64 .i64 _ N rfl rfl rfl (by rw [hi2]; omega) (by unfold maxLen; omega) (Nat.le_refl _) ?_
  intro w2 hown2 hg2
  have hbn := below_grow hg2
  have HL2 := Lib.hid hown2; have HB2 := Lib.hid hbn
  have hc17 : w2.cell? ⟨z, 17, none⟩ = some (.slice A N C) := (hbn.cell (p := ⟨z, 17, none⟩) HK1.out.lt).trans c17
  clear hown2 hg2 hbn c8 c17
  go_wp2_with fail
  clear hc17
  go_loopw [3, 5, 13] (fun lv _ kv wr => ∃ k : Nat, k ≤ N ∧ kv = .int .i64 k ∧ Hid (wr.ownsRow w1.heap.size 28 8 lv k (cellsD (namesT ((xs.map (·.2)).take k)))) ∧ Hid (Below w1.heap.size w1 wr)) (fun _ _ kv _ => N - (intOf kv).toNat)
  case atStart => exact ⟨0, Nat.zero_le _, rfl, HL2.out, HB2.out⟩
  case round =>
    obtain ⟨k, hk, rfl, HJ, HB⟩ := hrel
    by_cases hlt : k < N
    · have hki : (k : Int) < N := by omega
      have hk0 : (0 : Int) ≤ k := by omega
      obtain ⟨⟨cs, t⟩, hx⟩ : ∃ x, xs[k]? = some x := ⟨xs[k]'(by rw [HLN.out]; omega), List.getElem?_eq_getElem _⟩
      have hg : Txg wr cs t := (HXS.out.later HB.out).th (cs, t) (List.mem_of_getElem? hx)
      have hlb : t.b.length ≤ 1073741000 ∧ t.s.length ≤ 1073741000 := HLB.out (cs, t) (List.mem_of_getElem? hx)
      obtain ⟨b, o, rfl, hr, _⟩ := HXS.out.at_ HB.out hx
      have hr : wr.rangeAt b (o + k * 13) cs := hr
      have hLk : (xs.map (·.2))[k]? = some t := by rw [List.getElem?_map, hx]; rfl
      have HG := Lib.hid hg; have HR := Lib.hid hr; have HFS := Lib.hid (namesT_snoc hLk); have HLL := Lib.hid hlb
      clear hg hr hx hLk hlb
      go_wp2_with (first
        | (with_reducible refine wpList_load_mid rfl 47 _ rfl b (o + k * 13) rfl cs _ HR.out Tryd.underlying47 rfl HG.out.size ?_)
        | (with_reducible refine stop_store 47 _ _ rfl ?_))
      refine StopD.go ?_
      obtain ⟨g5, hg5⟩ : ∃ g, wr.heap.size = g := ⟨_, rfl⟩
      have hbn : Below wr.heap.size wr (wr.alloc (.cells #[.int .u8 0, .int .u8 0, .int .u8 0, .int .u8 0, .int .u8 0, .int .u8 0, .int .u8 0, .int .u8 0, .int .i64 0, .int .i64 0, .int .i64 0, .slice none 0 0, .slice none 0 0] 47)) := below_new wr _
      have kt : Bk (wr.alloc (.cells #[.int .u8 0, .int .u8 0, .int .u8 0, .int .u8 0, .int .u8 0, .int .u8 0, .int .u8 0, .int .u8 0, .int .i64 0, .int .i64 0, .int .i64 0, .slice none 0 0, .slice none 0 0] 47)) g5 47 ([] ++ (zTx ++ [])) := by rw [← hg5]; exact Bk.new' wr _ #[.int .u8 0, .int .u8 0, .int .u8 0, .int .u8 0, .int .u8 0, .int .u8 0, .int .u8 0, .int .u8 0, .int .i64 0, .int .i64 0, .int .i64 0, .slice none 0 0, .slice none 0 0] rfl
      rw [hg5]
      refine wpList_store_part rfl 47 _ _ rfl g5 0 (.agg (cs).toArray) (cs) rfl rfl rfl 47 [] zTx [] kt rfl (by rw [HG.out.len]; rfl) HG.out.size HG.out.one ?_
      intro w5 hp
      have hbn : Below wr.heap.size wr w5 := hbn.grown hp.only hbn.size (fun q hq => by injection hq with hq; omega)
      have HT5 : Hid (Bk w5 g5 47 (cs)) := by show Bk _ _ _ _; have := hp.bk; simpa using this
      clear hp kt hg5
      have HB5 := Lib.hid (below_then HB.out hbn); have HJ5 := Lib.hid (own_keep HJ.out hbn); have HG5 := Lib.hid (HG.out.later hbn)
      clear hbn HJ HB
      go_wp2_with (with_reducible refine wpList_load_bk rfl 47 _ rfl g5 rfl cs 47 HT5.out _ Tryd.underlying47 rfl HG5.out.size ?_)
      refine (txName_any w5 cs t HG5.out HLL.out.1 HLL.out.2).mono ?_
      rintro e w6 ⟨rfl, hbn⟩
      have HB6 := Lib.hid (below_then HB5.out hbn); have HJ6 := Lib.hid (own_keep HJ5.out hbn)
      have HDO := Lib.hid (txN_ok t)
      obtain ⟨d, hd⟩ : ∃ d, txN t = d := ⟨_, rfl⟩
      rw [hd] at HFS HDO ⊢
      clear hbn HJ5 HB5 HT5 HG5 hd
      go_wp2_with (with_reducible refine stop_bs2 54 _ _ rfl ?_)
      refine StopD.go ?_
      refine wpList_bsliceG2 rfl 54 1 _ rfl #[(0, .agg (dl d).toArray)] ?_ 28 (dl d) (fun w => bs_dgb HDO.out w) ?_
      · simp [Act.eval, Act.put]
      intro q8 w8 hq8 hb8 hbn
      have HB8 := Lib.hid (below_then HB6.out hbn); have HJ8 := Lib.hid (own_keep HJ6.out hbn); have HC8 := Lib.hid hb8
      clear hq8 hb8 hbn HB6 HJ6
      go_wp2_with (at_builtin; refine stop_here2 ?_)
      refine StopD.go ?_
      refine wpList_app _ rfl (.tmp 17) (.tmp 20) 54 rfl w1.heap.size 28 i0 (.agg (dgA zeroD)) 8 8 Tryd.underlying54 hi hi0 hi1 hi2 rfl (by decide) _ _ _ rfl HJ8.out _ _ _ _ _ rfl (Sl.of_own (HC8.out.own (base := 0) (size := 8) (cap := 1) (n := 1) (Nat.zero_le _) (Nat.le_refl _) (by omega) (by rw [dl_len, HDO.out.len]) (by rw [List.take_of_length_le (by rw [dl_len, HDO.out.len]; exact Nat.le_refl _)]))) (dl_one' _) (by unfold maxLen; omega) (by omega) HB8.out.size ?_
      intro v9 w9 hown hgr hat
      have HB9 := Lib.hid (grown_below HB8.out HJ8.out hgr (Nat.le_refl _) HB8.out.size)
      have HJ9 : Hid (w9.ownsRow w1.heap.size 28 8 v9 (k + 1) (cellsD (namesT ((xs.map (·.2)).take (k + 1))))) := by
        show World.ownsRow _ _ _ _ _ _ _
        rw [HFS.out]; exact hown
      clear hown hgr hat HJ8 HB8
      go_wp2_with fail
      go_roundw
      case rel => exact ⟨k + 1, hlt, by go_num, HJ9, HB9⟩
      case measure => simp [intOf]; omega
    · have hki : ¬ ((k : Int) < N) := by omega
      obtain rfl : k = N := by omega
      go_wp2_with fail
      go_ret
      refine ⟨⟨_, rfl, ?_⟩, below_then HBB1.out HB.out⟩
      have hh := HJ.out
      rw [List.take_of_length_le (by rw [List.length_map, HLN.out]; exact Nat.le_refl _)] at hh
      exact own_base hh HBB1.out.size
end Go.Proofs.YtbpmomedhdmloaaDoor
