/- A transaction and a block as bytes: the program's. -/
import Derived.Test.YtbpmomedhdmloaaDoorE1
namespace Go.Proofs.YtbpmomedhdmloaaDoor
set_option linter.unusedSimpArgs false
set_option linter.unusedVariables false
open Go.RowKit Go.Maps

set_option maxRecDepth 20000 in
theorem txEncode_any (w : World) (cs : List Value) (t : TxT) (ht : Txg w cs t) (he : txE t = 0) (hl : t.b.length ≤ 32768 ∧ t.s.length ≤ 1024) :
    Calls Tryd.prog 47 #[.agg cs.toArray] w fun e w' => ∃ v, e = .returned (.tuple #[v, .int .i64 0]) ∧ OwnB w.heap.size (txB t) w v w' := by
  have HTB := Lib.hid (fun w' (h : Txg w' cs t) => txBytes_any w' cs t h (by omega) (by omega))
  have HTC := Lib.hid (fun w' (h : Txg w' cs t) => by have := txg_check h; rw [he] at this; exact this)
  have HSZ := Lib.hid ht.size
  obtain ⟨X, hX⟩ : ∃ X, cs.toArray = X := ⟨_, rfl⟩
  obtain ⟨z, hz⟩ : ∃ z, w.heap.size = z := ⟨_, rfl⟩
  obtain ⟨w1, hw1⟩ : ∃ w1, w.alloc (.cells X 47) = w1 := ⟨_, rfl⟩
  have hb1 : Below w.heap.size w w1 := hw1 ▸ below_new w _
  have kx : Bk w1 z 47 cs := hw1 ▸ Bk.at_ w _ X hz (by rw [← hX])
  have HG1 := Lib.hid (ht.later hb1); have HW := Lib.hid hw1; have HBB1 := Lib.hid hb1; have HZ := Lib.hid hz; have HK1 := Lib.hid kx; have HXE := Lib.hid hX
  rw [hX] at HTB HTC ⊢
  clear hX hz hw1 hb1 kx ht he hl
  go_enter Tryd.func47, Tryd.ntmps47
  go_upto_region 1 with fail
  rw [HW.out, HZ.out]
  go_wp2_with (with_reducible refine wpList_load_bk rfl 47 _ rfl z rfl cs 47 HK1.out _ Tryd.underlying47 rfl HSZ.out ?_)
  rw [HXE.out]
  refine (HTC.out w1 HG1.out).mono ?_
  rintro e w2 ⟨rfl, hbn⟩
  have HBB2 := Lib.hid (below_then HBB1.out hbn)
  have HG2 := Lib.hid (HG1.out.later hbn)
  have HK2 := Lib.hid (HK1.out.later hbn)
  clear hbn
  clear HG1 HK1
  go_wp2_with (with_reducible refine wpList_load_bk rfl 47 _ rfl z rfl cs 47 HK2.out _ Tryd.underlying47 rfl HSZ.out ?_)
  rw [HXE.out]
  refine (HTB.out w2 HG2.out).mono ?_
  rintro e w3 ⟨v, rfl, hown⟩
  have HO3 := Lib.hid hown
  clear hown
  go_wp2_with fail
  go_ret2
  exact ⟨_, rfl, own_base HO3.out.1 HBB2.out.size, below_then HBB2.out HO3.out.2⟩
def RetEncB (B : List Int) (E : Int) (w : World) (e : Ending) (w' : World) : Prop := ∃ v, e = .returned (.tuple #[v, .int .i64 E]) ∧ OwnB w.heap.size B w v w'
set_option maxRecDepth 20000 in
set_option maxHeartbeats 8000000 in
theorem bEncode_any (w : World) (p : List Int) (h : Int) (m : List Int) (hp : DgOk p) (hm : DgOk m) (A : Option Addr) (N C : Nat) (xs : List (List Value × TxT)) (hx : Txs w A N xs) :
    Calls Tryd.prog 28 #[.agg (bkC p h m (.slice A N C)).toArray] w (RetEncB (encR p h m (xs.map (·.2))) (blkE h (xs.map (·.2))) w) := by
  have HRE := Lib.hid (fun (w' : World) (hx' : Txs w' A N xs) => right_b w' p h m hp hm A N C xs hx')
  have HHD := Lib.hid (fun (w' : World) (h0 : 0 ≤ h) (h1 : h ≤ 1099511627776) (hN : N ≤ 1000) => head_any w' p h m hp hm A N C h0 h1 hN)
  have HBS := Lib.hid (blk_sz (h := h) (s := .slice A N C) hp hm)
  obtain ⟨l, hl⟩ : ∃ x, bkC p h m (.slice A N C) = x := ⟨_, rfl⟩
  obtain ⟨X, hX⟩ : ∃ X, l.toArray = X := ⟨_, rfl⟩
  obtain ⟨z, hz⟩ : ∃ z, w.heap.size = z := ⟨_, rfl⟩
  obtain ⟨w1, hw1⟩ : ∃ w1, w.alloc (.cells X 31) = w1 := ⟨_, rfl⟩
  have hb1 : Below w.heap.size w w1 := hw1 ▸ below_new w _
  have kx : Bk w1 z 31 l := hw1 ▸ Bk.at_ w _ X hz (by rw [← hX])
  have hbm := bkc_mem hp hm (by rw [hl]; exact kx)
  have c8 := hbm.c8; have c17 := hbm.c17
  have HW := Lib.hid hw1; have HBB1 := Lib.hid hb1; have HZ := Lib.hid hz; have HK1 := Lib.hid kx; have HPO := Lib.hid hp; have HMO := Lib.hid hm; have HXE := Lib.hid hX; have HLE := Lib.hid hl
  have HXS := Lib.hid (hx.later hb1); have HLN := Lib.hid hx.length
  rw [hl, hX]
  clear hl hX hw1 hb1 kx hbm hz hp hm hx
  rw [HLE.out] at HBS HRE HHD
  rw [HXE.out] at HRE HHD
  have hLl : (xs.map (·.2)).length = N := by rw [List.length_map]; exact HLN.out
  obtain ⟨L, hL⟩ : ∃ L, xs.map (·.2) = L := ⟨_, rfl⟩
  have HL := Lib.hid hL
  rw [hL] at HRE hLl ⊢
  have HLL := Lib.hid hLl
  obtain ⟨E, hE⟩ : ∃ E, blkE h L = E := ⟨_, rfl⟩
  have HE := Lib.hid hE
  have HR : Hid (encR p h m L = if E = 0 then headB p h m N ++ encL L else []) := by show _ = _; rw [encR, hE, encB, hLl]
  obtain ⟨T, hT⟩ : ∃ T, encR p h m L = T := ⟨_, rfl⟩
  rw [hT] at HR ⊢
  rw [hE] at HRE ⊢
  clear hL hE hT hLl c8 c17
  go_enter Tryd.func28, Tryd.ntmps28
  go_upto_region 1 with fail
  rw [HW.out, HZ.out]
  go_wp2_with (with_reducible refine wpList_load_bk rfl 31 _ rfl z rfl l 31 HK1.out _ Tryd.underlying31 rfl HBS.out ?_)
  rw [HXE.out]
  refine (HRE.out w1 HXS.out).mono ?_
  rintro e w2 ⟨rfl, hbn⟩
  have HX1 := HXS
  have HBB2 := Lib.hid (below_then HBB1.out hbn)
  have HK2 := Lib.hid (HK1.out.later hbn)
  have HX2 := Lib.hid (HX1.out.later hbn)
  clear hbn
  clear HXS HK1 HX1
  by_cases hE0 : E = 0
  · subst hE0
    have hz := blkE_zero HE.out
    have HN : Hid (N ≤ 64) := by show _ ≤ 64; rw [← HLL.out]; exact hz.2.1
    have hh0 : 0 ≤ h := by have := hz.1; omega
    have hh1 : h ≤ 1099511627776 := by have := hz.1; omega
    have HTX := Lib.hid (fun t (ht : t ∈ L) => blk_tx HE.out ht)
    have HR2 : Hid (T = headB p h m N ++ encL L) := HR.out.trans (if_pos rfl)
    have HHB := Lib.hid (headB_len p h m N)
    have HHC := Lib.hid (HHD.out w2 hh0 hh1 (by have := HN.out; omega))
    obtain ⟨H, hH⟩ : ∃ H, headB p h m N = H := ⟨_, rfl⟩
    rw [hH] at HR2 HHB HHC
    clear hz hh0 hh1 hH HHD HR
    go_wp2_with (with_reducible refine wpList_load_bk rfl 31 _ rfl z rfl l 31 HK2.out _ Tryd.underlying31 rfl HBS.out ?_)
    rw [HXE.out]
    refine HHC.out.mono ?_
    rintro e w3 ⟨v3, rfl, hown⟩
    have hbn := hown.2
    have hbn' := hown.2
    have HO3 := Lib.hid hown.1
    have HBB3 := Lib.hid (below_then HBB2.out hbn)
    have HK3 := Lib.hid (HK2.out.later hbn)
    clear hbn
    have c17 := (bkc_mem HPO.out HMO.out (by rw [HLE.out]; exact HK3.out)).c17
    have HY3 : Hid (EyS 31 w2 w3 z l v3 (H ++ encL (L.take 0))) := ⟨HK3.out, by simpa [encL] using HO3.out, hbn'⟩
    have HEL : Hid (∀ k, k ≤ N → (H ++ encL (L.take k)).length ≤ 2600000) := fun k hk => by
      rw [List.length_append]
      have h1 := encL_len (L.take k) (fun t ht => (HTX.out t (List.mem_of_mem_take ht)).2)
      have h2 : (L.take k).length ≤ k := by rw [List.length_take]; omega
      have := HHB.out; have := HN.out; omega
    clear hown hbn' HK2 HHC HO3 HHB
    go_wp2_with fail
    clear c17
    go_loopw [5, 7, 8, 9, 20] (fun lv _ _ _ kv wr => ∃ k : Nat, k ≤ N ∧ kv = .int .i64 k ∧ Hid (EyS 31 w2 wr z l lv (H ++ encL (L.take k))) ) (fun _ _ _ _ kv _ => N - (intOf kv).toNat)
    case atStart => exact ⟨0, Nat.zero_le _, rfl, HY3⟩
    case round =>
      obtain ⟨k, hk, rfl, HJ⟩ := hrel
      have hNl := HN.out
      by_cases hlt : k < N
      · have hki : (k : Int) < N := by omega
        have hk0 : (0 : Int) ≤ k := by omega
        obtain ⟨⟨cs, t⟩, hx⟩ : ∃ x, xs[k]? = some x := ⟨xs[k]'(by rw [HLN.out]; omega), List.getElem?_eq_getElem _⟩
        have hg : Txg wr cs t := (HX2.out.later HJ.out.hb).th (cs, t) (List.mem_of_getElem? hx)
        obtain ⟨b, o, rfl, hr, _⟩ := HX2.out.at_ HJ.out.hb hx
        have hr : wr.rangeAt b (o + k * 13) cs := hr
        have hLk : L[k]? = some t := by rw [← HL.out, List.getElem?_map, hx]; rfl
        have HTT := Lib.hid (HTX.out t (List.mem_of_getElem? hLk))
        have HG := Lib.hid hg; have HR1 := Lib.hid hr; have HSN := Lib.hid (encL_snoc hLk)
        clear hg hr hx hLk
        go_wp2_with (first
          | (with_reducible refine wpList_load_mid rfl 47 _ rfl b (o + k * 13) rfl cs _ HR1.out Tryd.underlying47 rfl HG.out.size ?_)
          | (with_reducible refine stop_store 47 _ _ rfl ?_))
        refine StopD.go ?_
        obtain ⟨g5, hg5⟩ : ∃ g, wr.heap.size = g := ⟨_, rfl⟩
        have hbn : Below wr.heap.size wr (wr.alloc (.cells #[.int .u8 0, .int .u8 0, .int .u8 0, .int .u8 0, .int .u8 0, .int .u8 0, .int .u8 0, .int .u8 0, .int .i64 0, .int .i64 0, .int .i64 0, .slice none 0 0, .slice none 0 0] 47)) := below_new wr _
        have kt : Bk (wr.alloc (.cells #[.int .u8 0, .int .u8 0, .int .u8 0, .int .u8 0, .int .u8 0, .int .u8 0, .int .u8 0, .int .u8 0, .int .i64 0, .int .i64 0, .int .i64 0, .slice none 0 0, .slice none 0 0] 47)) g5 47 ([] ++ (zTx ++ [])) := by rw [← hg5]; exact Bk.new' wr _ #[.int .u8 0, .int .u8 0, .int .u8 0, .int .u8 0, .int .u8 0, .int .u8 0, .int .u8 0, .int .u8 0, .int .i64 0, .int .i64 0, .int .i64 0, .slice none 0 0, .slice none 0 0] rfl
        rw [hg5]
        refine wpList_store_part rfl 47 _ _ rfl g5 0 (.agg (cs).toArray) (cs) rfl rfl rfl 47 [] zTx [] kt rfl (by rw [HG.out.len]; rfl) HG.out.size HG.out.one ?_
        intro w5 hp
        have hbn : Below wr.heap.size wr w5 := hbn.grown hp.only hbn.size (fun q hq => by injection hq with hq; omega)
        have HT5 : Hid (Bk w5 g5 47 (cs)) := by show Bk _ _ _ _; have := hp.bk; simpa using this
        clear hp kt hg5
        have HJ5 := Lib.hid (HJ.out.later hbn); have HG5 := Lib.hid (HG.out.later hbn)
        clear hbn HJ HR1
        go_wp2_with (with_reducible refine wpList_load_bk rfl 47 _ rfl g5 rfl cs 47 HT5.out _ Tryd.underlying47 rfl HG5.out.size ?_)
        refine (txEncode_any w5 cs t HG5.out HTT.out.1 HTT.out.2).mono ?_
        rintro e w6 ⟨v6, rfl, hown⟩
        have hbn := hown.2
        obtain ⟨A6, c6, rfl⟩ := hown.form
        have HO6 := Lib.hid (Sl.of_own hown.1)
        have HTL : Hid ((txB t).length ≤ 34000) := by show _ ≤ 34000; have := txB_len t; have := HTT.out.2; omega
        have HJ6 := Lib.hid (HJ5.out.later hbn)
        obtain ⟨x6, hx6⟩ : ∃ x, txB t = x := ⟨_, rfl⟩
        rw [hx6] at HO6 HTL HSN ⊢
        clear hbn hown HJ5 HT5 HG5 hx6
        go_wp2_with fail
        have hpb := putBytes_any w6 none A6 0 0 x6.length c6 [] x6 Sl.nil HO6.out (by omega) (by have := HTL.out; omega)
        rw [List.nil_append] at hpb
        have HPB := Lib.hid hpb
        clear hpb
        refine HPB.out.mono ?_
        rintro e w7 ⟨v7, rfl, hown⟩
        have hbn := hown.2
        obtain ⟨A7, c7, rfl⟩ := hown.form
        have HJ7 := Lib.hid (HJ6.out.later hbn)
        have HO7 := Lib.hid hown.1
        have HL7 : Hid ((lstB x6).length ≤ 34010) := by show _ ≤ 34010; have := lstB_lenb x6; have := HTL.out; omega
        have hls : numB x6.length ++ x6 = lstB x6 := rfl
        rw [hls] at HO7 ⊢
        obtain ⟨y7, hy7⟩ : ∃ x, lstB x6 = x := ⟨_, rfl⟩
        rw [hy7] at HO7 HL7 HSN ⊢
        have HLK := Lib.hid (HEL.out k hk)
        obtain ⟨AJ, cJ, hvj⟩ := HJ7.out.form
        subst hvj
        obtain ⟨ek, hek⟩ : ∃ x, H ++ encL (L.take k) = x := ⟨_, rfl⟩
        have HEK : Hid (H ++ encL (L.take (k + 1)) = ek ++ y7) := by show _ = _; rw [HSN.out, ← hek, List.append_assoc]
        rw [hek] at HJ7 HLK ⊢
        clear hbn hown HJ6 HO6 HPB hls hy7 hek
        go_wp2_with (at_builtin; refine stop_here2 ?_)
        refine StopD.go ?_
        obtain ⟨i0, hi, hi0, hi1, hi2⟩ := info_parts Tryd.infoU8
        refine wpList_app _ rfl (.tmp 32) (.tmp 34) 40 rfl w2.heap.size 5 i0 (.int .u8 0) 1 1 Tryd.underlying40 hi hi0 hi1 hi2 rfl (by decide) _ _ _ rfl HJ7.out.ro _ _ _ _ _ rfl (Sl.of_own HO7.out) (ints_one _ _) (by unfold maxLen; have := HLK.out; have := HL7.out; omega) (by have := HLK.out; have := HL7.out; omega) HJ7.out.hb.size ?_
        intro v9 w9 hown hg hat
        have HJ9 := Lib.hid (EyS.app (by decide) HJ7.out hown hg)
        clear hown hg hat hi hi0 hi1 hi2 i0
        have HJK : Hid (EyS 31 w2 w9 z l v9 (H ++ encL (L.take (k + 1)))) := by show EyS _ _ _ _ _ _ _; rw [HEK.out]; exact HJ9.out
        clear HJ7 HO7 HJ9
        go_wp2_with fail
        go_roundw
        case rel => exact ⟨k + 1, hlt, by go_num, HJK⟩
        case measure => simp [intOf]; omega
      · have hki : ¬ ((k : Int) < N) := by omega
        obtain rfl : k = N := by omega
        have hn2 := HR2.out
        have hj := HJ.out.ro
        rw [List.take_of_length_le (by rw [HLL.out]; exact Nat.le_refl _), ← hn2] at hj
        have HJJ := Lib.hid hj
        have HBE := Lib.hid HJ.out.hb
        clear hn2 hj HJ
        go_wp2_with fail
        go_ret2
        exact ⟨_, rfl, own_base HJJ.out HBB2.out.size, below_then HBB2.out HBE.out⟩
  · have hd1 : (E != 0) = true := by simp [hE0]
    have HR2 : Hid (T = []) := HR.out.trans (if_neg hE0)
    clear hE0
    go_wp2_with fail
    go_ret2
    rw [HR2.out]
    exact ⟨_, rfl, World.ownsRow_nil _ _ _ _, HBB2.out⟩
end Go.Proofs.YtbpmomedhdmloaaDoor
