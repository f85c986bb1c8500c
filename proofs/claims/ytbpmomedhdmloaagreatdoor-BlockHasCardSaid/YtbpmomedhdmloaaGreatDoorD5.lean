/- The document's names of a block's transactions; the root of any block. -/
import Derived.Test.YtbpmomedhdmloaaGreatDoorD4
namespace Go.Proofs.YtbpmomedhdmloaaGreatDoor
set_option linter.unusedSimpArgs false
set_option linter.unusedVariables false
open Go.RowKit Go.Maps

theorem rroot_ret {w : World} {g : Nat} {d : List Int} (hd : DgOk d) (h : Bk w g 22 (dl d)) (tmps : Array Value) (h2 : tmps.getD 2 undef = .pointer (some ⟨g, 0, none⟩)) {e : Value} (h3 : tmps.getD 3 undef = e) :
    (results Tryz.f12 tmps).run Tryz.prog w = .ok (.tuple #[.agg (dl d).toArray, e]) w := by
  have r1 : w.rangeAt g 0 (dl d) := Bk.range (pre := []) (post := []) (by simpa using h) rfl
  have l1 := run_loadVar_mid (P := Tryz.prog) w g 0 22 (dl d) _ r1 Tryz.underlying22 rfl (rdg_szd hd)
  rw [Array.getD_eq_getD_getElem?] at h2 h3
  simp [results, Tryz.results12, h2, h3, asAddr, l1]
theorem rname_ret {w : World} {g : Nat} {d : List Int} (hd : DgOk d) (h : Bk w g 22 (dl d)) (tmps : Array Value) (h2 : tmps.getD 2 undef = .pointer (some ⟨g, 0, none⟩)) {e : Value} (h3 : tmps.getD 3 undef = e) :
    (results Tryz.f10 tmps).run Tryz.prog w = .ok (.tuple #[.agg (dl d).toArray, e]) w := by
  have r1 : w.rangeAt g 0 (dl d) := Bk.range (pre := []) (post := []) (by simpa using h) rfl
  have l1 := run_loadVar_mid (P := Tryz.prog) w g 0 22 (dl d) _ r1 Tryz.underlying22 rfl (rdg_szd hd)
  rw [Array.getD_eq_getD_getElem?] at h2 h3
  simp [results, Tryz.results10, h2, h3, asAddr, l1]
set_option maxRecDepth 20000 in
set_option maxHeartbeats 4000000 in
theorem rnames_any (w : World) (p : List Int) (h : Int) (m : List Int) (hp : DgOk p) (hm : DgOk m) (A : Option Addr) (N C : Nat) (xs : List (List Value × TxT)) (hx : Txs w A N xs) (hN : N ≤ 1000) (hl : ∀ x ∈ xs, x.2.b.length ≤ 1073741000 ∧ x.2.s.length ≤ 1073741000) :
    Calls Tryz.prog 46 #[.agg (bkC p h m (.slice A N C)).toArray] w fun e w' => (∃ v, e = .returned v ∧ w'.ownsRow w.heap.size 22 8 v N (cellsD (namesT (xs.map (·.2))))) ∧ Below w.heap.size w w' := by
  obtain ⟨l, hl⟩ : ∃ x, bkC p h m (.slice A N C) = x := ⟨_, rfl⟩
  obtain ⟨X, hX⟩ : ∃ X, l.toArray = X := ⟨_, rfl⟩
  obtain ⟨z, hz⟩ : ∃ z, w.heap.size = z := ⟨_, rfl⟩
  obtain ⟨w1, hw1⟩ : ∃ w1, w.alloc (.cells X 25) = w1 := ⟨_, rfl⟩
  have hb1 : Below w.heap.size w w1 := hw1 ▸ below_new w _
  have kx : Bk w1 z 25 l := hw1 ▸ Bk.at_ w _ X hz (by rw [← hX])
  have hbm := bkc_mem hp hm (by rw [hl]; exact kx)
  have c8 := hbm.c8; have c17 := hbm.c17
  have HW := Lib.hid hw1; have HBB1 := Lib.hid hb1; have HZ := Lib.hid hz; have HK1 := Lib.hid kx; have HPO := Lib.hid hp; have HMO := Lib.hid hm; have HXE := Lib.hid hX; have HLE := Lib.hid hl
  have HXS := Lib.hid (hx.later hb1); have HLN := Lib.hid hx.length
  rw [hl, hX]
  clear hl hX hw1 hb1 kx hbm hz hp hm hx
  have HLB := Lib.hid hl
  obtain ⟨i0, hi, hi0, hi1, hi2⟩ := info_parts Tryz.infoDgR
  clear hl
  go_enter Tryz.func46, Tryz.ntmps46
  go_upto_region 1 with fail
  rw [HW.out, HZ.out]
  go_wp2_with (with_reducible refine stop_bs2 47 _ _ rfl ?_)
  refine StopD.go ?_
  refine wpList_bsliceG2 rfl 47 0 _ rfl #[] ?_ 22 [] (fun w => rbs_0 w) ?_
  · simp [Act.eval, Act.put]
  intro q2 w2 hq2 hb2 hbn
  have hown2 : w2.ownsRow w1.heap.size 22 8 (.slice (some ⟨q2, 0, none⟩) 0 0) 0 [] := hb2.own (base := w1.heap.size) (size := 8) (cap := 0) (n := 0) (by omega) (Nat.le_refl _) (by omega) rfl rfl
  have HL2 := Lib.hid hown2; have HB2 := Lib.hid hbn
  have hc17 : w2.cell? ⟨z, 17, none⟩ = some (.slice A N C) := (hbn.cell (p := ⟨z, 17, none⟩) HK1.out.lt).trans c17
  clear hown2 hbn hq2 hb2 c8 c17
  go_wp2_with fail
  clear hc17
  go_loopw [3, 4] (fun lv kv wr => ∃ k : Nat, k ≤ N ∧ kv = .int .i64 k ∧ Hid (wr.ownsRow w1.heap.size 22 8 lv k (cellsD (namesT ((xs.map (·.2)).take k)))) ∧ Hid (Below w1.heap.size w1 wr)) (fun _ kv _ => N - (intOf kv).toNat)
  case atStart => exact ⟨0, Nat.zero_le _, rfl, HL2.out, HB2.out⟩
  case round =>
    obtain ⟨k, hk, rfl, HJ, HB⟩ := hrel
    have hbm := bkc_mem HPO.out HMO.out (by rw [HLE.out]; exact HK1.out.later HB.out)
    have c17 := hbm.c17
    clear hbm
    by_cases hlt : k < N
    · have hki : (k : Int) < N := by omega
      have hk0 : (0 : Int) ≤ k := by omega
      obtain ⟨⟨cs, t⟩, hx⟩ : ∃ x, xs[k]? = some x := ⟨xs[k]'(by rw [HLN.out]; omega), List.getElem?_eq_getElem _⟩
      have hg : Txg wr cs t := (HXS.out.later HB.out).th (cs, t) (List.mem_of_getElem? hx)
      have hlb : t.b.length ≤ 1073741000 ∧ t.s.length ≤ 1073741000 := HLB.out (cs, t) (List.mem_of_getElem? hx)
      obtain ⟨b, o, rfl, hr, _⟩ := HXS.out.at_ HB.out hx
      have hr : wr.rangeAt b (o + k * 13) cs := hr
      have hLk : (xs.map (·.2))[k]? = some t := by rw [List.getElem?_map, hx]; rfl
      have HG := Lib.hid hg; have HR := Lib.hid hr; have HFS := Lib.hid (namesT_snoc hLk); have HLL := Lib.hid hlb
      clear hg hr hx hLk hlb
      go_wp2_with (with_reducible refine wpList_load_mid rfl 74 _ rfl b (o + k * 13) rfl cs _ HR.out Tryz.underlying74 rfl HG.out.rsize ?_)
      refine (rtxName_any wr cs t HG.out HLL.out.1 HLL.out.2).mono ?_
      rintro e w6 ⟨rfl, hbn⟩
      have HB6 := Lib.hid (below_then HB.out hbn); have HJ6 := Lib.hid (own_keep HJ.out hbn)
      have HDO := Lib.hid (txN_ok t)
      obtain ⟨d, hd⟩ : ∃ d, txN t = d := ⟨_, rfl⟩
      rw [hd] at HFS HDO ⊢
      clear hbn HJ HB HR HG hd c17
      go_wp2_with (with_reducible refine stop_bs2 47 _ _ rfl ?_)
      refine StopD.go ?_
      refine wpList_bsliceG2 rfl 47 1 _ rfl #[(0, .agg (dl d).toArray)] ?_ 22 (dl d) (fun w => rbs_dgb HDO.out w) ?_
      · simp [Act.eval, Act.put]
      intro q8 w8 hq8 hb8 hbn
      have HB8 := Lib.hid (below_then HB6.out hbn); have HJ8 := Lib.hid (own_keep HJ6.out hbn); have HC8 := Lib.hid hb8
      clear hq8 hb8 hbn HB6 HJ6
      go_wp2_with (at_builtin; refine stop_here2 ?_)
      refine StopD.go ?_
      refine wpList_app _ rfl (.tmp 13) (.tmp 20) 47 rfl w1.heap.size 22 i0 (.agg (dgA zeroD)) 8 8 Tryz.underlying47 hi hi0 hi1 hi2 rfl (by decide) _ _ _ rfl HJ8.out _ _ _ _ _ rfl (Sl.of_own (HC8.out.own (base := 0) (size := 8) (cap := 1) (n := 1) (Nat.zero_le _) (Nat.le_refl _) (by omega) (by rw [dl_len, HDO.out.len]) (by rw [List.take_of_length_le (by rw [dl_len, HDO.out.len]; exact Nat.le_refl _)]))) (dl_one' _) (by unfold maxLen; omega) (by omega) HB8.out.size ?_
      intro v9 w9 hown hgr hat
      have HB9 := Lib.hid (grown_below HB8.out HJ8.out hgr (Nat.le_refl _) HB8.out.size)
      have HJ9 : Hid (w9.ownsRow w1.heap.size 22 8 v9 (k + 1) (cellsD (namesT ((xs.map (·.2)).take (k + 1))))) := by
        show World.ownsRow _ _ _ _ _ _ _
        rw [HFS.out]; exact hown
      clear hown hgr hat HJ8 HB8
      go_wp2_with fail
      go_roundw
      case rel => exact ⟨k + 1, hlt, by go_num, HJ9, HB9⟩
      case measure => simp [intOf]; omega
    · have hki : ¬ ((k : Int) < N) := by omega
      obtain rfl : k = N := by omega
      go_wp2_with fail
      go_ret
      refine ⟨⟨_, rfl, ?_⟩, below_then HBB1.out HB.out⟩
      have hh := HJ.out
      rw [List.take_of_length_le (by rw [List.length_map, HLN.out]; exact Nat.le_refl _)] at hh
      exact own_base hh HBB1.out.size
theorem rword_anyb (w : World) (a : List Int) (ha : DgOk a) (s : ByteArray) (hs : s.size ≤ 70368744177664) :
    Calls Tryz.prog 38 #[.agg (dl a).toArray, .string s] w fun e w' => e = .returned (.agg (dl (wordI a (bytesOf s))).toArray) ∧ Below w.heap.size w w' := rword_any w a ha s hs
theorem rbuild_d0b (w : World) : (Instr.build 22 #[]).run Tryz.prog w = .ok (.agg (dl zeroD).toArray) w := by kernel_rfl
set_option maxRecDepth 20000 in
set_option maxHeartbeats 4000000 in
theorem rbroot_any (w : World) (p : List Int) (h : Int) (m : List Int) (hp : DgOk p) (hm : DgOk m) (A : Option Addr) (N C : Nat) (xs : List (List Value × TxT)) (hx : Txs w A N xs) (hN : N ≤ 1000) (hl : ∀ x ∈ xs, x.2.b.length ≤ 1073741000 ∧ x.2.s.length ≤ 1073741000) :
    Calls Tryz.prog 12 #[.agg (bkC p h m (.slice A N C)).toArray] w fun e w' => e = .returned (.tuple #[.agg (dl (rootT h (xs.map (·.2)))).toArray, .int .i64 (blkE h (xs.map (·.2)))]) ∧ Below w.heap.size w w' := by
  have HRE := Lib.hid (fun (w' : World) (hx' : Txs w' A N xs) => rbright_any w' p h m hp hm A N C xs hx')
  have HNM := Lib.hid (fun (w' : World) (hx' : Txs w' A N xs) => rnames_any w' p h m hp hm A N C xs hx' hN hl)
  have HBS := Lib.hid (rblk_sz (h := h) (s := .slice A N C) hp hm)
  clear hl hN
  obtain ⟨l, hl⟩ : ∃ x, bkC p h m (.slice A N C) = x := ⟨_, rfl⟩
  obtain ⟨X, hX⟩ : ∃ X, l.toArray = X := ⟨_, rfl⟩
  obtain ⟨z, hz⟩ : ∃ z, w.heap.size = z := ⟨_, rfl⟩
  obtain ⟨w1, hw1⟩ : ∃ w1, (w.alloc (.cells X 25)).alloc (.cells #[.int .u8 0, .int .u8 0, .int .u8 0, .int .u8 0, .int .u8 0, .int .u8 0, .int .u8 0, .int .u8 0] 22) = w1 := ⟨_, rfl⟩
  have hb1 : Below w.heap.size w w1 := hw1 ▸ (below_new w _).alloc (by simp) _
  have kx : Bk w1 z 25 l := hw1 ▸ (Bk.at_ w _ X hz (by rw [← hX])).alloc _
  have kr : Bk w1 (z + 1) 22 ([] ++ (dl zeroD ++ [])) := hw1 ▸ Bk.at_ _ _ #[.int .u8 0, .int .u8 0, .int .u8 0, .int .u8 0, .int .u8 0, .int .u8 0, .int .u8 0, .int .u8 0] (by simp [hz]) rfl
  have HM : Hid (∀ w' g', Bk w' g' 25 l → BkcM w' g' p h m (.slice A N C)) := fun w' g' h' => by rw [← hl] at h'; exact bkc_mem hp hm h'
  have HW := Lib.hid hw1; have HB1 := Lib.hid hb1; have HZ := Lib.hid hz; have HK1 := Lib.hid kx; have HR1 := Lib.hid kr; have HPO := Lib.hid hp; have HMO := Lib.hid hm; have HXE := Lib.hid hX; have HLE := Lib.hid hl
  have HX1 := Lib.hid (hx.later hb1); have HLN := Lib.hid hx.length
  rw [hl, hX]
  clear hl hX hw1 hb1 kx kr hz hp hm hx
  rw [HLE.out] at HBS HRE HNM
  rw [HXE.out] at HRE HNM
  have hLl : (xs.map (·.2)).length = N := by rw [List.length_map]; exact HLN.out
  obtain ⟨L, hL⟩ : ∃ L, xs.map (·.2) = L := ⟨_, rfl⟩
  rw [hL] at HRE HNM hLl ⊢
  obtain ⟨E, hE⟩ : ∃ E, blkE h L = E := ⟨_, rfl⟩
  have hz : E = 0 → N ≤ 64 := fun e => by have := (blkE_zero (hE.trans e)).2.1; rw [hLl] at this; exact this
  have HRO := Lib.hid (rootT_ok h L)
  have HRT : Hid (rootT h L = if E = 0 then (if N = 0 then wordI zeroD txtNone else rootI (namesT L)) else zeroD) := by show _ = _; rw [rootT, hE, hLl]
  obtain ⟨T, hT⟩ : ∃ T, rootT h L = T := ⟨_, rfl⟩
  rw [hE] at HRE ⊢
  rw [hT] at HRT HRO ⊢
  clear hL hE hT
  go_enter Tryz.func12, Tryz.ntmps12
  go_upto_region 1 with fail
  rw [HW.out, HZ.out]
  go_wp2_with (with_reducible refine wpList_load_bk rfl 25 _ rfl z rfl l 25 HK1.out _ Tryz.underlying25 rfl HBS.out ?_)
  rw [HXE.out]
  refine (HRE.out w1 HX1.out).mono ?_
  rintro e w2 ⟨rfl, hbn⟩
  have HB2 := Lib.hid (below_then HB1.out hbn); have HK2 := Lib.hid (HK1.out.later hbn); have HR2 := Lib.hid (HR1.out.later hbn); have HX2 := Lib.hid (HX1.out.later hbn)
  clear hbn HK1 HR1 HX1
  by_cases hE0 : E = 0
  · have hN64 := hz hE0
    subst hE0
    clear hz
    by_cases hN0 : N = 0
    · have hTT : T = wordI zeroD txtNone := by have := HRT.out; rwa [if_pos rfl, if_pos hN0] at this
      subst hN0
      have c17 := (HM.out _ _ HK2.out).c17
      go_wp2_with ((with_reducible refine wpList_build rfl 22 _ rfl #[] ?_ _ (rbuild_d0b _) ?_); focus (simp [Act.eval, Act.put]; done))
      have hwd := rword_anyb w2 zeroD zero_ok ⟨#[110, 111, 110, 101]⟩ (by decide)
      rw [txtNone_is, ← hTT] at hwd
      refine hwd.mono ?_
      rintro e w3 ⟨rfl, hbn⟩
      have HB3 := Lib.hid (below_then HB2.out hbn); have HR3 := Lib.hid (HR2.out.later hbn)
      clear hbn hwd hTT c17
      go_wp2_with (with_reducible refine stop_store 22 _ _ rfl ?_)
      refine StopD.go ?_
      refine wpList_store_part rfl 22 _ _ rfl (z + 1) 0 (.agg (dl T).toArray) (dl T) rfl rfl rfl 22 [] (dl zeroD) [] HR3.out rfl (dg_lensd HRO.out) (rdg_szd HRO.out) (dl_one' _) ?_
      intro wz hp
      have HTz : Hid (Bk wz ((z + 1)) 22 (dl T)) := by show Bk _ _ _ _; have := hp.bk; simpa using this
      have HBz := Lib.hid (below_only HB3.out hp.only HB3.out.size (by have := HZ.out; omega))
      clear hp
      go_wp2_with fail
      refine bodyPost_ret (rroot_ret HRO.out HTz.out _ rfl rfl) rfl ?_
      exact ⟨rfl, HBz.out⟩
    · have hTT : T = rootI (namesT L) := by have := HRT.out; rwa [if_pos rfl, if_neg hN0] at this
      have HTT := Lib.hid hTT
      have hNi : ¬ ((N : Int) = 0) := by omega
      have hNd : decide ((N : Int) = 0) = false := by simp [hN0]
      have c17 := (HM.out _ _ HK2.out).c17
      clear hTT
      go_wp2_with (with_reducible refine wpList_load_bk rfl 25 _ rfl z rfl l 25 HK2.out _ Tryz.underlying25 rfl HBS.out ?_)
      rw [HXE.out]
      refine (HNM.out w2 HX2.out).mono ?_
      rintro e w3 ⟨⟨v, rfl, hown⟩, hbn⟩
      have HB3 := Lib.hid (below_then HB2.out hbn); have HR3 := Lib.hid (HR2.out.later hbn)
      obtain ⟨A1, c1, rfl⟩ := own_form hown
      have HS := Lib.hid (Sl.of_own hown)
      clear hbn hown c17
      go_wp2_with fail
      refine (rRoot_any w3 A1 N c1 (namesT L) (namesT_ok L) ?_).mono ?_
      · exact HS.out
      rintro e w4 ⟨rfl, hbn⟩
      rw [← HTT.out]
      have HB4 := Lib.hid (below_then HB3.out hbn); have HR4 := Lib.hid (HR3.out.later hbn)
      clear hbn HS
      obtain ⟨RE, hRE⟩ : ∃ x, rootE N = x := ⟨_, rfl⟩
      rw [hRE]
      clear hRE
      go_wp2_with (with_reducible refine stop_store 22 _ _ rfl ?_)
      refine StopD.go ?_
      obtain ⟨g5, hg5⟩ : ∃ g, w4.heap.size = g := ⟨_, rfl⟩
      have hbn : Below w4.heap.size w4 (w4.alloc (.cells #[.int .u8 0, .int .u8 0, .int .u8 0, .int .u8 0, .int .u8 0, .int .u8 0, .int .u8 0, .int .u8 0] 22)) := below_new w4 _
      have kt : Bk (w4.alloc (.cells #[.int .u8 0, .int .u8 0, .int .u8 0, .int .u8 0, .int .u8 0, .int .u8 0, .int .u8 0, .int .u8 0] 22)) g5 22 ([] ++ (dl zeroD ++ [])) := by rw [← hg5]; exact Bk.new' w4 _ #[.int .u8 0, .int .u8 0, .int .u8 0, .int .u8 0, .int .u8 0, .int .u8 0, .int .u8 0, .int .u8 0] rfl
      rw [hg5]
      refine wpList_store_part rfl 22 _ _ rfl g5 0 (.agg (dl T).toArray) (dl T) rfl rfl rfl 22 [] (dl zeroD) [] kt rfl (dg_lensd HRO.out) (rdg_szd HRO.out) (dl_one' _) ?_
      intro w5 hp
      have hbn : Below w4.heap.size w4 w5 := hbn.grown hp.only hbn.size (fun q hq => by injection hq with hq; omega)
      have HT5 : Hid (Bk w5 g5 22 (dl T)) := by show Bk _ _ _ _; have := hp.bk; simpa using this
      clear hp kt
      clear hg5
      have HB5 := Lib.hid (below_then HB4.out hbn); have HR5 := Lib.hid (HR4.out.later hbn)
      clear hbn HB4 HR4
      go_wp2_with (first
        | (with_reducible refine wpList_load_bk rfl 22 _ rfl g5 rfl (dl T) 22 HT5.out _ Tryz.underlying22 rfl (rdg_szd HRO.out) ?_)
        | (with_reducible refine stop_store 22 _ _ rfl ?_))
      refine StopD.go ?_
      refine wpList_store_part rfl 22 _ _ rfl (z + 1) 0 (.agg (dl T).toArray) (dl T) rfl rfl rfl 22 [] (dl zeroD) [] HR5.out rfl (dg_lensd HRO.out) (rdg_szd HRO.out) (dl_one' _) ?_
      intro wz hp
      have HTz : Hid (Bk wz ((z + 1)) 22 (dl T)) := by show Bk _ _ _ _; have := hp.bk; simpa using this
      have HBz := Lib.hid (below_only HB5.out hp.only HB5.out.size (by have := HZ.out; omega))
      clear hp
      go_wp2_with fail
      refine bodyPost_ret (rroot_ret HRO.out HTz.out _ rfl rfl) rfl ?_
      exact ⟨rfl, HBz.out⟩
  · have hd1 : (E != 0) = true := by simp [hE0]
    have hTT : T = zeroD := by have := HRT.out; rwa [if_neg hE0] at this
    clear hE0 hz
    subst hTT
    go_wp2_with (first
      | ((with_reducible refine wpList_build rfl 22 _ rfl #[] ?_ _ (rbuild_d0b _) ?_); focus (simp [Act.eval, Act.put]; done))
      | (with_reducible refine stop_store 22 _ _ rfl ?_))
    refine StopD.go ?_
    refine wpList_store_part rfl 22 _ _ rfl (z + 1) 0 (.agg (dl zeroD).toArray) (dl zeroD) rfl rfl rfl 22 [] (dl zeroD) [] HR2.out rfl (dg_lensd zero_ok) (rdg_szd zero_ok) (dl_one' _) ?_
    intro wz hp
    have HTz : Hid (Bk wz ((z + 1)) 22 (dl zeroD)) := by show Bk _ _ _ _; have := hp.bk; simpa using this
    have HBz := Lib.hid (below_only HB2.out hp.only HB2.out.size (by have := HZ.out; omega))
    clear hp
    go_wp2_with fail
    refine bodyPost_ret (rroot_ret zero_ok HTz.out _ rfl rfl) rfl ?_
    exact ⟨rfl, HBz.out⟩
end Go.Proofs.YtbpmomedhdmloaaGreatDoor
