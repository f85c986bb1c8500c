/- Trees: a leaf is another one. -/
import Derived.Test.YtimcjldehememaaDoorT17
namespace Go.Proofs.YtimcjldehememaaDoor
open Go.RowKit

/-- What has turned lies from lo on, before hi; all else is new. -/
structure Rng (lo hi : Nat) (w w' : World) : Prop where
  os : w'.os = w.os
  tape : w'.tape = w.tape
  output : w'.output = w.output
  size : w.heap.size ≤ w'.heap.size
  block : ∀ b, b < w.heap.size → (b < lo ∨ hi ≤ b) → w'.heap[b]? = w.heap[b]?
theorem Rng.refl (lo hi : Nat) (w : World) : Rng lo hi w w := ⟨rfl, rfl, rfl, Nat.le_refl _, fun _ _ _ => rfl⟩
theorem Rng.trans {lo hi : Nat} {a b c : World} (h : Rng lo hi a b) (k : Rng lo hi b c) : Rng lo hi a c :=
  ⟨k.os.trans h.os, k.tape.trans h.tape, k.output.trans h.output, Nat.le_trans h.size k.size, fun q hq hr => (k.block q (Nat.lt_of_lt_of_le hq h.size) hr).trans (h.block q hq hr)⟩
theorem Rng.of_below {lo hi : Nat} {w w' : World} (h : Below w.heap.size w w') : Rng lo hi w w' := ⟨h.os, h.tape, h.output, h.size, fun b hb _ => h.block b hb⟩
theorem Rng.of_only {lo hi g : Nat} {w w' : World} (h : w.grownBy w' (some g)) (h1 : lo ≤ g) (h2 : g < hi) : Rng lo hi w w' :=
  ⟨h.os, h.tape, h.output, h.size, fun b hb hr => h.block b hb (fun e => by injection e with e; omega)⟩
theorem Rng.below {lo hi B : Nat} {w0 w w' : World} (h : Rng lo hi w w') (hb : Below B w0 w) (hB : B ≤ lo) (hw : B ≤ w.heap.size) : Below B w0 w' :=
  hb.trans ⟨h.os, h.tape, h.output, h.size, fun b hb' => h.block b (by omega) (.inl (by omega))⟩
theorem Rng.bk {lo hi g : Nat} {w w' : World} {t : TypeId} {xs : List Value} (h : Rng lo hi w w') (hg : g < lo ∨ hi ≤ g) (hb : Bk w g t xs) : Bk w' g t xs := (h.block g (Bk.lt hb) hg).trans hb

theorem nodeI_other (ls : List (List Int)) (i : Nat) (d : List Int) : ∀ (l k : Nat), k ≠ i / 2 ^ l → nodeI (ls.set i d) l k = nodeI ls l k
  | 0, k, h => by
    rw [nodeI_zero, nodeI_zero, List.getElem?_set_ne (by rw [Nat.pow_zero, Nat.div_one] at h; exact fun e => h e.symm)]
  | l + 1, k, h => by
    have e : i / 2 ^ (l + 1) = i / 2 ^ l / 2 := by rw [Nat.pow_succ, Nat.div_div_eq_div_mul]
    rw [e] at h
    rw [nodeI_succ, nodeI_succ, nodeI_other ls i d l (2 * k) (by omega), nodeI_other ls i d l (2 * k + 1) (by omega)]
theorem level_set (ls : List (List Int)) (i : Nat) (d : List Int) (h l : Nat) : (levelI ls h l).set (i / 2 ^ l) (nodeI (ls.set i d) l (i / 2 ^ l)) = levelI (ls.set i d) h l := by
  refine List.ext_getElem (by simp [levelI]) fun k h1 h2 => ?_
  rw [List.getElem_set]
  simp only [levelI, List.getElem_map, List.getElem_range]
  by_cases hk : i / 2 ^ l = k
  · rw [if_pos hk, hk]
  · rw [if_neg hk, nodeI_other ls i d l k (fun e => hk e.symm)]

/-- A leaf has turned. -/
theorem TreeAt.leaf {w w' : World} {lo hi h m : Nat} {T : Tr} {ls : List (List Int)} {ns : Nat → List (List Int)} (t : TreeAt w lo hi T h m ls ns) (hg : w.grownBy w' (some T.bl)) (i : Nat) (d : List Int) (hd : DgOk d) (hl : LeavesAt w' T (ls.set i d)) (hn : T.g ≠ T.bl) :
    TreeAt w' lo hi T h m (ls.set i d) ns where
  row := by
    rw [List.length_set]
    exact Bk.grown t.row hg (fun e => by injection e with e; exact hn e)
  lok := set_ok t.lok i hd
  lv := hl
  lc := by rw [List.length_set]; exact t.lc
  lh := by rw [List.length_set]; exact t.lh
  nv := fun j hj => ⟨(t.nv j hj).1.to (hg.block _ (t.nv j hj).1.lt (fun e => by injection e with e; exact t.apl j hj e)), (t.nv j hj).2⟩
  hm := t.hm
  apl := t.apl
  apn := t.apn
  blo := t.blo
  bhi := t.bhi
  hih := Nat.le_trans t.hih hg.size
set_option maxRecDepth 20000 in
set_option maxHeartbeats 1000000 in
theorem tSet_any (w : World) (lo hi : Nat) (T : Tr) (ls : List (List Int)) (t : TreeOf w lo hi T ls) (i0 : Nat) (hin : i0 < ls.length) (leaf : List Int) (hd : DgOk leaf) :
    Calls Tryd.prog 25 #[.pointer (some ⟨T.g, 0, none⟩), .int .i64 (i0 : Int), .agg (dgA leaf)] w fun e w' => e = .returned (.int .i64 0) ∧ TreeOf w' lo hi T (ls.set i0 leaf) ∧ Rng lo hi w w' := by
  obtain ⟨ns, t, hal⟩ := t
  obtain ⟨a0, a1, a2, a3, a4, a5, a6, a7, rfl⟩ := list8 leaf hd.len
  obtain ⟨w1, hw1⟩ : ∃ w1, w.alloc (.cells (dgA [a0, a1, a2, a3, a4, a5, a6, a7]) 26) = w1 := ⟨_, rfl⟩
  have kd : DgAt w1 w.heap.size 26 [a0, a1, a2, a3, a4, a5, a6, a7] := hw1 ▸ dg_new w _ _
  have hb1 : Below w.heap.size w w1 := hw1 ▸ below_new w _
  have t1 := t.later hb1
  have hhi := t.hih
  have h12 := t.hm.2
  have hn4 := t.n12
  have hlh := t.lh
  obtain ⟨q, hq⟩ : ∃ q, w.heap.size = q := ⟨_, rfl⟩
  have HHA := Lib.hid (has_any w1 lo hi T _ _ ls ns t1 i0)
  rw [show hasB ls.length i0 = true by rw [hasB]; exact decide_eq_true (by omega)] at HHA
  obtain ⟨h, hh⟩ : ∃ h, heightI ls.length = h := ⟨_, rfl⟩
  have HHI := Lib.hid hh
  rw [hh] at t1 hal h12 hlh
  have hi4 : i0 < 2 ^ h := by omega
  have hpw := t1.pow 0
  rw [Nat.sub_zero] at hpw
  have hc0 := t1.lcell
  have hc1 := t1.ncell (l := 0) (by omega)
  rw [Nat.sub_zero] at hc1
  obtain ⟨ys, hyb, hyl, hyt⟩ := t1.lv
  have hcl := t1.lc
  have hgb : T.g ≠ T.bl := Bk.ne_ t1.row hyb (by decide)
  have hgl := Bk.lt t1.row
  have hbl := Bk.lt hyb
  have hlo := t1.blo
  have hbh := t1.bhi
  obtain ⟨zz, hz⟩ : ∃ zz, ls[i0]? = some zz := ⟨ls[i0], List.getElem?_eq_getElem hin⟩
  have hzo := t1.lok zz (List.mem_of_getElem? hz)
  have hrz := sl_dg t1.sl t1.lok hz
  rw [Nat.zero_add] at hrz
  obtain ⟨z0, z1, z2, z3, z4, z5, z6, z7, rfl⟩ := list8 zz hzo.len
  obtain ⟨zc0, zc1, zc2, zc3, zc4, zc5, zc6, zc7⟩ := range8 hrz
  have zf := Bk.frozen hyb
  rw [hq] at kd hb1 hhi
  obtain ⟨e0, e1, e2, e3, e4, e5, e6, e7⟩ := cells8 kd
  obtain ⟨g, hg⟩ : ∃ g, T.g = g := ⟨_, rfl⟩
  obtain ⟨bl, hbl'⟩ : ∃ bl, T.bl = bl := ⟨_, rfl⟩
  obtain ⟨n, hn⟩ : ∃ n, ls.length = n := ⟨_, rfl⟩
  obtain ⟨N, hN⟩ : ∃ N, 2 ^ h = N := ⟨_, rfl⟩
  rw [hg] at hc0 hc1 hgl hgb HHA
  rw [hbl'] at hc0 hgb hbl zc0 zc1 zc2 zc3 zc4 zc5 zc6 zc7 zf
  rw [hn] at hc0
  rw [hN] at hc1
  have HT1 := Lib.hid t1; have HB1 := Lib.hid hb1; have HW := Lib.hid hw1; have HKD := Lib.hid kd; have HD := Lib.hid hd; have HAL := Lib.hid hal
  have HTG := Lib.hid hg; have HTB := Lib.hid hbl'
  have HY : Hid (Bk w1 T.bl 26 ys ∧ ys.length = T.cl * 8 ∧ ys.take (ls.length * 8) = cellsD ls) := ⟨hyb, hyl, hyt⟩
  have hi1 : (i0 : Int) < n := by omega
  have hi0 : (0 : Int) ≤ i0 := by omega
  have hiN : (i0 : Int) < N := by omega
  have hqg : ¬ q = bl := by have := hbh.2.1; omega
  have hqg2 : ¬ q = g := by have := hbh.1; omega
  rw [hg]
  clear t t1 hal hyb hyl hyt hz hzo hrz kd hb1 hw1 hg hbl' hh hd
  go_enter Tryd.func25, Tryd.ntmps25
  go_upto_region 1 with fail
  rw [HW.out]
  go_wp2_with (go_at_call 44; refine HHA.out.mono ?_; rintro e w2 ⟨rfl, rfl⟩)
  go_region
  have hgr := only_drew (only_put8at (only_refl w1 bl) (i0 * 8) a0 a1 a2 a3 a4 a5 a6 a7)
  have hbk := (Bk.put8at HY.out.1 (i0 * 8) a0 a1 a2 a3 a4 a5 a6 a7).drew
  rw [HTB.out] at hbk
  have hkd := Bk.grown HKD.out hgr (by intro e; injection e with e; exact hqg e)
  obtain ⟨w2, hw2⟩ : ∃ w2, ((((((((w1.setCell ⟨bl, i0 * 8, none⟩ (.int .u8 a0)).setCell ⟨bl, i0 * 8 + 1, none⟩ (.int .u8 a1)).setCell ⟨bl, i0 * 8 + 2, none⟩ (.int .u8 a2)).setCell ⟨bl, i0 * 8 + 3, none⟩ (.int .u8 a3)).setCell ⟨bl, i0 * 8 + 4, none⟩ (.int .u8 a4)).setCell ⟨bl, i0 * 8 + 5, none⟩ (.int .u8 a5)).setCell ⟨bl, i0 * 8 + 6, none⟩ (.int .u8 a6)).setCell ⟨bl, i0 * 8 + 7, none⟩ (.int .u8 a7)).drew = w2 := ⟨_, rfl⟩
  rw [hw2] at hgr hbk hkd
  rw [hw2]
  have t2 : TreeAt w2 lo hi T h (h + 1) (ls.set i0 [a0, a1, a2, a3, a4, a5, a6, a7]) ns := HT1.out.leaf (by rw [HTB.out]; exact hgr) i0 _ HD.out (row_put HY.out.2.1 HY.out.2.2 HT1.out.lok hin a0 a1 a2 a3 a4 a5 a6 a7 (by rw [HTB.out]; exact hbk)) (by rw [HTG.out, HTB.out]; exact hgb)
  have r2 : Rng lo hi w w2 := (Rng.of_below (by rw [hq]; exact HB1.out)).trans (Rng.of_only hgr (by rw [← HTB.out]; exact hlo.2.1) (by rw [← HTB.out]; exact hbh.2.1))
  clear zc0 zc1 zc2 zc3 zc4 zc5 zc6 zc7 e0 e1 e2 e3 e4 e5 e6 e7 zf hgr hbk hw2 hc0 hc1 HT1 HB1 HW HY HKD hgl hbl
  obtain ⟨b0, hb0⟩ : ∃ b0, T.bn 0 = b0 := ⟨_, rfl⟩
  have hc1 := t2.ncell (l := 0) (by omega)
  obtain ⟨⟨ys0, hbk0, hyl0, hyt0⟩, hnl0, hno0⟩ := t2.nv 0 (by omega)
  have HY0 := Lib.hid (show ys0.length = T.cn 0 * 8 ∧ ys0.take ((ns 0).length * 8) = cellsD (ns 0) from ⟨hyl0, hyt0⟩)
  clear hyl0 hyt0
  obtain ⟨C0, hC0⟩ : ∃ C0, T.cn 0 = C0 := ⟨_, rfl⟩
  have hpj : i0 < 2 ^ (h - 0) := by rw [Nat.sub_zero]; exact hi4
  obtain ⟨zz, hz⟩ : ∃ zz, (ns 0)[i0]? = some zz := ⟨(ns 0)[i0]'(by rw [hnl0]; exact hpj), List.getElem?_eq_getElem _⟩
  have hzo := hno0 zz (List.mem_of_getElem? hz)
  have hrz := sl_dg (t2.nsl (l := 0) (by omega)) hno0 hz
  rw [Nat.zero_add] at hrz
  obtain ⟨z0, z1, z2, z3, z4, z5, z6, z7, rfl⟩ := list8 zz hzo.len
  have hgl : g < w2.heap.size := by rw [← HTG.out]; exact Bk.lt t2.row
  have hbl0 : b0 < w2.heap.size := by rw [← hb0]; exact Bk.lt hbk0
  have hql : q < w2.heap.size := Bk.lt hkd
  have hne2 : g ≠ b0 := by rw [← HTG.out, ← hb0]; exact Bk.ne_ t2.row hbk0 (by decide)
  have hneq : q ≠ b0 := by have := hbh.2.2 0 (by omega); omega
  rw [Nat.sub_zero, hN, hb0, hC0, HTG.out] at hc1
  rw [hb0] at hrz hbk0
  have HT2 := Lib.hid t2; have HR2 := Lib.hid r2; have HKD := Lib.hid hkd; have HRZ := Lib.hid hrz; have HBK0 := Lib.hid hbk0; have HCELL := Lib.hid hc1; have HB0 := Lib.hid hb0
  have HL0 : Hid (DsOk (ns 0) ∧ i0 < (ns 0).length) := ⟨hno0, by rw [hnl0]; exact hpj⟩
  have hS : w2.cell? ⟨g, 1, none⟩ = some (.slice (some ⟨b0, 0, none⟩) N C0) ∧ w2.cell? ⟨q, 0, none⟩ = some (.int .u8 a0) ∧ w2.cell? ⟨q, 1, none⟩ = some (.int .u8 a1) ∧ w2.cell? ⟨q, 2, none⟩ = some (.int .u8 a2) ∧ w2.cell? ⟨q, 3, none⟩ = some (.int .u8 a3) ∧ w2.cell? ⟨q, 4, none⟩ = some (.int .u8 a4) ∧ w2.cell? ⟨q, 5, none⟩ = some (.int .u8 a5) ∧ w2.cell? ⟨q, 6, none⟩ = some (.int .u8 a6) ∧ w2.cell? ⟨q, 7, none⟩ = some (.int .u8 a7) := ⟨hc1, cells8 hkd⟩
  clear t2 r2 hkd hrz hbk0 hb0 hz hzo hno0 hnl0 hpj hc1
  go_wp2_with fail
  go_region_held3 (fun w' => w'.cell? ⟨g, 1, none⟩ = some (.slice (some ⟨b0, 0, none⟩) N C0) ∧ w'.cell? ⟨q, 0, none⟩ = some (.int .u8 a0) ∧ w'.cell? ⟨q, 1, none⟩ = some (.int .u8 a1) ∧ w'.cell? ⟨q, 2, none⟩ = some (.int .u8 a2) ∧ w'.cell? ⟨q, 3, none⟩ = some (.int .u8 a3) ∧ w'.cell? ⟨q, 4, none⟩ = some (.int .u8 a4) ∧ w'.cell? ⟨q, 5, none⟩ = some (.int .u8 a5) ∧ w'.cell? ⟨q, 6, none⟩ = some (.int .u8 a6) ∧ w'.cell? ⟨q, 7, none⟩ = some (.int .u8 a7)) (first | (with_reducible exact hS3) | (with_reducible exact hS2) | (with_reducible exact hS) | go_keep)
    (first
      | (go_at_call 42; refine (low8 _ [a0, a1, a2, a3, a4, a5, a6, a7] HD.out).mono ?_; rintro e w5 ⟨o0, o1, o2, o3, o4, o5, o6, o7, rfl, ho, hb5⟩; have E5 : Hid (Below w2.heap.size w2 w5) := ((below_draws w2 _ 1).trans hb5); have hS2 : w5.cell? ⟨g, 1, none⟩ = some (.slice (some ⟨b0, 0, none⟩) N C0) ∧ w5.cell? ⟨q, 0, none⟩ = some (.int .u8 a0) ∧ w5.cell? ⟨q, 1, none⟩ = some (.int .u8 a1) ∧ w5.cell? ⟨q, 2, none⟩ = some (.int .u8 a2) ∧ w5.cell? ⟨q, 3, none⟩ = some (.int .u8 a3) ∧ w5.cell? ⟨q, 4, none⟩ = some (.int .u8 a4) ∧ w5.cell? ⟨q, 5, none⟩ = some (.int .u8 a5) ∧ w5.cell? ⟨q, 6, none⟩ = some (.int .u8 a6) ∧ w5.cell? ⟨q, 7, none⟩ = some (.int .u8 a7) := ⟨(E5.out.cell (p := ⟨g, 1, none⟩) hgl).trans HCELL.out, cells8 (HKD.out.later E5.out)⟩; have hG5 := only_put8at (only_below (only_refl w2 b0) E5.out) (i0 * 8) o0 o1 o2 o3 o4 o5 o6 o7; have hS3 := And.intro ((World.cell?_of_block (a := ⟨g, 1, none⟩) (hG5.block g hgl (by intro e; injection e with e; exact hne2 e))).trans HCELL.out) (cells8 (show DgAt _ q _ _ from Bk.grown HKD.out hG5 (by intro e; injection e with e; exact hneq e))); have HG5 := Lib.hid hG5; clear hG5; obtain ⟨zc0, zc1, zc2, zc3, zc4, zc5, zc6, zc7⟩ := range8 (range_below HRZ.out E5.out hbl0); have zf := Bk.frozen (HBK0.out.later E5.out); have zl := Bk.lt (HBK0.out.later E5.out); clear hb5))
  have hbk := Bk.put8at (HBK0.out.later E5.out) (i0 * 8) o0 o1 o2 o3 o4 o5 o6 o7
  have hbr := row_put HY0.out.1 HY0.out.2 HL0.out.1 HL0.out.2 o0 o1 o2 o3 o4 o5 o6 o7 hbk
  rw [← ho.out] at hbr
  have hG6 := HG5.out
  obtain ⟨w6, hw6⟩ : ∃ w6, ((((((((w5.setCell ⟨b0, i0 * 8, none⟩ (.int .u8 o0)).setCell ⟨b0, i0 * 8 + 1, none⟩ (.int .u8 o1)).setCell ⟨b0, i0 * 8 + 2, none⟩ (.int .u8 o2)).setCell ⟨b0, i0 * 8 + 3, none⟩ (.int .u8 o3)).setCell ⟨b0, i0 * 8 + 4, none⟩ (.int .u8 o4)).setCell ⟨b0, i0 * 8 + 5, none⟩ (.int .u8 o5)).setCell ⟨b0, i0 * 8 + 6, none⟩ (.int .u8 o6)).setCell ⟨b0, i0 * 8 + 7, none⟩ (.int .u8 o7)) = w6 := ⟨_, rfl⟩
  rw [hw6] at hG6 hbr
  rw [hw6]
  obtain ⟨leaf, hleaf⟩ : ∃ leaf, [a0, a1, a2, a3, a4, a5, a6, a7] = leaf := ⟨_, rfl⟩
  rw [hleaf] at HT2 hbr HD
  obtain ⟨ls', hls'⟩ : ∃ ls', ls.set i0 leaf = ls' := ⟨_, rfl⟩
  have HLA : Hid (ls.set i0 [a0, a1, a2, a3, a4, a5, a6, a7] = ls') := by show _ = _; rw [hleaf]; exact hls'
  have hlen' : ls'.length = ls.length := by rw [← hls', List.length_set]
  have hx0 : (ns 0).set i0 (lowI leaf) = levelI ls' h 0 := by
    have h1 := level_set ls i0 leaf h 0
    rw [Nat.pow_zero, Nat.div_one, hls', nodeI_zero, ← hls', List.getElem?_set_self hin, leafN, hls'] at h1
    rw [HAL.out 0 (by omega)]; exact h1
  rw [hx0] at hbr
  rw [hls'] at HT2
  have t6 := HT2.out.level (l := 0) (by omega) (w' := w6) (by rw [HB0.out]; exact hG6) (levelI ls' h 0) (levelI_ok _ _ _) (levelI_len _ _ _) (by rw [HB0.out]; exact hbr)
  have HT6 : Hid (∃ ns, TreeAt w6 lo hi T h (h + 1) ls' ns ∧ (∀ j, j ≤ 0 → ns j = levelI ls' h j) ∧ (∀ j, 0 < j → j ≤ h → ns j = levelI ls h j)) :=
    ⟨_, t6, fun j hj => by rw [show j = 0 by omega, updN_at], fun j hj hjh => (updN_far _ _ (by omega)).trans (HAL.out j hjh)⟩
  have HR6 := Lib.hid (HR2.out.trans (Rng.of_only hG6 (by rw [← HB0.out]; exact hlo.2.2 0 (by omega)) (by rw [← HB0.out]; exact hbh.2.2 0 (by omega))))
  have HHT := Lib.hid (hgt_any w6 lo hi T _ _ ls' _ t6)
  have hhh : heightI ls'.length = h := by rw [hlen']; exact HHI.out
  rw [hhh, HTG.out] at HHT
  have HLS' := Lib.hid hls'; have HHH := Lib.hid hhh
  have hi40 : i0 ≤ 4096 := by omega
  clear t6 hx0 hbk hbr hG6 HG5 HT2 HR2 HRZ HBK0 HCELL HB0 HL0 hS hS2 hS3 zc0 zc1 zc2 zc3 zc4 zc5 zc6 zc7 zf zl hw6 hls' hlen' hhh
  go_wp2_with (go_at_call 45; refine HHT.out.mono ?_; rintro e w7 ⟨rfl, rfl⟩)
  go_loopw [1, 34] (fun ks ms wr => ∃ (m k : Nat) (ns : Nat → List (List Int)), m ≤ h ∧ ks = .int .i64 k ∧ ms = .int .i64 m ∧ k ≤ 4096 ∧ Hid (k = i0 / 2 ^ m) ∧ Hid (TreeAt wr lo hi T h (h + 1) ls' ns) ∧ Hid (∀ j, j ≤ m → ns j = levelI ls' h j) ∧ Hid (∀ j, m < j → j ≤ h → ns j = levelI ls h j) ∧ Hid (Rng lo hi w wr)) (fun _ ms _ => h - (intOf ms).toNat)
  case atStart =>
    obtain ⟨ns, t, e1, e2⟩ := HT6.out
    exact ⟨0, i0, ns, by omega, rfl, rfl, hi40, by show _ = _; simp, t, e1, e2, HR6.out⟩
  case round =>
    obtain ⟨m, k, ns3, hm, rfl, rfl, hk, HK, HT, HN1, HN2, HR⟩ := hrel
    by_cases hlt : m < h
    · have hm1 : (m : Int) < h := by omega
      obtain ⟨q, hq⟩ : ∃ q, k / 2 = q := ⟨_, rfl⟩
      have hdv : (k : Int) / 2 = (q : Int) := by omega
      have hq4 : q ≤ 4096 := by omega
      have HQ : Hid (q = i0 / 2 ^ (m + 1)) := by
        show _ = _
        rw [← hq, HK.out, Nat.pow_succ, Nat.div_div_eq_div_mul]
      have hpow : 2 ^ (h - m) = 2 * 2 ^ (h - (m + 1)) := by rw [show h - m = (h - (m + 1)) + 1 by omega, Nat.pow_succ]; omega
      have hqb : q < 2 ^ (h - (m + 1)) := by
        rw [HQ.out, Nat.div_lt_iff_lt_mul (Nat.two_pow_pos (m + 1)), ← Nat.pow_add, show h - (m + 1) + (m + 1) = h by omega]
        omega
      obtain ⟨L, hL⟩ : ∃ L, m + 1 = L := ⟨_, rfl⟩
      have e1 : (m : Int) + 1 = (L : Int) := by omega
      have hj := join_any wr lo hi T h (h + 1) ls' ns3 HT.out m q (nodeI ls' m (2 * q)) (nodeI ls' m (2 * q + 1)) (by omega) hqb (by rw [HN1.out m (Nat.le_refl _)]; exact levelI_get _ _ _ _ (by omega)) (by rw [HN1.out m (Nat.le_refl _)]; exact levelI_get _ _ _ _ (by omega))
      rw [← nodeI_succ, HN2.out (m + 1) (by omega) (by omega), HQ.out] at hj
      rw [← HLS'.out, level_set, HLS'.out, ← HQ.out, hL, HTG.out] at hj
      have HJ := Lib.hid hj
      have HLL := Lib.hid hL
      clear hj hq hpow hqb hL
      go_wp2_with (go_at_call 43; refine HJ.out.mono ?_; rintro e w9 ⟨rfl, ht9, hg9⟩)
      have HT9 := Lib.hid ht9
      have HR9 := Lib.hid (HR.out.trans (Rng.of_only hg9 (HT.out.blo.2.2 L (by have := HLL.out; omega)) (HT.out.bhi.2.2 L (by have := HLL.out; omega))))
      clear ht9 hg9
      go_roundw
      case rel => exact ⟨L, q, _, by have := HLL.out; omega, rfl, rfl, hq4, by show _ = _; rw [HQ.out, HLL.out], HT9.out, fun j hj => by
                    have hLL := HLL.out
                    by_cases hjL : j = L
                    · rw [hjL, updN_at]
                    · rw [updN_far _ _ hjL]; exact HN1.out j (by omega), fun j hj hjh => by
                    have hLL := HLL.out
                    rw [updN_far _ _ (by omega)]; exact HN2.out j (by omega) hjh, HR9.out⟩
      case measure => have := HLL.out; simp [intOf]; omega
    · obtain rfl : m = h := by omega
      go_wp2_with fail
      go_ret
      rw [HLA.out]
      refine ⟨rfl, ⟨ns3, ?_, ?_⟩, HR.out⟩
      · rw [HHH.out]; exact HT.out
      · rw [HHH.out]; exact HN1.out
end Go.Proofs.YtimcjldehememaaDoor
