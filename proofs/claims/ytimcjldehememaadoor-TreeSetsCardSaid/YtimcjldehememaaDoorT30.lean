/- TreeSets: the walk. -/
import Derived.Test.YtimcjldehememaaDoorT31
namespace Go.Proofs.YtimcjldehememaaDoor
open Go.RowKit


theorem tLen_of (w : World) (lo hi : Nat) (T : Tr) (ls : List (List Int)) (t : TreeOf w lo hi T ls) :
    Calls Tryd.prog 27 #[.pointer (some ⟨T.g, 0, none⟩)] w fun e w' => e = .returned (.int .i64 (ls.length : Int)) ∧ w = w' := by
  obtain ⟨ns, t, _⟩ := t
  exact tLen_any w lo hi T _ _ ls ns t
theorem TreeOf.lohi {w : World} {lo hi : Nat} {T : Tr} {ls : List (List Int)} (t : TreeOf w lo hi T ls) : lo < hi := by
  obtain ⟨ns, t, _⟩ := t
  have := t.blo.1
  have := t.bhi.1
  omega

set_option maxRecDepth 20000 in
set_option maxHeartbeats 20000000 in
theorem law_TreeSets (w : World) (A : Option Addr) (n c : Nat) (vs : List Int) (A2 : Option Addr) (n2 c2 : Nat) (ps : List Int) (A3 : Option Addr) (n3 c3 : Nat) (us : List Int) (ho : U16 vs) (hs : Sl w w.heap.size 1 A n (vs.map (.int .u16)))
    (hs2 : Sl w w.heap.size 1 A2 n2 (ps.map (.int .i64))) (ho3 : U16 us) (hs3 : Sl w w.heap.size 1 A3 n3 (us.map (.int .u16))) :
    Calls Tryd.prog 8 #[.slice A n c, .slice A2 n2 c2, .slice A3 n3 c3] w fun e w' => e = .returned (.bool true) ∧ Below w.heap.size w w' := by
  have hn := hs.le
  have hvl : vs.length = n := hs.length
  have HS := Lib.hid hs; have HO := Lib.hid ho; have HVL := Lib.hid hvl; have HS2 := Lib.hid hs2; have HS3 := Lib.hid hs3; have HO3 := Lib.hid ho3
  clear hs ho hvl hs2 hs3 ho3
  go_enter Tryd.func8, Tryd.ntmps8
  go_wp2_with fail
  go_at_call 11
  refine (some_any _ A n c vs HO.out HS.out 20 (by decide)).mono ?_
  rintro e w1 ⟨⟨v, rfl, hown⟩, hb1⟩
  obtain ⟨m, hm, hm7⟩ : ∃ m, min 20 n = m ∧ m ≤ 20 := ⟨_, rfl, Nat.min_le_left _ _⟩
  have hlen : (someI vs 20).length = m := by rw [someI_len, HVL.out, hm]
  rw [hm] at hown
  have hdo := someI_ok HO.out 20
  obtain ⟨ls, hls⟩ : ∃ ls, someI vs 20 = ls := ⟨_, rfl⟩
  rw [hls] at hlen hdo hown
  have HB1 := Lib.hid hb1
  by_cases hm0 : 0 < m
  · obtain ⟨b1, c1, rfl, hgb, hgc⟩ := hown.form hm0
    have HSL := Lib.hid (Sl.of_own hown)
    have HROW := Lib.hid (own_row hown hlen)
    have HLN : Hid (ls.length = m ∧ DsOk ls) := ⟨hlen, hdo⟩
    have hm1 : decide (0 < m) = true := decide_eq_true hm0
    have hm2 : decide ((0 : Int) < m) = true := decide_eq_true (by omega)
    have hm3 : ¬ (m : Int) = 0 := by omega
    have hm4 : (0 : Int) < m := by omega
    have hm5 : IntKind.u64.wrap (m : Int) = m := by rw [IntKind.wrap_u64]; omega
    clear hown hlen hdo hb1 hls hm HS HO HVL
    go_wp2_with fail
    go_at_call 24
    refine (tNew_any _ _ m c1 ls HLN.out.2 HSL.out ⟨hm0, by omega⟩).mono ?_
    rintro e w2 ⟨T, hi, rfl, ht, hb2⟩
    obtain ⟨lo, hlo⟩ : ∃ lo, w1.heap.size = lo := ⟨_, rfl⟩
    rw [hlo] at ht hgc
    have HT2 := Lib.hid ht
    have HB2 := Lib.hid hb2
    have hlohi := ht.lohi
    have hbase : w.heap.size ≤ lo := by rw [← hlo]; exact HB1.out.size
    have HLO := Lib.hid hlo
    clear ht hb2 hlo
    go_wp2_with fail
    go_at_call 15
    refine (told_any _).mono ?_
    rintro e w3 ⟨rfl, hb3⟩
    have HT3 := Lib.hid (HT2.out.later hb3)
    have HB23 := Lib.hid (below_then HB2.out hb3)
    have HROW3 : Hid (RowAt w3 b1 c1 ls) := RowAt.to HROW.out (HB23.out.block b1 (by have := HLO.out; omega))
    have HB3 := Lib.hid (HB1.out.trans (HB23.out.mono HB1.out.size))
    have hb1lo := hgc
    have hbw1 := hgb
    clear hb3 HT2 HB2 HROW HSL
    go_upto_region 7 with fail
    go_cut [10] (fun v wx => v = .int .i64 0 ∧ w3 = wx)
    case first =>
      go_wp2_with fail
      go_meet
      go_light
      exact ⟨rfl, rfl⟩
    obtain ⟨rfl, hw3⟩ := hcut
    subst hw3
    refine ‹∀ (a : Act) (w : World), Code.wp _ _ _ a w → _› _ _ ?_
    go_cut [10, 11, 12, 13, 14, 15, 16] (fun a10 a11 a12 a13 a14 a15 a16 wx => ∃ (L : List (List Int)), Hid (L.length = m ∧ DsOk L) ∧ Hid (RowAt wx b1 c1 L) ∧ Hid (TreeOf wx lo hi T L) ∧ Hid (Below w.heap.size w wx))
    case first =>
      go_wp2_with fail
      go_loopw [10, 11, 12, 13, 14, 15, 16] (fun iv a11 a12 a13 a14 a15 a16 wr => ∃ (q : Nat) (L : List (List Int)), q ≤ 12 ∧ iv = .int .i64 q ∧ Hid (L.length = m ∧ DsOk L) ∧ Hid (RowAt wr b1 c1 L) ∧ Hid (TreeOf wr lo hi T L) ∧ Hid (Below w.heap.size w wr)) (fun iv _ _ _ _ _ _ _ => 12 - (intOf iv).toNat)
      case atStart => exact ⟨0, ls, by omega, rfl, HLN.out, HROW3.out, HT3.out, HB3.out⟩
      case round =>
        obtain ⟨q, ls', hq, rfl, HLS, HR, HT, HB⟩ := hrel
        by_cases h2 : q < n2
        · by_cases h3 : q < n3
          · by_cases h12 : q < 12
            · obtain ⟨b2, o2, rfl, hbb2, hcc2⟩ := HS2.out.spot (by omega) (by omega)
              obtain ⟨b3, o3, rfl, hbb3, hcc3⟩ := HS3.out.spot (by omega) (by omega)
              have hl2 : ps.length = n2 := HS2.out.length
              have hl3 : us.length = n3 := HS3.out.length
              obtain ⟨p, hp⟩ : ∃ p, ps[q]? = some p := ⟨ps[q]'(by omega), List.getElem?_eq_getElem _⟩
              obtain ⟨u, hu⟩ : ∃ u, us[q]? = some u := ⟨us[q]'(by omega), List.getElem?_eq_getElem _⟩
              have hcp : wr.cell? ⟨b2, o2 + q, none⟩ = some (.int .i64 p) := (HB.out.cell (p := ⟨b2, o2 + q, none⟩) hbb2).trans (hcc2 q _ (by rw [List.getElem?_map, hp]; rfl))
              have hcu : wr.cell? ⟨b3, o3 + q, none⟩ = some (.int .u16 u) := (HB.out.cell (p := ⟨b3, o3 + q, none⟩) hbb3).trans (hcc3 q _ (by rw [List.getElem?_map, hu]; rfl))
              have HU := Lib.hid (HO3.out u (List.mem_of_getElem? hu))
              have hsz := HB.out.size
              have hlt3 : b3 < wr.heap.size := by omega
              have hne3 : ¬ b3 = wr.heap.size := by omega
              have u0 : 0 ≤ u := HU.out.1
              have u1 : u < 65536 := HU.out.2
              have e1 : u / 256 < 256 := by omega
              have e0 : 0 ≤ u / 256 := by omega
              have v1 : IntKind.u8.wrap u = u % 256 := by rw [IntKind.wrap_u8]
              have v2 : IntKind.u16.wrap (u.tdiv 256) = u / 256 := by rw [Int.tdiv_eq_ediv_of_nonneg u0, IntKind.wrap_u16]; omega
              have v3 : IntKind.u8.wrap (u / 256) = u / 256 := by rw [IntKind.wrap_u8]; omega
              have i2 : (q : Int) < n2 := by omega
              have i3 : (q : Int) < n3 := by omega
              have i12 : (q : Int) < 12 := by omega
              have i0 : (0 : Int) ≤ q := by omega
              obtain ⟨r3, hr, hr3⟩ : ∃ r3 : Int, Int.tmod (q : Int) 3 = r3 ∧ 0 ≤ r3 := ⟨_, rfl, Int.tmod_nonneg _ (by omega)⟩
              clear hp hu hcc2 hcc3 hl2 hl3 hsz hbb2 hbb3
              by_cases hr0 : r3 = 0
              · subst hr0
                by_cases hpin : 0 ≤ p ∧ p < m
                · obtain ⟨j, rfl⟩ : ∃ j : Nat, p = j := ⟨p.toNat, by omega⟩
                  have hj0 : (0 : Int) ≤ j := by omega
                  have hjm : (j : Int) < m := hpin.2
                  have hjn : j < m := by omega
                  clear hpin
                  go_upto_region 13 with fail
                  go_region
                  obtain ⟨w4, hw4⟩ : ∃ w4, (wr.alloc (.cells #[.int .u8 (u % 256), .int .u8 (u / 256), .int .u8 4, .int .u8 0, .int .u8 0, .int .u8 0, .int .u8 0, .int .u8 0] 26)).drew = w4 := ⟨_, rfl⟩
                  obtain ⟨hx, hhx⟩ : ∃ hx, wr.heap.size = hx := ⟨_, rfl⟩
                  obtain ⟨x0, x1, x2, x3, x4, x5, x6, x7, hxl⟩ : ∃ x0 x1 x2 x3 x4 x5 x6 x7 : Int, leaf16 4 u = [x0, x1, x2, x3, x4, x5, x6, x7] := ⟨_, _, _, _, _, _, _, _, rfl⟩
                  have k4 : DgAt w4 hx 26 [x0, x1, x2, x3, x4, x5, x6, x7] := by rw [← hxl]; exact hw4 ▸ (Bk.at_ _ _ _ hhx rfl).drew
                  have hbw4 : Below wr.heap.size wr w4 := hw4 ▸ (below_new wr _).drew
                  have HXD : Hid (DgOk [x0, x1, x2, x3, x4, x5, x6, x7]) := by show DgOk _; rw [← hxl]; exact leaf16_ok (by omega) HU.out
                  have HKX := Lib.hid k4
                  have HR4 : Hid (RowAt w4 b1 c1 ls') := RowAt.to HR.out (hbw4.block b1 (RowAt.lt HR.out))
                  have HHX : Hid (hi ≤ hx) := by show _ ≤ _; rw [← hhx]; exact HT.out.hih
                  have HT4 := Lib.hid (HT.out.later hbw4)
                  have HB4 := Lib.hid (HB.out.trans (hbw4.mono HB.out.size))
                  obtain ⟨g0, g1, g2, g3, g4, g5, g6, g7⟩ := cells8 k4
                  rw [hw4, hhx]
                  clear hw4 hhx hxl k4 hbw4 HR HT HB hcu hlt3 hne3 e0 e1 u0 u1 v1 v2 v3
                  have hxx : Sl w4 w4.heap.size 8 (some ⟨b1, 0, none⟩) m (cellsD ls') := by
                    have := RowAt.sl HR4.out HLS.out.2 (by rw [HLS.out.1]; omega)
                    rw [HLS.out.1] at this
                    exact this
                  have hjl : j < ls'.length := by rw [HLS.out.1]; omega
                  obtain ⟨y, hy⟩ : ∃ y, ls'[j]? = some y := ⟨ls'[j]'hjl, List.getElem?_eq_getElem _⟩
                  have hyo := HLS.out.2 y (List.mem_of_getElem? hy)
                  obtain ⟨y0, y1, y2, y3, y4, y5, y6, y7, rfl⟩ := list8 y hyo.len
                  have hrg := sl_dg hxx HLS.out.2 hy
                  rw [Nat.zero_add] at hrg
                  have HRG4 := Lib.hid hrg
                  have HJL := Lib.hid hjl
                  clear hxx hy hyo hrg hjl
                  go_wp2_with fail
                  go_at_call 25
                  refine (tSet_any _ lo hi T ls' HT4.out j HJL.out [x0, x1, x2, x3, x4, x5, x6, x7] HXD.out).mono ?_
                  rintro e w5 ⟨rfl, ht5, hr5⟩
                  have hb45 : b1 < w4.heap.size := by have := RowAt.lt HR4.out; exact this
                  obtain ⟨ys, hyb, hyl, hyt⟩ := RowAt.to HR4.out (hr5.block b1 hb45 (.inl hb1lo))
                  have hrg := hr5.row (.inl hb1lo) hb45 HRG4.out
                  obtain ⟨zc0, zc1, zc2, zc3, zc4, zc5, zc6, zc7⟩ := range8 hrg
                  have zf := Bk.frozen hyb
                  have kx5 := hr5.bk (.inr HHX.out) HKX.out
                  obtain ⟨f0, f1, f2, f3, f4, f5, f6, f7⟩ := cells8 kx5
                  have hnex : ¬ hx = b1 := by have := HHX.out; have := hlohi; omega
                  have HT5 := Lib.hid ht5
                  have HYB : Hid (Bk w5 b1 26 ys ∧ ys.length = c1 * 8 ∧ ys.take (ls'.length * 8) = cellsD ls') := ⟨hyb, hyl, hyt⟩
                  have HB5 := Lib.hid (hr5.below HB4.out hbase (by have := HB4.out.size; omega))
                  clear ht5 hr5 hyb hyl hyt hrg HRG4 HR4 HT4 HB4 HKX kx5
                  go_upto_region 20 with fail
                  obtain ⟨w6, hw6⟩ : ∃ w6, ((((((((w5.setCell ⟨b1, j * 8, none⟩ (.int .u8 x0)).setCell ⟨b1, j * 8 + 1, none⟩ (.int .u8 x1)).setCell ⟨b1, j * 8 + 2, none⟩ (.int .u8 x2)).setCell ⟨b1, j * 8 + 3, none⟩ (.int .u8 x3)).setCell ⟨b1, j * 8 + 4, none⟩ (.int .u8 x4)).setCell ⟨b1, j * 8 + 5, none⟩ (.int .u8 x5)).setCell ⟨b1, j * 8 + 6, none⟩ (.int .u8 x6)).setCell ⟨b1, j * 8 + 7, none⟩ (.int .u8 x7)) = w6 := ⟨_, rfl⟩
                  have hgr := only_put8at (only_refl w5 b1) (j * 8) x0 x1 x2 x3 x4 x5 x6 x7
                  have hbk := Bk.put8at HYB.out.1 (j * 8) x0 x1 x2 x3 x4 x5 x6 x7
                  rw [hw6] at hgr hbk
                  have hrow := row_put HYB.out.2.1 HYB.out.2.2 HLS.out.2 HJL.out x0 x1 x2 x3 x4 x5 x6 x7 hbk
                  obtain ⟨L, hL⟩ : ∃ L, ls'.set j [x0, x1, x2, x3, x4, x5, x6, x7] = L := ⟨_, rfl⟩
                  rw [hL] at hrow
                  have HROW := Lib.hid hrow
                  have HLN : Hid (L.length = m ∧ DsOk L) := ⟨by rw [← hL, List.length_set]; exact HLS.out.1, by rw [← hL]; exact set_ok HLS.out.2 _ HXD.out⟩
                  have HTR : Hid (TreeOf w6 lo hi T L) := by
                    have ht := HT5.out
                    rw [hL] at ht
                    exact ht.keep hgr.size fun b hb1 hb2 => hgr.block b (Nat.lt_of_lt_of_le hb2 ht.hih) (by intro e; injection e with e; omega)
                  have HBZ := Lib.hid (below_only HB5.out hgr HB5.out.size hbw1)
                  rw [hw6]
                  clear hw6 hgr hbk hrow hL HYB HT5 HB5 zc0 zc1 zc2 zc3 zc4 zc5 zc6 zc7 zf f0 f1 f2 f3 f4 f5 f6 f7 HJL
                  have hslz := RowAt.sl HROW.out HLN.out.2 (by rw [HLN.out.1]; omega)
                  rw [HLN.out.1] at hslz
                  have HSLZ := Lib.hid hslz
                  have hbz := RowAt.lt HROW.out
                  clear hslz
                  go_wp2_with fail
                  go_at_call 14
                  refine (plain_any _ _ m c1 L HLN.out.2 HSLZ.out (by omega)).mono ?_
                  rintro e x1 ⟨⟨v, rfl, hown⟩, hx1⟩
                  obtain ⟨B5, c5, rfl⟩ := own_form hown
                  have HSP := Lib.hid (Sl.of_own hown)
                  have HX1 := Lib.hid hx1
                  clear hown hx1
                  go_wp2_with fail
                  go_at_call 13
                  refine (rRoot_any _ B5 m c5 L HLN.out.2 HSP.out).mono ?_
                  rintro e x2 ⟨rfl, hx2⟩
                  obtain ⟨r0, r1, r2, r3, r4, r5, r6, r7, hrr⟩ := list8 (rootI L) (rootI_ok _).len
                  have HR := Lib.hid hrr
                  rw [hrr, show dgA [r0, r1, r2, r3, r4, r5, r6, r7] = #[.int .u8 r0, .int .u8 r1, .int .u8 r2, .int .u8 r3, .int .u8 r4, .int .u8 r5, .int .u8 r6, .int .u8 r7] from rfl]
                  have HX2 := Lib.hid (below_then HX1.out hx2)
                  clear hx2 hrr HSP HX1
                  go_upto_region 21 with fail
                  obtain ⟨x3, hx3⟩ : ∃ x3, x2.alloc (.cells #[.int .u8 r0, .int .u8 r1, .int .u8 r2, .int .u8 r3, .int .u8 r4, .int .u8 r5, .int .u8 r6, .int .u8 r7] 25) = x3 := ⟨_, rfl⟩
                  obtain ⟨h, hh⟩ : ∃ h, x2.heap.size = h := ⟨_, rfl⟩
                  have k3 : DgAt x3 h 25 [r0, r1, r2, r3, r4, r5, r6, r7] := hx3 ▸ Bk.at_ _ _ _ hh rfl
                  have hb3 := below_then HX2.out (hx3 ▸ below_new x2 _)
                  have HK3 := Lib.hid k3
                  have HX3 := Lib.hid hb3
                  have HTR3 := Lib.hid (HTR.out.later hb3)
                  rw [hx3, hh]
                  clear hx3 hh k3 hb3 HX2
                  have hS3 := cells_one HK3.out (Below.refl _ _)
                  have heq1 : ∀ W, (Op.equalIn 10000 26 (.agg #[.int .u8 r0, .int .u8 r1, .int .u8 r2, .int .u8 r3, .int .u8 r4, .int .u8 r5, .int .u8 r6, .int .u8 r7]) (.agg #[.int .u8 r0, .int .u8 r1, .int .u8 r2, .int .u8 r3, .int .u8 r4, .int .u8 r5, .int .u8 r6, .int .u8 r7])).run Tryd.prog W = .ok true W := fun W => (dg_equal r0 r1 r2 r3 r4 r5 r6 r7 r0 r1 r2 r3 r4 r5 r6 r7 W).trans (by rw [eqL_self])
                  go_region_held3 (fun w' => w'.cell? ⟨h, 0, none⟩ = some (.int .u8 r0) ∧ w'.cell? ⟨h, 1, none⟩ = some (.int .u8 r1) ∧ w'.cell? ⟨h, 2, none⟩ = some (.int .u8 r2) ∧ w'.cell? ⟨h, 3, none⟩ = some (.int .u8 r3) ∧ w'.cell? ⟨h, 4, none⟩ = some (.int .u8 r4) ∧ w'.cell? ⟨h, 5, none⟩ = some (.int .u8 r5) ∧ w'.cell? ⟨h, 6, none⟩ = some (.int .u8 r6) ∧ w'.cell? ⟨h, 7, none⟩ = some (.int .u8 r7)) (first | (with_reducible exact hS4) | (with_reducible exact hS3) | go_keep)
                    (first
                      | (go_at_call 26; refine (tRoot_any _ lo hi T L (HTR3.out.later (below_draws x3 _ 1))).mono ?_; rintro e x4 ⟨rfl, hx4⟩; rw [HR.out, show dgA [r0, r1, r2, r3, r4, r5, r6, r7] = #[.int .u8 r0, .int .u8 r1, .int .u8 r2, .int .u8 r3, .int .u8 r4, .int .u8 r5, .int .u8 r6, .int .u8 r7] from rfl]; have HX4 : Hid (Below x3.heap.size x3 x4) := ((below_draws x3 _ 1).trans hx4); have hS4 := cells_one HK3.out HX4.out; clear hx4)
                      | (go_at_call 27; refine (tLen_of _ lo hi T L (HTR3.out.later HX4.out)).mono ?_; rintro e x5 ⟨rfl, rfl⟩; rw [HLN.out.1]))
                  have HZ4 := Lib.hid (below_then HX3.out HX4.out)
                  clear hS3 hS4 heq1
                  go_wp2_with fail
                  exact ⟨⟨q + 1, L, by omega, by go_num, HLN.out, RowAt.to HROW.out (HZ4.out.block b1 hbz), HTR.out.later HZ4.out, HBZ.out.trans (HZ4.out.mono HBZ.out.size)⟩, by simp [intOf]; omega⟩
                · by_cases hp0 : 0 ≤ p
                  · have hpm : ¬ p < m := fun h => hpin ⟨hp0, h⟩
                    have hpm' : decide (p < m) = false := decide_eq_false hpm
                    have hnin : ¬ (0 ≤ p ∧ p < m) := hpin
                    have HNIN := Lib.hid hnin
                    clear hpin hnin
                    go_upto_region 13 with fail
                    go_region
                    obtain ⟨w4, hw4⟩ : ∃ w4, (wr.alloc (.cells #[.int .u8 (u % 256), .int .u8 (u / 256), .int .u8 4, .int .u8 0, .int .u8 0, .int .u8 0, .int .u8 0, .int .u8 0] 26)).drew = w4 := ⟨_, rfl⟩
                    obtain ⟨hx, hhx⟩ : ∃ hx, wr.heap.size = hx := ⟨_, rfl⟩
                    obtain ⟨x0, x1, x2, x3, x4, x5, x6, x7, hxl⟩ : ∃ x0 x1 x2 x3 x4 x5 x6 x7 : Int, leaf16 4 u = [x0, x1, x2, x3, x4, x5, x6, x7] := ⟨_, _, _, _, _, _, _, _, rfl⟩
                    have k4 : DgAt w4 hx 26 [x0, x1, x2, x3, x4, x5, x6, x7] := by rw [← hxl]; exact hw4 ▸ (Bk.at_ _ _ _ hhx rfl).drew
                    have hbw4 : Below wr.heap.size wr w4 := hw4 ▸ (below_new wr _).drew
                    have HXD : Hid (DgOk [x0, x1, x2, x3, x4, x5, x6, x7]) := by show DgOk _; rw [← hxl]; exact leaf16_ok (by omega) HU.out
                    have HKX := Lib.hid k4
                    have HR4 : Hid (RowAt w4 b1 c1 ls') := RowAt.to HR.out (hbw4.block b1 (RowAt.lt HR.out))
                    have HHX : Hid (hi ≤ hx) := by show _ ≤ _; rw [← hhx]; exact HT.out.hih
                    have HT4 := Lib.hid (HT.out.later hbw4)
                    have HB4 := Lib.hid (HB.out.trans (hbw4.mono HB.out.size))
                    obtain ⟨g0, g1, g2, g3, g4, g5, g6, g7⟩ := cells8 k4
                    rw [hw4, hhx]
                    clear hw4 hhx hxl k4 hbw4 HR HT HB hcu hlt3 hne3 e0 e1 u0 u1 v1 v2 v3
                    go_wp2_with fail
                    go_at_call 25
                    refine (tSet_not _ lo hi T ls' HT4.out p (by rw [HLS.out.1]; exact HNIN.out) [x0, x1, x2, x3, x4, x5, x6, x7] HXD.out).mono ?_
                    rintro e w5 ⟨rfl, hb5⟩
                    obtain ⟨L, hL⟩ : ∃ L, ls' = L := ⟨_, rfl⟩
                    have HROW : Hid (RowAt w5 b1 c1 L) := by show RowAt _ _ _ _; rw [← hL]; exact RowAt.to HR4.out (hb5.block b1 (RowAt.lt HR4.out))
                    have HLN : Hid (L.length = m ∧ DsOk L) := by show _ ∧ _; rw [← hL]; exact HLS.out
                    have HTR : Hid (TreeOf w5 lo hi T L) := by show TreeOf _ _ _ _ _; rw [← hL]; exact HT4.out.later hb5
                    have HBZ := Lib.hid (HB4.out.trans (hb5.mono HB4.out.size))
                    clear hb5 HR4 HT4 HB4 HKX
                    go_upto_region 20 with fail
                    have hslz := RowAt.sl HROW.out HLN.out.2 (by rw [HLN.out.1]; omega)
                    rw [HLN.out.1] at hslz
                    have HSLZ := Lib.hid hslz
                    have hbz := RowAt.lt HROW.out
                    clear hslz
                    go_wp2_with fail
                    go_at_call 14
                    refine (plain_any _ _ m c1 L HLN.out.2 HSLZ.out (by omega)).mono ?_
                    rintro e x1 ⟨⟨v, rfl, hown⟩, hx1⟩
                    obtain ⟨B5, c5, rfl⟩ := own_form hown
                    have HSP := Lib.hid (Sl.of_own hown)
                    have HX1 := Lib.hid hx1
                    clear hown hx1
                    go_wp2_with fail
                    go_at_call 13
                    refine (rRoot_any _ B5 m c5 L HLN.out.2 HSP.out).mono ?_
                    rintro e x2 ⟨rfl, hx2⟩
                    obtain ⟨r0, r1, r2, r3, r4, r5, r6, r7, hrr⟩ := list8 (rootI L) (rootI_ok _).len
                    have HR := Lib.hid hrr
                    rw [hrr, show dgA [r0, r1, r2, r3, r4, r5, r6, r7] = #[.int .u8 r0, .int .u8 r1, .int .u8 r2, .int .u8 r3, .int .u8 r4, .int .u8 r5, .int .u8 r6, .int .u8 r7] from rfl]
                    have HX2 := Lib.hid (below_then HX1.out hx2)
                    clear hx2 hrr HSP HX1
                    go_upto_region 21 with fail
                    obtain ⟨x3, hx3⟩ : ∃ x3, x2.alloc (.cells #[.int .u8 r0, .int .u8 r1, .int .u8 r2, .int .u8 r3, .int .u8 r4, .int .u8 r5, .int .u8 r6, .int .u8 r7] 25) = x3 := ⟨_, rfl⟩
                    obtain ⟨h, hh⟩ : ∃ h, x2.heap.size = h := ⟨_, rfl⟩
                    have k3 : DgAt x3 h 25 [r0, r1, r2, r3, r4, r5, r6, r7] := hx3 ▸ Bk.at_ _ _ _ hh rfl
                    have hb3 := below_then HX2.out (hx3 ▸ below_new x2 _)
                    have HK3 := Lib.hid k3
                    have HX3 := Lib.hid hb3
                    have HTR3 := Lib.hid (HTR.out.later hb3)
                    rw [hx3, hh]
                    clear hx3 hh k3 hb3 HX2
                    have hS3 := cells_one HK3.out (Below.refl _ _)
                    have heq1 : ∀ W, (Op.equalIn 10000 26 (.agg #[.int .u8 r0, .int .u8 r1, .int .u8 r2, .int .u8 r3, .int .u8 r4, .int .u8 r5, .int .u8 r6, .int .u8 r7]) (.agg #[.int .u8 r0, .int .u8 r1, .int .u8 r2, .int .u8 r3, .int .u8 r4, .int .u8 r5, .int .u8 r6, .int .u8 r7])).run Tryd.prog W = .ok true W := fun W => (dg_equal r0 r1 r2 r3 r4 r5 r6 r7 r0 r1 r2 r3 r4 r5 r6 r7 W).trans (by rw [eqL_self])
                    go_region_held3 (fun w' => w'.cell? ⟨h, 0, none⟩ = some (.int .u8 r0) ∧ w'.cell? ⟨h, 1, none⟩ = some (.int .u8 r1) ∧ w'.cell? ⟨h, 2, none⟩ = some (.int .u8 r2) ∧ w'.cell? ⟨h, 3, none⟩ = some (.int .u8 r3) ∧ w'.cell? ⟨h, 4, none⟩ = some (.int .u8 r4) ∧ w'.cell? ⟨h, 5, none⟩ = some (.int .u8 r5) ∧ w'.cell? ⟨h, 6, none⟩ = some (.int .u8 r6) ∧ w'.cell? ⟨h, 7, none⟩ = some (.int .u8 r7)) (first | (with_reducible exact hS4) | (with_reducible exact hS3) | go_keep)
                      (first
                        | (go_at_call 26; refine (tRoot_any _ lo hi T L (HTR3.out.later (below_draws x3 _ 1))).mono ?_; rintro e x4 ⟨rfl, hx4⟩; rw [HR.out, show dgA [r0, r1, r2, r3, r4, r5, r6, r7] = #[.int .u8 r0, .int .u8 r1, .int .u8 r2, .int .u8 r3, .int .u8 r4, .int .u8 r5, .int .u8 r6, .int .u8 r7] from rfl]; have HX4 : Hid (Below x3.heap.size x3 x4) := ((below_draws x3 _ 1).trans hx4); have hS4 := cells_one HK3.out HX4.out; clear hx4)
                        | (go_at_call 27; refine (tLen_of _ lo hi T L (HTR3.out.later HX4.out)).mono ?_; rintro e x5 ⟨rfl, rfl⟩; rw [HLN.out.1]))
                    have HZ4 := Lib.hid (below_then HX3.out HX4.out)
                    clear hS3 hS4 heq1
                    go_wp2_with fail
                    exact ⟨⟨q + 1, L, by omega, by go_num, HLN.out, RowAt.to HROW.out (HZ4.out.block b1 hbz), HTR.out.later HZ4.out, HBZ.out.trans (HZ4.out.mono HBZ.out.size)⟩, by simp [intOf]; omega⟩
                  · have hp0' : decide (0 ≤ p) = false := decide_eq_false hp0
                    have hnin : ¬ (0 ≤ p ∧ p < m) := hpin
                    have HNIN := Lib.hid hnin
                    clear hpin hnin
                    go_upto_region 13 with fail
                    go_region
                    obtain ⟨w4, hw4⟩ : ∃ w4, (wr.alloc (.cells #[.int .u8 (u % 256), .int .u8 (u / 256), .int .u8 4, .int .u8 0, .int .u8 0, .int .u8 0, .int .u8 0, .int .u8 0] 26)).drew = w4 := ⟨_, rfl⟩
                    obtain ⟨hx, hhx⟩ : ∃ hx, wr.heap.size = hx := ⟨_, rfl⟩
                    obtain ⟨x0, x1, x2, x3, x4, x5, x6, x7, hxl⟩ : ∃ x0 x1 x2 x3 x4 x5 x6 x7 : Int, leaf16 4 u = [x0, x1, x2, x3, x4, x5, x6, x7] := ⟨_, _, _, _, _, _, _, _, rfl⟩
                    have k4 : DgAt w4 hx 26 [x0, x1, x2, x3, x4, x5, x6, x7] := by rw [← hxl]; exact hw4 ▸ (Bk.at_ _ _ _ hhx rfl).drew
                    have hbw4 : Below wr.heap.size wr w4 := hw4 ▸ (below_new wr _).drew
                    have HXD : Hid (DgOk [x0, x1, x2, x3, x4, x5, x6, x7]) := by show DgOk _; rw [← hxl]; exact leaf16_ok (by omega) HU.out
                    have HKX := Lib.hid k4
                    have HR4 : Hid (RowAt w4 b1 c1 ls') := RowAt.to HR.out (hbw4.block b1 (RowAt.lt HR.out))
                    have HHX : Hid (hi ≤ hx) := by show _ ≤ _; rw [← hhx]; exact HT.out.hih
                    have HT4 := Lib.hid (HT.out.later hbw4)
                    have HB4 := Lib.hid (HB.out.trans (hbw4.mono HB.out.size))
                    obtain ⟨g0, g1, g2, g3, g4, g5, g6, g7⟩ := cells8 k4
                    rw [hw4, hhx]
                    clear hw4 hhx hxl k4 hbw4 HR HT HB hcu hlt3 hne3 e0 e1 u0 u1 v1 v2 v3
                    go_wp2_with fail
                    go_at_call 25
                    refine (tSet_not _ lo hi T ls' HT4.out p (by rw [HLS.out.1]; exact HNIN.out) [x0, x1, x2, x3, x4, x5, x6, x7] HXD.out).mono ?_
                    rintro e w5 ⟨rfl, hb5⟩
                    obtain ⟨L, hL⟩ : ∃ L, ls' = L := ⟨_, rfl⟩
                    have HROW : Hid (RowAt w5 b1 c1 L) := by show RowAt _ _ _ _; rw [← hL]; exact RowAt.to HR4.out (hb5.block b1 (RowAt.lt HR4.out))
                    have HLN : Hid (L.length = m ∧ DsOk L) := by show _ ∧ _; rw [← hL]; exact HLS.out
                    have HTR : Hid (TreeOf w5 lo hi T L) := by show TreeOf _ _ _ _ _; rw [← hL]; exact HT4.out.later hb5
                    have HBZ := Lib.hid (HB4.out.trans (hb5.mono HB4.out.size))
                    clear hb5 HR4 HT4 HB4 HKX
                    go_upto_region 20 with fail
                    have hslz := RowAt.sl HROW.out HLN.out.2 (by rw [HLN.out.1]; omega)
                    rw [HLN.out.1] at hslz
                    have HSLZ := Lib.hid hslz
                    have hbz := RowAt.lt HROW.out
                    clear hslz
                    go_wp2_with fail
                    go_at_call 14
                    refine (plain_any _ _ m c1 L HLN.out.2 HSLZ.out (by omega)).mono ?_
                    rintro e x1 ⟨⟨v, rfl, hown⟩, hx1⟩
                    obtain ⟨B5, c5, rfl⟩ := own_form hown
                    have HSP := Lib.hid (Sl.of_own hown)
                    have HX1 := Lib.hid hx1
                    clear hown hx1
                    go_wp2_with fail
                    go_at_call 13
                    refine (rRoot_any _ B5 m c5 L HLN.out.2 HSP.out).mono ?_
                    rintro e x2 ⟨rfl, hx2⟩
                    obtain ⟨r0, r1, r2, r3, r4, r5, r6, r7, hrr⟩ := list8 (rootI L) (rootI_ok _).len
                    have HR := Lib.hid hrr
                    rw [hrr, show dgA [r0, r1, r2, r3, r4, r5, r6, r7] = #[.int .u8 r0, .int .u8 r1, .int .u8 r2, .int .u8 r3, .int .u8 r4, .int .u8 r5, .int .u8 r6, .int .u8 r7] from rfl]
                    have HX2 := Lib.hid (below_then HX1.out hx2)
                    clear hx2 hrr HSP HX1
                    go_upto_region 21 with fail
                    obtain ⟨x3, hx3⟩ : ∃ x3, x2.alloc (.cells #[.int .u8 r0, .int .u8 r1, .int .u8 r2, .int .u8 r3, .int .u8 r4, .int .u8 r5, .int .u8 r6, .int .u8 r7] 25) = x3 := ⟨_, rfl⟩
                    obtain ⟨h, hh⟩ : ∃ h, x2.heap.size = h := ⟨_, rfl⟩
                    have k3 : DgAt x3 h 25 [r0, r1, r2, r3, r4, r5, r6, r7] := hx3 ▸ Bk.at_ _ _ _ hh rfl
                    have hb3 := below_then HX2.out (hx3 ▸ below_new x2 _)
                    have HK3 := Lib.hid k3
                    have HX3 := Lib.hid hb3
                    have HTR3 := Lib.hid (HTR.out.later hb3)
                    rw [hx3, hh]
                    clear hx3 hh k3 hb3 HX2
                    have hS3 := cells_one HK3.out (Below.refl _ _)
                    have heq1 : ∀ W, (Op.equalIn 10000 26 (.agg #[.int .u8 r0, .int .u8 r1, .int .u8 r2, .int .u8 r3, .int .u8 r4, .int .u8 r5, .int .u8 r6, .int .u8 r7]) (.agg #[.int .u8 r0, .int .u8 r1, .int .u8 r2, .int .u8 r3, .int .u8 r4, .int .u8 r5, .int .u8 r6, .int .u8 r7])).run Tryd.prog W = .ok true W := fun W => (dg_equal r0 r1 r2 r3 r4 r5 r6 r7 r0 r1 r2 r3 r4 r5 r6 r7 W).trans (by rw [eqL_self])
                    go_region_held3 (fun w' => w'.cell? ⟨h, 0, none⟩ = some (.int .u8 r0) ∧ w'.cell? ⟨h, 1, none⟩ = some (.int .u8 r1) ∧ w'.cell? ⟨h, 2, none⟩ = some (.int .u8 r2) ∧ w'.cell? ⟨h, 3, none⟩ = some (.int .u8 r3) ∧ w'.cell? ⟨h, 4, none⟩ = some (.int .u8 r4) ∧ w'.cell? ⟨h, 5, none⟩ = some (.int .u8 r5) ∧ w'.cell? ⟨h, 6, none⟩ = some (.int .u8 r6) ∧ w'.cell? ⟨h, 7, none⟩ = some (.int .u8 r7)) (first | (with_reducible exact hS4) | (with_reducible exact hS3) | go_keep)
                      (first
                        | (go_at_call 26; refine (tRoot_any _ lo hi T L (HTR3.out.later (below_draws x3 _ 1))).mono ?_; rintro e x4 ⟨rfl, hx4⟩; rw [HR.out, show dgA [r0, r1, r2, r3, r4, r5, r6, r7] = #[.int .u8 r0, .int .u8 r1, .int .u8 r2, .int .u8 r3, .int .u8 r4, .int .u8 r5, .int .u8 r6, .int .u8 r7] from rfl]; have HX4 : Hid (Below x3.heap.size x3 x4) := ((below_draws x3 _ 1).trans hx4); have hS4 := cells_one HK3.out HX4.out; clear hx4)
                        | (go_at_call 27; refine (tLen_of _ lo hi T L (HTR3.out.later HX4.out)).mono ?_; rintro e x5 ⟨rfl, rfl⟩; rw [HLN.out.1]))
                    have HZ4 := Lib.hid (below_then HX3.out HX4.out)
                    clear hS3 hS4 heq1
                    go_wp2_with fail
                    exact ⟨⟨q + 1, L, by omega, by go_num, HLN.out, RowAt.to HROW.out (HZ4.out.block b1 hbz), HTR.out.later HZ4.out, HBZ.out.trans (HZ4.out.mono HBZ.out.size)⟩, by simp [intOf]; omega⟩
              · obtain ⟨j, hj, hjn⟩ := rem_at (IntKind.u64.wrap p) m (by rw [IntKind.wrap_u64]; omega) hm0
                have hj5 : IntKind.u64.wrap (j : Int) = j := by rw [IntKind.wrap_u64]; omega
                have hj6 : IntKind.i64.wrap (j : Int) = j := by rw [IntKind.wrap_i64]; omega
                have hr1 : (r3 == 0) = false := by simp; omega
                have hj0 : (0 : Int) ≤ j := by omega
                have hjm : (j : Int) < m := by omega
                go_upto_region 13 with fail
                go_region
                obtain ⟨w4, hw4⟩ : ∃ w4, (wr.alloc (.cells #[.int .u8 (u % 256), .int .u8 (u / 256), .int .u8 4, .int .u8 0, .int .u8 0, .int .u8 0, .int .u8 0, .int .u8 0] 26)).drew = w4 := ⟨_, rfl⟩
                obtain ⟨hx, hhx⟩ : ∃ hx, wr.heap.size = hx := ⟨_, rfl⟩
                obtain ⟨x0, x1, x2, x3, x4, x5, x6, x7, hxl⟩ : ∃ x0 x1 x2 x3 x4 x5 x6 x7 : Int, leaf16 4 u = [x0, x1, x2, x3, x4, x5, x6, x7] := ⟨_, _, _, _, _, _, _, _, rfl⟩
                have k4 : DgAt w4 hx 26 [x0, x1, x2, x3, x4, x5, x6, x7] := by rw [← hxl]; exact hw4 ▸ (Bk.at_ _ _ _ hhx rfl).drew
                have hbw4 : Below wr.heap.size wr w4 := hw4 ▸ (below_new wr _).drew
                have HXD : Hid (DgOk [x0, x1, x2, x3, x4, x5, x6, x7]) := by show DgOk _; rw [← hxl]; exact leaf16_ok (by omega) HU.out
                have HKX := Lib.hid k4
                have HR4 : Hid (RowAt w4 b1 c1 ls') := RowAt.to HR.out (hbw4.block b1 (RowAt.lt HR.out))
                have HHX : Hid (hi ≤ hx) := by show _ ≤ _; rw [← hhx]; exact HT.out.hih
                have HT4 := Lib.hid (HT.out.later hbw4)
                have HB4 := Lib.hid (HB.out.trans (hbw4.mono HB.out.size))
                obtain ⟨g0, g1, g2, g3, g4, g5, g6, g7⟩ := cells8 k4
                rw [hw4, hhx]
                clear hw4 hhx hxl k4 hbw4 HR HT HB hcu hlt3 hne3 e0 e1 u0 u1 v1 v2 v3
                have hxx : Sl w4 w4.heap.size 8 (some ⟨b1, 0, none⟩) m (cellsD ls') := by
                  have := RowAt.sl HR4.out HLS.out.2 (by rw [HLS.out.1]; omega)
                  rw [HLS.out.1] at this
                  exact this
                have hjl : j < ls'.length := by rw [HLS.out.1]; omega
                obtain ⟨y, hy⟩ : ∃ y, ls'[j]? = some y := ⟨ls'[j]'hjl, List.getElem?_eq_getElem _⟩
                have hyo := HLS.out.2 y (List.mem_of_getElem? hy)
                obtain ⟨y0, y1, y2, y3, y4, y5, y6, y7, rfl⟩ := list8 y hyo.len
                have hrg := sl_dg hxx HLS.out.2 hy
                rw [Nat.zero_add] at hrg
                have HRG4 := Lib.hid hrg
                have HJL := Lib.hid hjl
                clear hxx hy hyo hrg hjl
                go_wp2_with fail
                go_at_call 25
                refine (tSet_any _ lo hi T ls' HT4.out j HJL.out [x0, x1, x2, x3, x4, x5, x6, x7] HXD.out).mono ?_
                rintro e w5 ⟨rfl, ht5, hr5⟩
                have hb45 : b1 < w4.heap.size := by have := RowAt.lt HR4.out; exact this
                obtain ⟨ys, hyb, hyl, hyt⟩ := RowAt.to HR4.out (hr5.block b1 hb45 (.inl hb1lo))
                have hrg := hr5.row (.inl hb1lo) hb45 HRG4.out
                obtain ⟨zc0, zc1, zc2, zc3, zc4, zc5, zc6, zc7⟩ := range8 hrg
                have zf := Bk.frozen hyb
                have kx5 := hr5.bk (.inr HHX.out) HKX.out
                obtain ⟨f0, f1, f2, f3, f4, f5, f6, f7⟩ := cells8 kx5
                have hnex : ¬ hx = b1 := by have := HHX.out; have := hlohi; omega
                have HT5 := Lib.hid ht5
                have HYB : Hid (Bk w5 b1 26 ys ∧ ys.length = c1 * 8 ∧ ys.take (ls'.length * 8) = cellsD ls') := ⟨hyb, hyl, hyt⟩
                have HB5 := Lib.hid (hr5.below HB4.out hbase (by have := HB4.out.size; omega))
                clear ht5 hr5 hyb hyl hyt hrg HRG4 HR4 HT4 HB4 HKX kx5
                go_upto_region 20 with fail
                obtain ⟨w6, hw6⟩ : ∃ w6, ((((((((w5.setCell ⟨b1, j * 8, none⟩ (.int .u8 x0)).setCell ⟨b1, j * 8 + 1, none⟩ (.int .u8 x1)).setCell ⟨b1, j * 8 + 2, none⟩ (.int .u8 x2)).setCell ⟨b1, j * 8 + 3, none⟩ (.int .u8 x3)).setCell ⟨b1, j * 8 + 4, none⟩ (.int .u8 x4)).setCell ⟨b1, j * 8 + 5, none⟩ (.int .u8 x5)).setCell ⟨b1, j * 8 + 6, none⟩ (.int .u8 x6)).setCell ⟨b1, j * 8 + 7, none⟩ (.int .u8 x7)) = w6 := ⟨_, rfl⟩
                have hgr := only_put8at (only_refl w5 b1) (j * 8) x0 x1 x2 x3 x4 x5 x6 x7
                have hbk := Bk.put8at HYB.out.1 (j * 8) x0 x1 x2 x3 x4 x5 x6 x7
                rw [hw6] at hgr hbk
                have hrow := row_put HYB.out.2.1 HYB.out.2.2 HLS.out.2 HJL.out x0 x1 x2 x3 x4 x5 x6 x7 hbk
                obtain ⟨L, hL⟩ : ∃ L, ls'.set j [x0, x1, x2, x3, x4, x5, x6, x7] = L := ⟨_, rfl⟩
                rw [hL] at hrow
                have HROW := Lib.hid hrow
                have HLN : Hid (L.length = m ∧ DsOk L) := ⟨by rw [← hL, List.length_set]; exact HLS.out.1, by rw [← hL]; exact set_ok HLS.out.2 _ HXD.out⟩
                have HTR : Hid (TreeOf w6 lo hi T L) := by
                  have ht := HT5.out
                  rw [hL] at ht
                  exact ht.keep hgr.size fun b hb1 hb2 => hgr.block b (Nat.lt_of_lt_of_le hb2 ht.hih) (by intro e; injection e with e; omega)
                have HBZ := Lib.hid (below_only HB5.out hgr HB5.out.size hbw1)
                rw [hw6]
                clear hw6 hgr hbk hrow hL HYB HT5 HB5 zc0 zc1 zc2 zc3 zc4 zc5 zc6 zc7 zf f0 f1 f2 f3 f4 f5 f6 f7 HJL
                have hslz := RowAt.sl HROW.out HLN.out.2 (by rw [HLN.out.1]; omega)
                rw [HLN.out.1] at hslz
                have HSLZ := Lib.hid hslz
                have hbz := RowAt.lt HROW.out
                clear hslz
                go_wp2_with fail
                go_at_call 14
                refine (plain_any _ _ m c1 L HLN.out.2 HSLZ.out (by omega)).mono ?_
                rintro e x1 ⟨⟨v, rfl, hown⟩, hx1⟩
                obtain ⟨B5, c5, rfl⟩ := own_form hown
                have HSP := Lib.hid (Sl.of_own hown)
                have HX1 := Lib.hid hx1
                clear hown hx1
                go_wp2_with fail
                go_at_call 13
                refine (rRoot_any _ B5 m c5 L HLN.out.2 HSP.out).mono ?_
                rintro e x2 ⟨rfl, hx2⟩
                obtain ⟨r0, r1, r2, r3, r4, r5, r6, r7, hrr⟩ := list8 (rootI L) (rootI_ok _).len
                have HR := Lib.hid hrr
                rw [hrr, show dgA [r0, r1, r2, r3, r4, r5, r6, r7] = #[.int .u8 r0, .int .u8 r1, .int .u8 r2, .int .u8 r3, .int .u8 r4, .int .u8 r5, .int .u8 r6, .int .u8 r7] from rfl]
                have HX2 := Lib.hid (below_then HX1.out hx2)
                clear hx2 hrr HSP HX1
                go_upto_region 21 with fail
                obtain ⟨x3, hx3⟩ : ∃ x3, x2.alloc (.cells #[.int .u8 r0, .int .u8 r1, .int .u8 r2, .int .u8 r3, .int .u8 r4, .int .u8 r5, .int .u8 r6, .int .u8 r7] 25) = x3 := ⟨_, rfl⟩
                obtain ⟨h, hh⟩ : ∃ h, x2.heap.size = h := ⟨_, rfl⟩
                have k3 : DgAt x3 h 25 [r0, r1, r2, r3, r4, r5, r6, r7] := hx3 ▸ Bk.at_ _ _ _ hh rfl
                have hb3 := below_then HX2.out (hx3 ▸ below_new x2 _)
                have HK3 := Lib.hid k3
                have HX3 := Lib.hid hb3
                have HTR3 := Lib.hid (HTR.out.later hb3)
                rw [hx3, hh]
                clear hx3 hh k3 hb3 HX2
                have hS3 := cells_one HK3.out (Below.refl _ _)
                have heq1 : ∀ W, (Op.equalIn 10000 26 (.agg #[.int .u8 r0, .int .u8 r1, .int .u8 r2, .int .u8 r3, .int .u8 r4, .int .u8 r5, .int .u8 r6, .int .u8 r7]) (.agg #[.int .u8 r0, .int .u8 r1, .int .u8 r2, .int .u8 r3, .int .u8 r4, .int .u8 r5, .int .u8 r6, .int .u8 r7])).run Tryd.prog W = .ok true W := fun W => (dg_equal r0 r1 r2 r3 r4 r5 r6 r7 r0 r1 r2 r3 r4 r5 r6 r7 W).trans (by rw [eqL_self])
                go_region_held3 (fun w' => w'.cell? ⟨h, 0, none⟩ = some (.int .u8 r0) ∧ w'.cell? ⟨h, 1, none⟩ = some (.int .u8 r1) ∧ w'.cell? ⟨h, 2, none⟩ = some (.int .u8 r2) ∧ w'.cell? ⟨h, 3, none⟩ = some (.int .u8 r3) ∧ w'.cell? ⟨h, 4, none⟩ = some (.int .u8 r4) ∧ w'.cell? ⟨h, 5, none⟩ = some (.int .u8 r5) ∧ w'.cell? ⟨h, 6, none⟩ = some (.int .u8 r6) ∧ w'.cell? ⟨h, 7, none⟩ = some (.int .u8 r7)) (first | (with_reducible exact hS4) | (with_reducible exact hS3) | go_keep)
                  (first
                    | (go_at_call 26; refine (tRoot_any _ lo hi T L (HTR3.out.later (below_draws x3 _ 1))).mono ?_; rintro e x4 ⟨rfl, hx4⟩; rw [HR.out, show dgA [r0, r1, r2, r3, r4, r5, r6, r7] = #[.int .u8 r0, .int .u8 r1, .int .u8 r2, .int .u8 r3, .int .u8 r4, .int .u8 r5, .int .u8 r6, .int .u8 r7] from rfl]; have HX4 : Hid (Below x3.heap.size x3 x4) := ((below_draws x3 _ 1).trans hx4); have hS4 := cells_one HK3.out HX4.out; clear hx4)
                    | (go_at_call 27; refine (tLen_of _ lo hi T L (HTR3.out.later HX4.out)).mono ?_; rintro e x5 ⟨rfl, rfl⟩; rw [HLN.out.1]))
                have HZ4 := Lib.hid (below_then HX3.out HX4.out)
                clear hS3 hS4 heq1
                go_wp2_with fail
                exact ⟨⟨q + 1, L, by omega, by go_num, HLN.out, RowAt.to HROW.out (HZ4.out.block b1 hbz), HTR.out.later HZ4.out, HBZ.out.trans (HZ4.out.mono HBZ.out.size)⟩, by simp [intOf]; omega⟩
            · obtain rfl : q = 12 := by omega
              have e2 : decide ((12 : Int) < n2) = true := decide_eq_true (by omega)
              have e3 : decide ((12 : Int) < n3) = true := decide_eq_true (by omega)
              go_wp2_with fail
              go_meet
              go_light
              exact ⟨ls', HLS, HR, HT, HB⟩
          · have e2 : decide ((q : Int) < n2) = true := decide_eq_true (by omega)
            have e2' : decide (q < n2) = true := decide_eq_true (by omega)
            have e3 : decide ((q : Int) < n3) = false := decide_eq_false (by omega)
            have e3' : decide (q < n3) = false := decide_eq_false (by omega)
            go_wp2_with fail
            go_meet
            go_light
            exact ⟨ls', HLS, HR, HT, HB⟩
        · have e2 : decide ((q : Int) < n2) = false := decide_eq_false (by omega)
          have e2' : decide (q < n2) = false := decide_eq_false (by omega)
          go_wp2_with fail
          go_meet
          go_light
          exact ⟨ls', HLS, HR, HT, HB⟩
    obtain ⟨L, HLL, HRL, HTL, HBL⟩ := hcut
    have HSLL : Hid (Sl wc wc.heap.size 8 (some ⟨b1, 0, none⟩) m (cellsD L)) := by
      have := RowAt.sl HRL.out HLL.out.2 (by rw [HLL.out.1]; omega)
      rw [HLL.out.1] at this
      exact this
    have hb1c := RowAt.lt HRL.out
    go_wp2_with fail
    go_loopw [17, 18, 19, 20, 21, 22, 23, 24] (fun iv a18 a19 a20 a21 a22 a23 a24 wr => ∃ (ix : Int) (q : Nat), q ≤ m + 2 ∧ iv = .int .i64 ix ∧ Hid (ix + 1 = q) ∧ Hid (Below wc.heap.size wc wr)) (fun iv _ _ _ _ _ _ _ _ => (m + 2 - (intOf iv + 1).toNat))
    case atStart => exact ⟨-1, 0, by omega, rfl, by show _ = _; rfl, Below.refl _ _⟩
    case round =>
      obtain ⟨ix, q, hq, rfl, HIX, HBr⟩ := hrel
      have hlow : -1 ≤ ix := by have := HIX.out; omega
      by_cases hend : ix ≤ m
      · by_cases hin : 0 ≤ ix ∧ ix < m
        · obtain ⟨j, rfl⟩ : ∃ j : Nat, ix = j := ⟨ix.toNat, by omega⟩
          have hj0 : (0 : Int) ≤ j := by omega
          have hjm : (j : Int) < m := hin.2
          have hjn : j < m := by omega
          have hje : (j : Int) ≤ m := hend
          have HHB : Hid (hasB L.length (j : Int) = true) := by show _ = _; rw [HLL.out.1, hasB]; exact decide_eq_true ⟨by omega, by omega⟩
          clear hin hend hlow
          obtain ⟨ps', hps⟩ : ∃ ps', pathL L (j : Int) = ps' := ⟨_, rfl⟩
          have hpo : DsOk ps' := hps ▸ pathL_ok L (j : Int)
          have hpl : ps'.length ≤ 12 := hps ▸ pathL_small L (j : Int)
          obtain ⟨N, hN⟩ : ∃ N, ps'.length = N := ⟨_, rfl⟩
          rw [hN] at hpl
          obtain ⟨E, hE⟩ : ∃ E, pathE m (j : Int) = E := ⟨_, rfl⟩
          obtain ⟨y0, y1, y2, y3, y4, y5, y6, y7, hyy⟩ := list8 (leafI L (j : Int)) (leafI_ok HLL.out.2 _).len
          have HPS := Lib.hid hps; have HPO := Lib.hid hpo; have HN := Lib.hid hN; have HE := Lib.hid hE; have HYY := Lib.hid hyy
          clear hps hpo hN hE hyy
          go_wp2_with fail
          go_at_call 28
          refine (tPath_any _ lo hi T L (HTL.out.later HBr.out) (j : Int)).mono ?_
          rintro e x1 ⟨⟨v, rfl, hown⟩, hx1⟩
          obtain ⟨B5, c5, rfl⟩ := own_form hown
          rw [HPS.out, HN.out] at hown
          rw [HLL.out.1, HPS.out, HN.out, HE.out]
          have HSP := Lib.hid (Sl.of_own hown)
          have HX1 := Lib.hid (below_then HBr.out hx1)
          clear hown hx1
          go_wp2_with fail
          go_at_call 14
          refine (plain_any _ _ m c1 L HLL.out.2 (HSLL.out.later HX1.out) (by omega)).mono ?_
          rintro e x2 ⟨⟨v, rfl, hown⟩, hx2⟩
          obtain ⟨B6, c6, rfl⟩ := own_form hown
          have HSQ := Lib.hid (Sl.of_own hown)
          have HX2 := Lib.hid (below_then HX1.out hx2)
          have HSP2 := Lib.hid (HSP.out.later hx2)
          clear hown hx2 HX1 HSP
          go_wp2_with fail
          go_at_call 19
          refine (rPath_any _ B6 m c6 (j : Int) L HLL.out.2 HSQ.out).mono ?_
          rintro e x3 ⟨⟨v, rfl, hown⟩, hx3⟩
          obtain ⟨B7, c7, rfl⟩ := own_form hown
          rw [HPS.out, HN.out] at hown
          rw [HPS.out, HN.out, HE.out]
          have HSR := Lib.hid (Sl.of_own hown)
          have HX3 := Lib.hid (below_then HX2.out hx3)
          have HSP3 := Lib.hid (HSP2.out.later hx3)
          clear hown hx3 HX2 HSP2 HSQ
          go_wp2_with fail
          go_at_call 29
          refine (tLeaf_any _ lo hi T L (HTL.out.later HX3.out) (j : Int)).mono ?_
          rintro e x4 ⟨rfl, hx4⟩
          rw [HYY.out, HHB.out, show dgA [y0, y1, y2, y3, y4, y5, y6, y7] = #[.int .u8 y0, .int .u8 y1, .int .u8 y2, .int .u8 y3, .int .u8 y4, .int .u8 y5, .int .u8 y6, .int .u8 y7] from rfl]
          have HX4 := Lib.hid (below_then HX3.out hx4)
          have HSR4 := Lib.hid (HSR.out.later hx4)
          have HSP4 := Lib.hid (HSP3.out.later hx4)
          clear hx4 HX3 HSP3 HSR
          go_upto_region 30 with fail
          obtain ⟨x5, hx5⟩ : ∃ x5, x4.alloc (.cells #[.int .u8 y0, .int .u8 y1, .int .u8 y2, .int .u8 y3, .int .u8 y4, .int .u8 y5, .int .u8 y6, .int .u8 y7] 26) = x5 := ⟨_, rfl⟩
          obtain ⟨h, hh⟩ : ∃ h, x4.heap.size = h := ⟨_, rfl⟩
          have k5 : DgAt x5 h 26 [y0, y1, y2, y3, y4, y5, y6, y7] := hx5 ▸ Bk.at_ _ _ _ hh rfl
          have hb5 : Below x4.heap.size x4 x5 := hx5 ▸ below_new x4 _
          have HK5 := Lib.hid k5
          have HX5 := Lib.hid (below_then HX4.out hb5)
          have HSR5 := Lib.hid (HSR4.out.later hb5)
          have HSP5 := Lib.hid (HSP4.out.later hb5)
          rw [hx5, hh]
          clear hx5 hh k5 hb5 HX4 HSR4 HSP4
          have HYL : Hid (L[j]? = some [y0, y1, y2, y3, y4, y5, y6, y7]) := by
            show _ = _
            have h1 := HYY.out
            have hjl : j < L.length := by rw [HLL.out.1]; exact hjn
            unfold leafI at h1
            rw [if_pos ⟨by omega, by omega⟩, Int.toNat_natCast, List.getD_eq_getElem?_getD, List.getElem?_eq_getElem hjl] at h1
            rw [List.getElem?_eq_getElem hjl]
            exact congrArg some h1
          have HRG : Hid (x5.rangeAt b1 (j * 8) ([y0, y1, y2, y3, y4, y5, y6, y7].map (Value.int .u8))) := by
            have := sl_dg HSLL.out HLL.out.2 HYL.out
            rw [Nat.zero_add] at this
            exact range_below this HX5.out hb1c
          have hb1x : b1 < x5.heap.size := by have := HX5.out.size; omega
          have hS5 := cells_row HK5.out HRG.out hb1x (Below.refl _ _)
          have heq1 : ∀ W, (Op.equalIn 10000 26 (.agg #[.int .u8 y0, .int .u8 y1, .int .u8 y2, .int .u8 y3, .int .u8 y4, .int .u8 y5, .int .u8 y6, .int .u8 y7]) (.agg #[.int .u8 y0, .int .u8 y1, .int .u8 y2, .int .u8 y3, .int .u8 y4, .int .u8 y5, .int .u8 y6, .int .u8 y7])).run Tryd.prog W = .ok true W := fun W => (dg_equal y0 y1 y2 y3 y4 y5 y6 y7 y0 y1 y2 y3 y4 y5 y6 y7 W).trans (by rw [eqL_self])
          go_region_held3 (fun w' => w'.cell? ⟨h, 0, none⟩ = some (.int .u8 y0) ∧ w'.cell? ⟨h, 1, none⟩ = some (.int .u8 y1) ∧ w'.cell? ⟨h, 2, none⟩ = some (.int .u8 y2) ∧ w'.cell? ⟨h, 3, none⟩ = some (.int .u8 y3) ∧ w'.cell? ⟨h, 4, none⟩ = some (.int .u8 y4) ∧ w'.cell? ⟨h, 5, none⟩ = some (.int .u8 y5) ∧ w'.cell? ⟨h, 6, none⟩ = some (.int .u8 y6) ∧ w'.cell? ⟨h, 7, none⟩ = some (.int .u8 y7) ∧ w'.cell? ⟨b1, j * 8, none⟩ = some (.int .u8 y0) ∧ w'.cell? ⟨b1, j * 8 + 1, none⟩ = some (.int .u8 y1) ∧ w'.cell? ⟨b1, j * 8 + 2, none⟩ = some (.int .u8 y2) ∧ w'.cell? ⟨b1, j * 8 + 3, none⟩ = some (.int .u8 y3) ∧ w'.cell? ⟨b1, j * 8 + 4, none⟩ = some (.int .u8 y4) ∧ w'.cell? ⟨b1, j * 8 + 5, none⟩ = some (.int .u8 y5) ∧ w'.cell? ⟨b1, j * 8 + 6, none⟩ = some (.int .u8 y6) ∧ w'.cell? ⟨b1, j * 8 + 7, none⟩ = some (.int .u8 y7)) (first | (with_reducible exact hS7) | (with_reducible exact hS6) | (with_reducible exact hS5) | go_keep)
            (first
              | (go_at_call 14; refine (plain_any _ B5 N c5 ps' HPO.out (HSP5.out.later (below_draws x5 _ 1)) (by omega)).mono ?_; rintro e x6 ⟨⟨v, rfl, hown⟩, hx6⟩; obtain ⟨B8, c8, rfl⟩ := own_form hown; have HSS := Lib.hid (Sl.of_own hown); have HX6 : Hid (Below x5.heap.size x5 x6) := ((below_draws x5 _ 1).trans hx6); have HSR6 := Lib.hid (HSR5.out.later HX6.out); clear hown hx6; have hS6 := cells_row HK5.out HRG.out hb1x HX6.out)
              | (go_at_call 20; refine (rSame_any _ B8 B7 N N c8 c7 ps' ps' HPO.out HPO.out HSS.out HSR6.out).mono ?_; rintro e x7 ⟨rfl, hq7⟩; rw [eqD_self]; have HX7 : Hid (Below x5.heap.size x5 x7) := (by obtain ⟨q7, hq7⟩ := hq7; rw [hq7]; exact HX6.out.trans (below_draws _ _ q7)); clear hq7; have hS7 := cells_row HK5.out HRG.out hb1x HX7.out))
          clear hS5 hS6 hS7 heq1
          have HBF := Lib.hid (below_then HX5.out HX7.out)
          go_wp2_with fail
          go_roundw
          case rel => exact ⟨(j : Int) + 1, q + 1, by have := HIX.out; omega, by go_num, by show _ = _; have := HIX.out; omega, HBF⟩
          case measure => simp [intOf]; have := HIX.out; omega
        · have HHB : Hid (hasB L.length (ix : Int) = false) := by show _ = _; rw [HLL.out.1, hasB]; exact decide_eq_false hin
          by_cases hi0 : 0 ≤ ix
          · have him : ¬ ix < m := fun h => hin ⟨hi0, h⟩
            have him' : decide (ix < m) = false := decide_eq_false him
            clear hin
            obtain ⟨ps', hps⟩ : ∃ ps', pathL L (ix : Int) = ps' := ⟨_, rfl⟩
            have hpo : DsOk ps' := hps ▸ pathL_ok L (ix : Int)
            have hpl : ps'.length ≤ 12 := hps ▸ pathL_small L (ix : Int)
            obtain ⟨N, hN⟩ : ∃ N, ps'.length = N := ⟨_, rfl⟩
            rw [hN] at hpl
            obtain ⟨E, hE⟩ : ∃ E, pathE m (ix : Int) = E := ⟨_, rfl⟩
            obtain ⟨y0, y1, y2, y3, y4, y5, y6, y7, hyy⟩ := list8 (leafI L (ix : Int)) (leafI_ok HLL.out.2 _).len
            have HPS := Lib.hid hps; have HPO := Lib.hid hpo; have HN := Lib.hid hN; have HE := Lib.hid hE; have HYY := Lib.hid hyy
            clear hps hpo hN hE hyy
            go_wp2_with fail
            go_at_call 28
            refine (tPath_any _ lo hi T L (HTL.out.later HBr.out) (ix : Int)).mono ?_
            rintro e x1 ⟨⟨v, rfl, hown⟩, hx1⟩
            obtain ⟨B5, c5, rfl⟩ := own_form hown
            rw [HPS.out, HN.out] at hown
            rw [HLL.out.1, HPS.out, HN.out, HE.out]
            have HSP := Lib.hid (Sl.of_own hown)
            have HX1 := Lib.hid (below_then HBr.out hx1)
            clear hown hx1
            go_wp2_with fail
            go_at_call 14
            refine (plain_any _ _ m c1 L HLL.out.2 (HSLL.out.later HX1.out) (by omega)).mono ?_
            rintro e x2 ⟨⟨v, rfl, hown⟩, hx2⟩
            obtain ⟨B6, c6, rfl⟩ := own_form hown
            have HSQ := Lib.hid (Sl.of_own hown)
            have HX2 := Lib.hid (below_then HX1.out hx2)
            have HSP2 := Lib.hid (HSP.out.later hx2)
            clear hown hx2 HX1 HSP
            go_wp2_with fail
            go_at_call 19
            refine (rPath_any _ B6 m c6 (ix : Int) L HLL.out.2 HSQ.out).mono ?_
            rintro e x3 ⟨⟨v, rfl, hown⟩, hx3⟩
            obtain ⟨B7, c7, rfl⟩ := own_form hown
            rw [HPS.out, HN.out] at hown
            rw [HPS.out, HN.out, HE.out]
            have HSR := Lib.hid (Sl.of_own hown)
            have HX3 := Lib.hid (below_then HX2.out hx3)
            have HSP3 := Lib.hid (HSP2.out.later hx3)
            clear hown hx3 HX2 HSP2 HSQ
            go_wp2_with fail
            go_at_call 29
            refine (tLeaf_any _ lo hi T L (HTL.out.later HX3.out) (ix : Int)).mono ?_
            rintro e x4 ⟨rfl, hx4⟩
            rw [HYY.out, HHB.out, show dgA [y0, y1, y2, y3, y4, y5, y6, y7] = #[.int .u8 y0, .int .u8 y1, .int .u8 y2, .int .u8 y3, .int .u8 y4, .int .u8 y5, .int .u8 y6, .int .u8 y7] from rfl]
            have HX4 := Lib.hid (below_then HX3.out hx4)
            have HSR4 := Lib.hid (HSR.out.later hx4)
            have HSP4 := Lib.hid (HSP3.out.later hx4)
            clear hx4 HX3 HSP3 HSR
            go_upto_region 30 with fail
            obtain ⟨x5, hx5⟩ : ∃ x5, x4.alloc (.cells #[.int .u8 y0, .int .u8 y1, .int .u8 y2, .int .u8 y3, .int .u8 y4, .int .u8 y5, .int .u8 y6, .int .u8 y7] 26) = x5 := ⟨_, rfl⟩
            obtain ⟨h, hh⟩ : ∃ h, x4.heap.size = h := ⟨_, rfl⟩
            have k5 : DgAt x5 h 26 [y0, y1, y2, y3, y4, y5, y6, y7] := hx5 ▸ Bk.at_ _ _ _ hh rfl
            have hb5 : Below x4.heap.size x4 x5 := hx5 ▸ below_new x4 _
            have HK5 := Lib.hid k5
            have HX5 := Lib.hid (below_then HX4.out hb5)
            have HSR5 := Lib.hid (HSR4.out.later hb5)
            have HSP5 := Lib.hid (HSP4.out.later hb5)
            rw [hx5, hh]
            clear hx5 hh k5 hb5 HX4 HSR4 HSP4
            refine wp_region_noPanic ?_
            refine wp_region_held_drew (S := fun _ => True) (by kernel_rfl) trivial (fun hHeld => ?_)
            refine wpAnyH_take (i := 0) (v := ?_) rfl (by kernel_rfl) (by kernel_rfl) (by kernel_rfl) (fun _ _ _ h => h) (Or.inl ⟨by rfl, ?_⟩) (by assumption) ?_
            rotate_left
            · intro w hSw
              (try dsimp only at hSw)
              go_simp
              try with_reducible rfl
            try simp only [Act.put, List.setIfInBounds_toArray, List.set_cons_zero, List.set_cons_succ, List.getElem_toArray, List.getElem_cons_zero]
            refine wpAnyH_take (i := 1) (v := ?_) rfl (by kernel_rfl) (by kernel_rfl) (by kernel_rfl) (fun _ _ _ h => h) (Or.inl ⟨by rfl, ?_⟩) (by assumption) ?_
            rotate_left
            · intro w hSw
              (try dsimp only at hSw)
              go_simp
              try with_reducible rfl
            try simp only [Act.put, List.setIfInBounds_toArray, List.set_cons_zero, List.set_cons_succ, List.getElem_toArray, List.getElem_cons_zero, List.getElem_cons_succ]
            refine wpAnyH_take (i := 2) (v := ?_) rfl (by kernel_rfl) (by kernel_rfl) (by kernel_rfl) (fun _ _ _ h => h) (Or.inl ⟨by rfl, ?_⟩) (by assumption) ?_
            rotate_left
            · intro w hSw
              (try dsimp only at hSw)
              go_simp
              try with_reducible rfl
            try simp only [Act.put, List.setIfInBounds_toArray, List.set_cons_zero, List.set_cons_succ, List.getElem_toArray, List.getElem_cons_zero, List.getElem_cons_succ]
            refine wpAnyH_take (i := 3) (v := ?_) rfl (by kernel_rfl) (by kernel_rfl) (by kernel_rfl) (fun _ _ _ h => h) (Or.inl ⟨by rfl, ?_⟩) (by assumption) ?_
            rotate_left
            · intro w hSw
              (try dsimp only at hSw)
              go_simp
              try with_reducible rfl
            try simp only [Act.put, List.setIfInBounds_toArray, List.set_cons_zero, List.set_cons_succ, List.getElem_toArray, List.getElem_cons_zero, List.getElem_cons_succ]
            refine wpAnyH_take (i := 4) (v := ?_) rfl (by kernel_rfl) (by kernel_rfl) (by kernel_rfl) (fun _ _ _ h => h) (Or.inl ⟨by rfl, ?_⟩) (by assumption) ?_
            rotate_left
            · intro w hSw
              (try dsimp only at hSw)
              go_simp
              try with_reducible rfl
            try simp only [Act.put, List.setIfInBounds_toArray, List.set_cons_zero, List.set_cons_succ, List.getElem_toArray, List.getElem_cons_zero, List.getElem_cons_succ]
            refine wpAnyH_take (i := 6) (v := ?_) rfl (by kernel_rfl) (by kernel_rfl) (by kernel_rfl) (fun _ _ _ h => h) (Or.inl ⟨by rfl, ?_⟩) (by assumption) ?_
            rotate_left
            · intro w hSw
              (try dsimp only at hSw)
              go_simp
              try with_reducible rfl
            try simp only [Act.put, List.setIfInBounds_toArray, List.set_cons_zero, List.set_cons_succ, List.getElem_toArray, List.getElem_cons_zero, List.getElem_cons_succ]
            refine wpAnyH_ready (rs := [5]) (by kernel_rfl) (by simp) ?_
            refine AllReadyH.cons rfl (fun K hK => ?_) AllReadyH.nil
            go_simp
            (go_at_call 14; refine (plain_any _ B5 N c5 ps' HPO.out (HSP5.out.later (below_draws x5 _ 1)) (by omega)).mono ?_; rintro e x6 ⟨⟨v, rfl, hown⟩, hx6⟩; obtain ⟨B8, c8, rfl⟩ := own_form hown; have HSS := Lib.hid (Sl.of_own hown); have HX6 : Hid (Below x5.heap.size x5 x6) := ((below_draws x5 _ 1).trans hx6); have HSR6 := Lib.hid (HSR5.out.later HX6.out); clear hown hx6)
            refine hK.out _ _ (trivial) (fun hHeld => ?_)
            clear hK K
            try simp only [Act.put, List.setIfInBounds_toArray, List.set_cons_zero, List.set_cons_succ, List.getElem_toArray, List.getElem_cons_zero, List.getElem_cons_succ]
            refine wpAnyH_ready (rs := [7]) (by kernel_rfl) (by simp) ?_
            refine AllReadyH.cons rfl (fun K hK => ?_) AllReadyH.nil
            go_simp
            (go_at_call 20; refine (rSame_any _ B8 B7 N N c8 c7 ps' ps' HPO.out HPO.out HSS.out HSR6.out).mono ?_; rintro e x7 ⟨rfl, hq7⟩; rw [eqD_self]; have HX7 : Hid (Below x5.heap.size x5 x7) := (by obtain ⟨q7, hq7⟩ := hq7; rw [hq7]; exact HX6.out.trans (below_draws _ _ q7)); clear hq7)
            refine hK.out _ _ (trivial) (fun hHeld => ?_)
            clear hK K
            try simp only [Act.put, List.setIfInBounds_toArray, List.set_cons_zero, List.set_cons_succ, List.getElem_toArray, List.getElem_cons_zero, List.getElem_cons_succ]
            refine wpAnyH_take (i := 8) (v := ?_) rfl (by kernel_rfl) (by kernel_rfl) (by kernel_rfl) (fun _ _ _ h => h) (Or.inl ⟨by rfl, ?_⟩) (by assumption) ?_
            rotate_left
            · intro w hSw
              (try dsimp only at hSw)
              go_simp
              try with_reducible rfl
            try simp only [Act.put, List.setIfInBounds_toArray, List.set_cons_zero, List.set_cons_succ, List.getElem_toArray, List.getElem_cons_zero, List.getElem_cons_succ]
            refine wpAnyH_take (i := 9) (v := ?_) rfl (by kernel_rfl) (by kernel_rfl) (by kernel_rfl) (fun _ _ _ h => h) (Or.inl ⟨by rfl, ?_⟩) (by assumption) ?_
            rotate_left
            · intro w hSw
              (try dsimp only at hSw)
              go_simp
              try with_reducible rfl
            try simp only [Act.put, List.setIfInBounds_toArray, List.set_cons_zero, List.set_cons_succ, List.getElem_toArray, List.getElem_cons_zero, List.getElem_cons_succ]
            refine wpAnyH_take (i := 10) (v := ?_) rfl (by kernel_rfl) (by kernel_rfl) (by kernel_rfl) (fun _ _ _ h => h) (Or.inl ⟨by rfl, ?_⟩) (by assumption) ?_
            rotate_left
            · intro w hSw
              (try dsimp only at hSw)
              go_simp
              try with_reducible rfl
            try simp only [Act.put, List.setIfInBounds_toArray, List.set_cons_zero, List.set_cons_succ, List.getElem_toArray, List.getElem_cons_zero, List.getElem_cons_succ]
            refine wpAnyH_take (i := 11) (v := ?_) rfl (by kernel_rfl) (by kernel_rfl) (by kernel_rfl) (fun _ _ _ h => h) (Or.inl ⟨by rfl, ?_⟩) (by assumption) ?_
            rotate_left
            · intro w hSw
              (try dsimp only at hSw)
              go_simp
              try with_reducible rfl
            try simp only [Act.put, List.setIfInBounds_toArray, List.set_cons_zero, List.set_cons_succ, List.getElem_toArray, List.getElem_cons_zero, List.getElem_cons_succ]
            refine wpAnyH_take (i := 12) (v := ?_) rfl (by kernel_rfl) (by kernel_rfl) (by kernel_rfl) (fun _ _ _ h => h) (Or.inl ⟨by rfl, ?_⟩) (by assumption) ?_
            rotate_left
            · intro w hSw
              (try dsimp only at hSw)
              go_simp
              try with_reducible rfl
            try simp only [Act.put, List.setIfInBounds_toArray, List.set_cons_zero, List.set_cons_succ, List.getElem_toArray, List.getElem_cons_zero, List.getElem_cons_succ]
            refine wpAnyH_take (i := 13) (v := ?_) rfl (by kernel_rfl) (by kernel_rfl) (by kernel_rfl) (fun _ _ _ h => h) (Or.inl ⟨by rfl, ?_⟩) (by assumption) ?_
            rotate_left
            · intro w hSw
              (try dsimp only at hSw)
              go_simp
              try with_reducible rfl
            try simp only [Act.put, List.setIfInBounds_toArray, List.set_cons_zero, List.set_cons_succ, List.getElem_toArray, List.getElem_cons_zero, List.getElem_cons_succ]
            refine wpAnyH_take (i := 14) (v := ?_) rfl (by kernel_rfl) (by kernel_rfl) (by kernel_rfl) (fun _ _ _ h => h) (Or.inl ⟨by rfl, ?_⟩) (by assumption) ?_
            rotate_left
            · intro w hSw
              (try dsimp only at hSw)
              go_simp
              try with_reducible rfl
            try simp only [Act.put, List.setIfInBounds_toArray, List.set_cons_zero, List.set_cons_succ, List.getElem_toArray, List.getElem_cons_zero, List.getElem_cons_succ]
            refine wpAnyH_take (i := 15) (v := ?_) rfl (by kernel_rfl) (by kernel_rfl) (by kernel_rfl) (fun _ _ _ h => h) (Or.inl ⟨by rfl, ?_⟩) (by assumption) ?_
            rotate_left
            · intro w hSw
              (try dsimp only at hSw)
              go_simp
              try with_reducible rfl
            try simp only [Act.put, List.setIfInBounds_toArray, List.set_cons_zero, List.set_cons_succ, List.getElem_toArray, List.getElem_cons_zero, List.getElem_cons_succ]
            refine wpAnyH_take (i := 16) (v := ?_) rfl (by kernel_rfl) (by kernel_rfl) (by kernel_rfl) (fun _ _ _ h => h) (Or.inl ⟨by rfl, ?_⟩) (by assumption) ?_
            rotate_left
            · intro w hSw
              (try dsimp only at hSw)
              go_simp
              try with_reducible rfl
            try simp only [Act.put, List.setIfInBounds_toArray, List.set_cons_zero, List.set_cons_succ, List.getElem_toArray, List.getElem_cons_zero, List.getElem_cons_succ]
            refine wpAnyH_take (i := 17) (v := ?_) rfl (by kernel_rfl) (by kernel_rfl) (by kernel_rfl) (fun _ _ _ h => h) (Or.inl ⟨by rfl, ?_⟩) (by assumption) ?_
            rotate_left
            · intro w hSw
              (try dsimp only at hSw)
              go_simp
              try with_reducible rfl
            try simp only [Act.put, List.setIfInBounds_toArray, List.set_cons_zero, List.set_cons_succ, List.getElem_toArray, List.getElem_cons_zero, List.getElem_cons_succ]
            refine wpAnyH_take (i := 18) (v := undef) rfl (by kernel_rfl) (by kernel_rfl) (by kernel_rfl) (fun _ _ _ h => h) (Or.inr ⟨by rfl, rfl⟩) (by assumption) ?_
            try simp only [Act.put, List.setIfInBounds_toArray, List.set_cons_zero, List.set_cons_succ, List.getElem_toArray, List.getElem_cons_zero, List.getElem_cons_succ]
            refine wpAnyH_take (i := 19) (v := undef) rfl (by kernel_rfl) (by kernel_rfl) (by kernel_rfl) (fun _ _ _ h => h) (Or.inr ⟨by rfl, rfl⟩) (by assumption) ?_
            try simp only [Act.put, List.setIfInBounds_toArray, List.set_cons_zero, List.set_cons_succ, List.getElem_toArray, List.getElem_cons_zero, List.getElem_cons_succ]
            refine wpAnyH_take (i := 20) (v := undef) rfl (by kernel_rfl) (by kernel_rfl) (by kernel_rfl) (fun _ _ _ h => h) (Or.inr ⟨by rfl, rfl⟩) (by assumption) ?_
            try simp only [Act.put, List.setIfInBounds_toArray, List.set_cons_zero, List.set_cons_succ, List.getElem_toArray, List.getElem_cons_zero, List.getElem_cons_succ]
            refine wpAnyH_take (i := 21) (v := undef) rfl (by kernel_rfl) (by kernel_rfl) (by kernel_rfl) (fun _ _ _ h => h) (Or.inr ⟨by rfl, rfl⟩) (by assumption) ?_
            try simp only [Act.put, List.setIfInBounds_toArray, List.set_cons_zero, List.set_cons_succ, List.getElem_toArray, List.getElem_cons_zero, List.getElem_cons_succ]
            refine wpAnyH_take (i := 22) (v := undef) rfl (by kernel_rfl) (by kernel_rfl) (by kernel_rfl) (fun _ _ _ h => h) (Or.inr ⟨by rfl, rfl⟩) (by assumption) ?_
            try simp only [Act.put, List.setIfInBounds_toArray, List.set_cons_zero, List.set_cons_succ, List.getElem_toArray, List.getElem_cons_zero, List.getElem_cons_succ]
            refine wpAnyH_take (i := 23) (v := undef) rfl (by kernel_rfl) (by kernel_rfl) (by kernel_rfl) (fun _ _ _ h => h) (Or.inr ⟨by rfl, rfl⟩) (by assumption) ?_
            try simp only [Act.put, List.setIfInBounds_toArray, List.set_cons_zero, List.set_cons_succ, List.getElem_toArray, List.getElem_cons_zero, List.getElem_cons_succ]
            refine wpAnyH_take (i := 24) (v := ?_) rfl (by kernel_rfl) (by kernel_rfl) (by kernel_rfl) (fun _ _ _ h => h) (Or.inl ⟨by rfl, ?_⟩) (by assumption) ?_
            rotate_left
            · intro w hSw
              (try dsimp only at hSw)
              go_simp
              try with_reducible rfl
            try simp only [Act.put, List.setIfInBounds_toArray, List.set_cons_zero, List.set_cons_succ, List.getElem_toArray, List.getElem_cons_zero, List.getElem_cons_succ]
            refine wpAnyH_take (i := 25) (v := ?_) rfl (by kernel_rfl) (by kernel_rfl) (by kernel_rfl) (fun _ _ _ h => h) (Or.inl ⟨by rfl, ?_⟩) (by assumption) ?_
            rotate_left
            · intro w hSw
              (try dsimp only at hSw)
              go_simp
              try with_reducible rfl
            try simp only [Act.put, List.setIfInBounds_toArray, List.set_cons_zero, List.set_cons_succ, List.getElem_toArray, List.getElem_cons_zero, List.getElem_cons_succ]
            refine wpAnyH_done (by kernel_rfl) ?_ _
            refine NoPanic.normal ?_
            have HBF := Lib.hid (below_then HX5.out HX7.out)
            go_wp2_with fail
            go_roundw
            case rel => exact ⟨(ix : Int) + 1, q + 1, by have := HIX.out; omega, by go_num, by show _ = _; have := HIX.out; omega, HBF⟩
            case measure => simp [intOf]; have := HIX.out; omega
          · have hi0' : decide (0 ≤ ix) = false := decide_eq_false hi0
            clear hin
            obtain ⟨ps', hps⟩ : ∃ ps', pathL L (ix : Int) = ps' := ⟨_, rfl⟩
            have hpo : DsOk ps' := hps ▸ pathL_ok L (ix : Int)
            have hpl : ps'.length ≤ 12 := hps ▸ pathL_small L (ix : Int)
            obtain ⟨N, hN⟩ : ∃ N, ps'.length = N := ⟨_, rfl⟩
            rw [hN] at hpl
            obtain ⟨E, hE⟩ : ∃ E, pathE m (ix : Int) = E := ⟨_, rfl⟩
            obtain ⟨y0, y1, y2, y3, y4, y5, y6, y7, hyy⟩ := list8 (leafI L (ix : Int)) (leafI_ok HLL.out.2 _).len
            have HPS := Lib.hid hps; have HPO := Lib.hid hpo; have HN := Lib.hid hN; have HE := Lib.hid hE; have HYY := Lib.hid hyy
            clear hps hpo hN hE hyy
            go_wp2_with fail
            go_at_call 28
            refine (tPath_any _ lo hi T L (HTL.out.later HBr.out) (ix : Int)).mono ?_
            rintro e x1 ⟨⟨v, rfl, hown⟩, hx1⟩
            obtain ⟨B5, c5, rfl⟩ := own_form hown
            rw [HPS.out, HN.out] at hown
            rw [HLL.out.1, HPS.out, HN.out, HE.out]
            have HSP := Lib.hid (Sl.of_own hown)
            have HX1 := Lib.hid (below_then HBr.out hx1)
            clear hown hx1
            go_wp2_with fail
            go_at_call 14
            refine (plain_any _ _ m c1 L HLL.out.2 (HSLL.out.later HX1.out) (by omega)).mono ?_
            rintro e x2 ⟨⟨v, rfl, hown⟩, hx2⟩
            obtain ⟨B6, c6, rfl⟩ := own_form hown
            have HSQ := Lib.hid (Sl.of_own hown)
            have HX2 := Lib.hid (below_then HX1.out hx2)
            have HSP2 := Lib.hid (HSP.out.later hx2)
            clear hown hx2 HX1 HSP
            go_wp2_with fail
            go_at_call 19
            refine (rPath_any _ B6 m c6 (ix : Int) L HLL.out.2 HSQ.out).mono ?_
            rintro e x3 ⟨⟨v, rfl, hown⟩, hx3⟩
            obtain ⟨B7, c7, rfl⟩ := own_form hown
            rw [HPS.out, HN.out] at hown
            rw [HPS.out, HN.out, HE.out]
            have HSR := Lib.hid (Sl.of_own hown)
            have HX3 := Lib.hid (below_then HX2.out hx3)
            have HSP3 := Lib.hid (HSP2.out.later hx3)
            clear hown hx3 HX2 HSP2 HSQ
            go_wp2_with fail
            go_at_call 29
            refine (tLeaf_any _ lo hi T L (HTL.out.later HX3.out) (ix : Int)).mono ?_
            rintro e x4 ⟨rfl, hx4⟩
            rw [HYY.out, HHB.out, show dgA [y0, y1, y2, y3, y4, y5, y6, y7] = #[.int .u8 y0, .int .u8 y1, .int .u8 y2, .int .u8 y3, .int .u8 y4, .int .u8 y5, .int .u8 y6, .int .u8 y7] from rfl]
            have HX4 := Lib.hid (below_then HX3.out hx4)
            have HSR4 := Lib.hid (HSR.out.later hx4)
            have HSP4 := Lib.hid (HSP3.out.later hx4)
            clear hx4 HX3 HSP3 HSR
            go_upto_region 30 with fail
            obtain ⟨x5, hx5⟩ : ∃ x5, x4.alloc (.cells #[.int .u8 y0, .int .u8 y1, .int .u8 y2, .int .u8 y3, .int .u8 y4, .int .u8 y5, .int .u8 y6, .int .u8 y7] 26) = x5 := ⟨_, rfl⟩
            obtain ⟨h, hh⟩ : ∃ h, x4.heap.size = h := ⟨_, rfl⟩
            have k5 : DgAt x5 h 26 [y0, y1, y2, y3, y4, y5, y6, y7] := hx5 ▸ Bk.at_ _ _ _ hh rfl
            have hb5 : Below x4.heap.size x4 x5 := hx5 ▸ below_new x4 _
            have HK5 := Lib.hid k5
            have HX5 := Lib.hid (below_then HX4.out hb5)
            have HSR5 := Lib.hid (HSR4.out.later hb5)
            have HSP5 := Lib.hid (HSP4.out.later hb5)
            rw [hx5, hh]
            clear hx5 hh k5 hb5 HX4 HSR4 HSP4
            refine wp_region_noPanic ?_
            refine wp_region_held_drew (S := fun _ => True) (by kernel_rfl) trivial (fun hHeld => ?_)
            refine wpAnyH_take (i := 0) (v := ?_) rfl (by kernel_rfl) (by kernel_rfl) (by kernel_rfl) (fun _ _ _ h => h) (Or.inl ⟨by rfl, ?_⟩) (by assumption) ?_
            rotate_left
            · intro w hSw
              (try dsimp only at hSw)
              go_simp
              try with_reducible rfl
            try simp only [Act.put, List.setIfInBounds_toArray, List.set_cons_zero, List.set_cons_succ, List.getElem_toArray, List.getElem_cons_zero]
            refine wpAnyH_take (i := 1) (v := ?_) rfl (by kernel_rfl) (by kernel_rfl) (by kernel_rfl) (fun _ _ _ h => h) (Or.inl ⟨by rfl, ?_⟩) (by assumption) ?_
            rotate_left
            · intro w hSw
              (try dsimp only at hSw)
              go_simp
              try with_reducible rfl
            try simp only [Act.put, List.setIfInBounds_toArray, List.set_cons_zero, List.set_cons_succ, List.getElem_toArray, List.getElem_cons_zero, List.getElem_cons_succ]
            refine wpAnyH_take (i := 2) (v := ?_) rfl (by kernel_rfl) (by kernel_rfl) (by kernel_rfl) (fun _ _ _ h => h) (Or.inl ⟨by rfl, ?_⟩) (by assumption) ?_
            rotate_left
            · intro w hSw
              (try dsimp only at hSw)
              go_simp
              try with_reducible rfl
            try simp only [Act.put, List.setIfInBounds_toArray, List.set_cons_zero, List.set_cons_succ, List.getElem_toArray, List.getElem_cons_zero, List.getElem_cons_succ]
            refine wpAnyH_take (i := 3) (v := ?_) rfl (by kernel_rfl) (by kernel_rfl) (by kernel_rfl) (fun _ _ _ h => h) (Or.inl ⟨by rfl, ?_⟩) (by assumption) ?_
            rotate_left
            · intro w hSw
              (try dsimp only at hSw)
              go_simp
              try with_reducible rfl
            try simp only [Act.put, List.setIfInBounds_toArray, List.set_cons_zero, List.set_cons_succ, List.getElem_toArray, List.getElem_cons_zero, List.getElem_cons_succ]
            refine wpAnyH_take (i := 4) (v := ?_) rfl (by kernel_rfl) (by kernel_rfl) (by kernel_rfl) (fun _ _ _ h => h) (Or.inl ⟨by rfl, ?_⟩) (by assumption) ?_
            rotate_left
            · intro w hSw
              (try dsimp only at hSw)
              go_simp
              try with_reducible rfl
            try simp only [Act.put, List.setIfInBounds_toArray, List.set_cons_zero, List.set_cons_succ, List.getElem_toArray, List.getElem_cons_zero, List.getElem_cons_succ]
            refine wpAnyH_take (i := 6) (v := ?_) rfl (by kernel_rfl) (by kernel_rfl) (by kernel_rfl) (fun _ _ _ h => h) (Or.inl ⟨by rfl, ?_⟩) (by assumption) ?_
            rotate_left
            · intro w hSw
              (try dsimp only at hSw)
              go_simp
              try with_reducible rfl
            try simp only [Act.put, List.setIfInBounds_toArray, List.set_cons_zero, List.set_cons_succ, List.getElem_toArray, List.getElem_cons_zero, List.getElem_cons_succ]
            refine wpAnyH_ready (rs := [5]) (by kernel_rfl) (by simp) ?_
            refine AllReadyH.cons rfl (fun K hK => ?_) AllReadyH.nil
            go_simp
            (go_at_call 14; refine (plain_any _ B5 N c5 ps' HPO.out (HSP5.out.later (below_draws x5 _ 1)) (by omega)).mono ?_; rintro e x6 ⟨⟨v, rfl, hown⟩, hx6⟩; obtain ⟨B8, c8, rfl⟩ := own_form hown; have HSS := Lib.hid (Sl.of_own hown); have HX6 : Hid (Below x5.heap.size x5 x6) := ((below_draws x5 _ 1).trans hx6); have HSR6 := Lib.hid (HSR5.out.later HX6.out); clear hown hx6)
            refine hK.out _ _ (trivial) (fun hHeld => ?_)
            clear hK K
            try simp only [Act.put, List.setIfInBounds_toArray, List.set_cons_zero, List.set_cons_succ, List.getElem_toArray, List.getElem_cons_zero, List.getElem_cons_succ]
            refine wpAnyH_ready (rs := [7]) (by kernel_rfl) (by simp) ?_
            refine AllReadyH.cons rfl (fun K hK => ?_) AllReadyH.nil
            go_simp
            (go_at_call 20; refine (rSame_any _ B8 B7 N N c8 c7 ps' ps' HPO.out HPO.out HSS.out HSR6.out).mono ?_; rintro e x7 ⟨rfl, hq7⟩; rw [eqD_self]; have HX7 : Hid (Below x5.heap.size x5 x7) := (by obtain ⟨q7, hq7⟩ := hq7; rw [hq7]; exact HX6.out.trans (below_draws _ _ q7)); clear hq7)
            refine hK.out _ _ (trivial) (fun hHeld => ?_)
            clear hK K
            try simp only [Act.put, List.setIfInBounds_toArray, List.set_cons_zero, List.set_cons_succ, List.getElem_toArray, List.getElem_cons_zero, List.getElem_cons_succ]
            refine wpAnyH_take (i := 8) (v := ?_) rfl (by kernel_rfl) (by kernel_rfl) (by kernel_rfl) (fun _ _ _ h => h) (Or.inl ⟨by rfl, ?_⟩) (by assumption) ?_
            rotate_left
            · intro w hSw
              (try dsimp only at hSw)
              go_simp
              try with_reducible rfl
            try simp only [Act.put, List.setIfInBounds_toArray, List.set_cons_zero, List.set_cons_succ, List.getElem_toArray, List.getElem_cons_zero, List.getElem_cons_succ]
            refine wpAnyH_take (i := 9) (v := ?_) rfl (by kernel_rfl) (by kernel_rfl) (by kernel_rfl) (fun _ _ _ h => h) (Or.inl ⟨by rfl, ?_⟩) (by assumption) ?_
            rotate_left
            · intro w hSw
              (try dsimp only at hSw)
              go_simp
              try with_reducible rfl
            try simp only [Act.put, List.setIfInBounds_toArray, List.set_cons_zero, List.set_cons_succ, List.getElem_toArray, List.getElem_cons_zero, List.getElem_cons_succ]
            refine wpAnyH_take (i := 10) (v := ?_) rfl (by kernel_rfl) (by kernel_rfl) (by kernel_rfl) (fun _ _ _ h => h) (Or.inl ⟨by rfl, ?_⟩) (by assumption) ?_
            rotate_left
            · intro w hSw
              (try dsimp only at hSw)
              go_simp
              try with_reducible rfl
            try simp only [Act.put, List.setIfInBounds_toArray, List.set_cons_zero, List.set_cons_succ, List.getElem_toArray, List.getElem_cons_zero, List.getElem_cons_succ]
            refine wpAnyH_take (i := 11) (v := ?_) rfl (by kernel_rfl) (by kernel_rfl) (by kernel_rfl) (fun _ _ _ h => h) (Or.inl ⟨by rfl, ?_⟩) (by assumption) ?_
            rotate_left
            · intro w hSw
              (try dsimp only at hSw)
              go_simp
              try with_reducible rfl
            try simp only [Act.put, List.setIfInBounds_toArray, List.set_cons_zero, List.set_cons_succ, List.getElem_toArray, List.getElem_cons_zero, List.getElem_cons_succ]
            refine wpAnyH_take (i := 12) (v := ?_) rfl (by kernel_rfl) (by kernel_rfl) (by kernel_rfl) (fun _ _ _ h => h) (Or.inl ⟨by rfl, ?_⟩) (by assumption) ?_
            rotate_left
            · intro w hSw
              (try dsimp only at hSw)
              go_simp
              try with_reducible rfl
            try simp only [Act.put, List.setIfInBounds_toArray, List.set_cons_zero, List.set_cons_succ, List.getElem_toArray, List.getElem_cons_zero, List.getElem_cons_succ]
            refine wpAnyH_take (i := 13) (v := ?_) rfl (by kernel_rfl) (by kernel_rfl) (by kernel_rfl) (fun _ _ _ h => h) (Or.inl ⟨by rfl, ?_⟩) (by assumption) ?_
            rotate_left
            · intro w hSw
              (try dsimp only at hSw)
              go_simp
              try with_reducible rfl
            try simp only [Act.put, List.setIfInBounds_toArray, List.set_cons_zero, List.set_cons_succ, List.getElem_toArray, List.getElem_cons_zero, List.getElem_cons_succ]
            refine wpAnyH_take (i := 14) (v := ?_) rfl (by kernel_rfl) (by kernel_rfl) (by kernel_rfl) (fun _ _ _ h => h) (Or.inl ⟨by rfl, ?_⟩) (by assumption) ?_
            rotate_left
            · intro w hSw
              (try dsimp only at hSw)
              go_simp
              try with_reducible rfl
            try simp only [Act.put, List.setIfInBounds_toArray, List.set_cons_zero, List.set_cons_succ, List.getElem_toArray, List.getElem_cons_zero, List.getElem_cons_succ]
            refine wpAnyH_take (i := 15) (v := ?_) rfl (by kernel_rfl) (by kernel_rfl) (by kernel_rfl) (fun _ _ _ h => h) (Or.inl ⟨by rfl, ?_⟩) (by assumption) ?_
            rotate_left
            · intro w hSw
              (try dsimp only at hSw)
              go_simp
              try with_reducible rfl
            try simp only [Act.put, List.setIfInBounds_toArray, List.set_cons_zero, List.set_cons_succ, List.getElem_toArray, List.getElem_cons_zero, List.getElem_cons_succ]
            refine wpAnyH_take (i := 16) (v := ?_) rfl (by kernel_rfl) (by kernel_rfl) (by kernel_rfl) (fun _ _ _ h => h) (Or.inl ⟨by rfl, ?_⟩) (by assumption) ?_
            rotate_left
            · intro w hSw
              (try dsimp only at hSw)
              go_simp
              try with_reducible rfl
            try simp only [Act.put, List.setIfInBounds_toArray, List.set_cons_zero, List.set_cons_succ, List.getElem_toArray, List.getElem_cons_zero, List.getElem_cons_succ]
            refine wpAnyH_take (i := 17) (v := ?_) rfl (by kernel_rfl) (by kernel_rfl) (by kernel_rfl) (fun _ _ _ h => h) (Or.inl ⟨by rfl, ?_⟩) (by assumption) ?_
            rotate_left
            · intro w hSw
              (try dsimp only at hSw)
              go_simp
              try with_reducible rfl
            try simp only [Act.put, List.setIfInBounds_toArray, List.set_cons_zero, List.set_cons_succ, List.getElem_toArray, List.getElem_cons_zero, List.getElem_cons_succ]
            refine wpAnyH_take (i := 18) (v := undef) rfl (by kernel_rfl) (by kernel_rfl) (by kernel_rfl) (fun _ _ _ h => h) (Or.inr ⟨by rfl, rfl⟩) (by assumption) ?_
            try simp only [Act.put, List.setIfInBounds_toArray, List.set_cons_zero, List.set_cons_succ, List.getElem_toArray, List.getElem_cons_zero, List.getElem_cons_succ]
            refine wpAnyH_take (i := 19) (v := undef) rfl (by kernel_rfl) (by kernel_rfl) (by kernel_rfl) (fun _ _ _ h => h) (Or.inr ⟨by rfl, rfl⟩) (by assumption) ?_
            try simp only [Act.put, List.setIfInBounds_toArray, List.set_cons_zero, List.set_cons_succ, List.getElem_toArray, List.getElem_cons_zero, List.getElem_cons_succ]
            refine wpAnyH_take (i := 20) (v := undef) rfl (by kernel_rfl) (by kernel_rfl) (by kernel_rfl) (fun _ _ _ h => h) (Or.inr ⟨by rfl, rfl⟩) (by assumption) ?_
            try simp only [Act.put, List.setIfInBounds_toArray, List.set_cons_zero, List.set_cons_succ, List.getElem_toArray, List.getElem_cons_zero, List.getElem_cons_succ]
            refine wpAnyH_take (i := 21) (v := undef) rfl (by kernel_rfl) (by kernel_rfl) (by kernel_rfl) (fun _ _ _ h => h) (Or.inr ⟨by rfl, rfl⟩) (by assumption) ?_
            try simp only [Act.put, List.setIfInBounds_toArray, List.set_cons_zero, List.set_cons_succ, List.getElem_toArray, List.getElem_cons_zero, List.getElem_cons_succ]
            refine wpAnyH_take (i := 22) (v := undef) rfl (by kernel_rfl) (by kernel_rfl) (by kernel_rfl) (fun _ _ _ h => h) (Or.inr ⟨by rfl, rfl⟩) (by assumption) ?_
            try simp only [Act.put, List.setIfInBounds_toArray, List.set_cons_zero, List.set_cons_succ, List.getElem_toArray, List.getElem_cons_zero, List.getElem_cons_succ]
            refine wpAnyH_take (i := 23) (v := undef) rfl (by kernel_rfl) (by kernel_rfl) (by kernel_rfl) (fun _ _ _ h => h) (Or.inr ⟨by rfl, rfl⟩) (by assumption) ?_
            try simp only [Act.put, List.setIfInBounds_toArray, List.set_cons_zero, List.set_cons_succ, List.getElem_toArray, List.getElem_cons_zero, List.getElem_cons_succ]
            refine wpAnyH_take (i := 24) (v := ?_) rfl (by kernel_rfl) (by kernel_rfl) (by kernel_rfl) (fun _ _ _ h => h) (Or.inl ⟨by rfl, ?_⟩) (by assumption) ?_
            rotate_left
            · intro w hSw
              (try dsimp only at hSw)
              go_simp
              try with_reducible rfl
            try simp only [Act.put, List.setIfInBounds_toArray, List.set_cons_zero, List.set_cons_succ, List.getElem_toArray, List.getElem_cons_zero, List.getElem_cons_succ]
            refine wpAnyH_take (i := 25) (v := ?_) rfl (by kernel_rfl) (by kernel_rfl) (by kernel_rfl) (fun _ _ _ h => h) (Or.inl ⟨by rfl, ?_⟩) (by assumption) ?_
            rotate_left
            · intro w hSw
              (try dsimp only at hSw)
              go_simp
              try with_reducible rfl
            try simp only [Act.put, List.setIfInBounds_toArray, List.set_cons_zero, List.set_cons_succ, List.getElem_toArray, List.getElem_cons_zero, List.getElem_cons_succ]
            refine wpAnyH_done (by kernel_rfl) ?_ _
            refine NoPanic.normal ?_
            have HBF := Lib.hid (below_then HX5.out HX7.out)
            go_wp2_with fail
            go_roundw
            case rel => exact ⟨(ix : Int) + 1, q + 1, by have := HIX.out; omega, by go_num, by show _ = _; have := HIX.out; omega, HBF⟩
            case measure => simp [intOf]; have := HIX.out; omega
      · have hend' : decide (ix ≤ m) = false := decide_eq_false hend
        go_wp2_with fail
        go_ret
        exact ⟨rfl, HBL.out.trans (HBr.out.mono HBL.out.size)⟩
  · obtain rfl : m = 0 := by omega
    obtain ⟨B1, c1, rfl⟩ := own_form hown
    clear hb1 hls hm
    go_wp2_with fail
    go_at_call 24
    refine (new_none _ B1 0 c1 (by omega)).mono ?_
    rintro e w2 ⟨rfl, rfl⟩
    go_wp2_with fail
    go_at_call 15
    refine (told_any _).mono ?_
    rintro e w3 ⟨rfl, hb3⟩
    have HB3 := Lib.hid (below_then HB1.out hb3)
    go_wp2_with fail
    go_ret
    exact ⟨rfl, HB3.out⟩
theorem law_TreeSets' (A : Option Addr) (n c : Nat) (vs : List Int) (A2 : Option Addr) (n2 c2 : Nat) (ps : List Int) (A3 : Option Addr) (n3 c3 : Nat) (us : List Int) (w : World) (hs : Sl w w.heap.size 1 A n (vs.map (.int .u16))) (hv : ∀ z ∈ vs, (Lit.int .u16 z).wf = true)
    (hs2 : Sl w w.heap.size 1 A2 n2 (ps.map (.int .i64))) (_ : ∀ z ∈ ps, (Lit.int .i64 z).wf = true) (hs3 : Sl w w.heap.size 1 A3 n3 (us.map (.int .u16))) (hu : ∀ z ∈ us, (Lit.int .u16 z).wf = true) :
    Calls Tryd.prog 8 #[.slice A n c, .slice A2 n2 c2, .slice A3 n3 c3] w fun e w' => e = .returned (.bool true) ∧ Below w.heap.size w w' := law_TreeSets w A n c vs A2 n2 c2 ps A3 n3 c3 us (u16_wf hv) hs hs2 (u16_wf hu) hs3
end Go.Proofs.YtimcjldehememaaDoor
