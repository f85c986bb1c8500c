/- TreeOthers: the walk. -/
import Derived.Test.YtimcjldehememaaDoorT27
namespace Go.Proofs.YtimcjldehememaaDoor
open Go.RowKit

theorem sl_after {w w' : World} {base g N c : Nat} {A : Option Addr} {e : TypeId} {xs : List Value} (hown : w.ownsRow base e 8 (.slice A N c) N xs) (hgr : w.grownBy w' (some g)) (hlt : g < base) : Sl w' w'.heap.size 8 A N xs := by
  have hs := Sl.of_own hown
  refine ⟨hs.len, hs.le, fun hN => ?_⟩
  obtain ⟨ad, hA, hb, hc⟩ := hs.mem hN
  obtain ⟨gb, cc, heq, hge, _⟩ := hown.form hN
  simp only [Value.slice.injEq] at heq
  obtain ⟨rfl, -, -⟩ := heq
  injection hA with hA
  subst hA
  have hb' : gb < w.heap.size := hb
  refine ⟨_, rfl, Nat.lt_of_lt_of_le hb hgr.size, fun j u hu => ?_⟩
  have h1 := hc j u hu
  rw [add_plain] at h1 ⊢
  have hr : w.rangeAt gb 0 xs := fun j u hu => by
    have := hc j u hu
    rw [add_plain] at this
    exact this
  exact range_only hr hgr hb' (by omega) j u hu

set_option maxRecDepth 20000 in
set_option maxHeartbeats 8000000 in
theorem law_TreeOthers (w : World) (A : Option Addr) (n c : Nat) (vs : List Int) (i : Int) (leaf : List Int) (hd : DgOk leaf) (ho : U16 vs) (hs : Sl w w.heap.size 1 A n (vs.map (.int .u16))) :
    Calls Tryd.prog 7 #[.slice A n c, .int .i64 i, .agg (dgA leaf)] w fun e w' => e = .returned (.bool true) ∧ Below w.heap.size w w' := by
  obtain ⟨a0, a1, a2, a3, a4, a5, a6, a7, rfl⟩ := list8 leaf hd.len
  obtain ⟨w0, hw0⟩ : ∃ w0, w.alloc (.cells #[.int .u8 a0, .int .u8 a1, .int .u8 a2, .int .u8 a3, .int .u8 a4, .int .u8 a5, .int .u8 a6, .int .u8 a7] 26) = w0 := ⟨_, rfl⟩
  obtain ⟨g, hg⟩ : ∃ g, w.heap.size = g := ⟨_, rfl⟩
  have ka : DgAt w0 g 26 [a0, a1, a2, a3, a4, a5, a6, a7] := hw0 ▸ Bk.at_ _ _ _ hg rfl
  have hb0 : Below w.heap.size w w0 := hw0 ▸ below_new w _
  have HS := Lib.hid (hs.later hb0); have HO := Lib.hid ho; have HW0 := Lib.hid hw0; have HB0 := Lib.hid hb0; have HKA := Lib.hid ka; have HA := Lib.hid hd; have HG := Lib.hid hg
  have hn := hs.le
  have hvl : vs.length = n := hs.length
  have HVL := Lib.hid hvl
  clear hs ho hvl hw0 hb0 ka hg hd
  rw [show dgA [a0, a1, a2, a3, a4, a5, a6, a7] = #[.int .u8 a0, .int .u8 a1, .int .u8 a2, .int .u8 a3, .int .u8 a4, .int .u8 a5, .int .u8 a6, .int .u8 a7] from rfl]
  go_enter Tryd.func7, Tryd.ntmps7
  go_upto_region 1 with fail
  rw [HW0.out, HG.out]
  go_wp2_with fail
  refine (some_any _ A n c vs HO.out HS.out 70 (by decide)).mono ?_
  rintro e w1 ⟨⟨v, rfl, hown⟩, hb1⟩
  obtain ⟨m, hm, hm7⟩ : ∃ m, min 70 n = m ∧ m ≤ 70 := ⟨_, rfl, Nat.min_le_left _ _⟩
  have hlen : (someI vs 70).length = m := by rw [someI_len, HVL.out, hm]
  rw [hm] at hown
  have hdo := someI_ok HO.out 70
  obtain ⟨ls, hls⟩ : ∃ ls, someI vs 70 = ls := ⟨_, rfl⟩
  rw [hls] at hlen hdo hown
  have HB1 := Lib.hid (below_then HB0.out hb1)
  have HK1 := Lib.hid (HKA.out.later hb1)
  by_cases hm0 : 0 < m
  · obtain ⟨b1, c1, rfl, hgb, hgc⟩ := hown.form hm0
    obtain ⟨k, hk, hkm⟩ := rem_at (IntKind.u64.wrap i) m (by rw [IntKind.wrap_u64]; omega) hm0
    obtain ⟨y, hy⟩ : ∃ y, ls[k]? = some y := ⟨ls[k]'(by omega), List.getElem?_eq_getElem _⟩
    have hyo := hdo y (List.mem_of_getElem? hy)
    obtain ⟨y0, y1, y2, y3, y4, y5, y6, y7, rfl⟩ := list8 y hyo.len
    have hl4 : ls.length ≤ 4096 := by omega
    obtain ⟨ls', hls'⟩ : ∃ ls', ls.set k [a0, a1, a2, a3, a4, a5, a6, a7] = ls' := ⟨_, rfl⟩
    obtain ⟨ps, hps⟩ : ∃ ps, pathL ls k = ps := ⟨_, rfl⟩
    have hps' : pathL ls' k = ps := by rw [← hls', pathL_other, hps]
    have hwi : withI k [a0, a1, a2, a3, a4, a5, a6, a7] ps = rootI ls' := by rw [← hps, ← hls']; exact withI_set (by omega) hl4 _
    have hdo' : DsOk ls' := by rw [← hls']; exact set_ok hdo k HA.out
    have hlen' : ls'.length = m := by rw [← hls', List.length_set, hlen]
    obtain ⟨r0, r1, r2, r3, r4, r5, r6, r7, hrr⟩ := list8 (rootI ls') (rootI_ok _).len
    have hpo : DsOk ps := hps ▸ pathL_ok ls k
    have hpl : ps.length ≤ 12 := hps ▸ pathL_small ls k
    have HPL := Lib.hid hpl
    have HR := Lib.hid hrr
    have HWI : Hid (withI (k : Int) [a0, a1, a2, a3, a4, a5, a6, a7] ps = [r0, r1, r2, r3, r4, r5, r6, r7]) := by show _ = _; rw [hwi, hrr]
    have HPS := Lib.hid hps; have HPS' := Lib.hid hps'; have HPO := Lib.hid hpo; have HDO := Lib.hid hdo; have HDO' := Lib.hid hdo'; have HLS := Lib.hid hls'; have HL := Lib.hid hlen; have HL' := Lib.hid hlen'; have HY := Lib.hid hy
    have HROW := Lib.hid (own_row hown hlen)
    have HSL := Lib.hid (Sl.of_own hown)
    have hgw0 : w.heap.size ≤ g := by have := HG.out; omega
    have hglt : g < w0.heap.size := Bk.lt HKA.out
    have hre : rootE m = 0 := if_pos ⟨hm0, by omega⟩
    have hpe : pathE m k = 0 := by rw [pathE, if_pos ⟨hm0, by omega⟩, if_pos ⟨by omega, by omega⟩]
    have hm1 : ((m : Int) == 0) = false := by simp; omega
    have hm2 : ¬ m = 0 := by omega
    have hm3 : ¬ (m : Int) = 0 := by omega
    have hm4 : (0 : Int) ≤ m := by omega
    have hm5 : IntKind.u64.wrap (m : Int) = m := by rw [IntKind.wrap_u64]; omega
    have hk5 : IntKind.u64.wrap (k : Int) = k := by rw [IntKind.wrap_u64]; omega
    have hk6 : IntKind.i64.wrap (k : Int) = k := by rw [IntKind.wrap_i64]; omega
    have hki : (k : Int) < m := by omega
    have hk0 : (0 : Int) ≤ k := by omega
    clear hown hdo hdo' hls' hps hps' hwi hrr hpo hlen hlen' hy hyo hl4 hls hm HS HO HVL
    go_wp2_with fail
    refine (treePath_any _ _ m c1 k ls HDO.out HSL.out).mono ?_
    rintro e w2 ⟨⟨v, rfl, hown⟩, hb2⟩
    obtain ⟨B2, c2, rfl⟩ := own_form hown
    rw [HPS.out] at hown
    rw [hpe, HPS.out]
    obtain ⟨N, hN⟩ : ∃ N, ps.length = N := ⟨_, rfl⟩
    rw [hN] at hown hpl ⊢
    have HOWP := Lib.hid hown
    have HB2 := Lib.hid (below_then HB1.out hb2)
    have HB12 := Lib.hid hb2
    have hk2 := HK1.out.later hb2
    obtain ⟨e0, e1, e2, e3, e4, e5, e6, e7⟩ := cells8 hk2
    obtain ⟨ys, hyb, hyl, hyt⟩ := RowAt.to HROW.out (hb2.block b1 hgc)
    have hrg := range_below (by have := sl_dg HSL.out HDO.out HY.out; rw [Nat.zero_add] at this; exact this) hb2 hgc
    obtain ⟨zc0, zc1, zc2, zc3, zc4, zc5, zc6, zc7⟩ := range8 hrg
    have zf := Bk.frozen hyb
    have hne : ¬ g = b1 := by omega
    have HYB : Hid (Bk w2 b1 26 ys ∧ ys.length = c1 * 8 ∧ ys.take (ls.length * 8) = cellsD ls) := ⟨hyb, hyl, hyt⟩
    have HK2 := Lib.hid hk2
    clear hown hb2 hk2 hyb hyl hyt hrg hN HK1 HROW
    go_upto_region 7 with fail
    obtain ⟨w3, hw3⟩ : ∃ w3, ((((((((w2.setCell ⟨b1, k * 8, none⟩ (.int .u8 a0)).setCell ⟨b1, k * 8 + 1, none⟩ (.int .u8 a1)).setCell ⟨b1, k * 8 + 2, none⟩ (.int .u8 a2)).setCell ⟨b1, k * 8 + 3, none⟩ (.int .u8 a3)).setCell ⟨b1, k * 8 + 4, none⟩ (.int .u8 a4)).setCell ⟨b1, k * 8 + 5, none⟩ (.int .u8 a5)).setCell ⟨b1, k * 8 + 6, none⟩ (.int .u8 a6)).setCell ⟨b1, k * 8 + 7, none⟩ (.int .u8 a7)) = w3 := ⟨_, rfl⟩
    have hgr := only_put8at (only_refl w2 b1) (k * 8) a0 a1 a2 a3 a4 a5 a6 a7
    have hbk := Bk.put8at HYB.out.1 (k * 8) a0 a1 a2 a3 a4 a5 a6 a7
    rw [hw3] at hgr hbk
    have hrow := row_put HYB.out.2.1 HYB.out.2.2 HDO.out (by rw [HL.out]; exact hkm) a0 a1 a2 a3 a4 a5 a6 a7 hbk
    rw [HLS.out] at hrow
    have hsl3 := RowAt.sl hrow HDO'.out (by rw [HL'.out]; omega)
    rw [HL'.out] at hsl3
    have HSL3 := Lib.hid hsl3
    have HSP3 := Lib.hid (sl_after HOWP.out hgr hgc)
    have HK3 := Lib.hid (Bk.grown HK2.out hgr (by intro e; injection e with e; exact hne e))
    have HB3 := Lib.hid (below_only HB2.out hgr HB2.out.size (by have := HB0.out.size; omega))
    rw [hw3]
    clear hw3 hgr hbk hrow hsl3 e0 e1 e2 e3 e4 e5 e6 e7 zc0 zc1 zc2 zc3 zc4 zc5 zc6 zc7 zf HYB HK2 HB2 HOWP HB12
    go_wp2_with fail
    refine (treeRoot_any _ _ m c1 ls' HDO'.out HSL3.out).mono ?_
    rintro e w4 ⟨rfl, hb4⟩
    rw [HR.out, show dgA [r0, r1, r2, r3, r4, r5, r6, r7] = #[.int .u8 r0, .int .u8 r1, .int .u8 r2, .int .u8 r3, .int .u8 r4, .int .u8 r5, .int .u8 r6, .int .u8 r7] from rfl, hre]
    have HB4 := Lib.hid hb4
    clear hb4
    go_upto_region 8 with fail
    obtain ⟨w5, hw5⟩ : ∃ w5, w4.alloc (.cells #[.int .u8 r0, .int .u8 r1, .int .u8 r2, .int .u8 r3, .int .u8 r4, .int .u8 r5, .int .u8 r6, .int .u8 r7] 26) = w5 := ⟨_, rfl⟩
    obtain ⟨h, hh⟩ : ∃ h, w4.heap.size = h := ⟨_, rfl⟩
    have k5 : DgAt w5 h 26 [r0, r1, r2, r3, r4, r5, r6, r7] := hw5 ▸ Bk.at_ _ _ _ hh rfl
    have HB5 := Lib.hid (below_then HB4.out (hw5 ▸ below_new w4 _))
    have HK5 := Lib.hid k5
    rw [hw5, hh]
    clear hw5 hh k5 HB4
    go_wp2_with fail
    refine (treePath_any _ _ m c1 k ls' HDO'.out (HSL3.out.later HB5.out)).mono ?_
    rintro e w6 ⟨⟨v, rfl, hown⟩, hb6⟩
    obtain ⟨B6, c6, rfl⟩ := own_form hown
    rw [HPS'.out] at hown
    rw [hpe, HPS'.out]
    obtain ⟨M, hM⟩ : ∃ M, ps.length = M := ⟨_, rfl⟩
    rw [hM] at hown ⊢
    have hpM : M ≤ 12 := by rw [← hM]; exact HPL.out
    have HB6 := Lib.hid (below_then HB5.out hb6)
    have HSQ := Lib.hid (Sl.of_own hown)
    have HSP := Lib.hid (HSP3.out.later HB6.out)
    have HKK : Hid (DgAt w6 g 26 [a0, a1, a2, a3, a4, a5, a6, a7] ∧ DgAt w6 h 26 [r0, r1, r2, r3, r4, r5, r6, r7]) := ⟨HK3.out.later HB6.out, HK5.out.later hb6⟩
    have hS6 := cells_two HKK.out.1 HKK.out.2 (Below.refl _ _)
    have heq : ∀ W, (Op.equalIn 10000 26 (.agg #[.int .u8 r0, .int .u8 r1, .int .u8 r2, .int .u8 r3, .int .u8 r4, .int .u8 r5, .int .u8 r6, .int .u8 r7]) (.agg #[.int .u8 r0, .int .u8 r1, .int .u8 r2, .int .u8 r3, .int .u8 r4, .int .u8 r5, .int .u8 r6, .int .u8 r7])).run Tryd.prog W = .ok true W := fun W => (dg_equal r0 r1 r2 r3 r4 r5 r6 r7 r0 r1 r2 r3 r4 r5 r6 r7 W).trans (by rw [eqL_self])
    clear hown hb6 hM HSP3 HK3 HK5 HB5 hre hpe
    go_upto_region 9 with fail
    have tok1 : True := trivial
    go_region_held3 (fun w' => w'.cell? ⟨g, 0, none⟩ = some (.int .u8 a0) ∧ w'.cell? ⟨g, 1, none⟩ = some (.int .u8 a1) ∧ w'.cell? ⟨g, 2, none⟩ = some (.int .u8 a2) ∧ w'.cell? ⟨g, 3, none⟩ = some (.int .u8 a3) ∧ w'.cell? ⟨g, 4, none⟩ = some (.int .u8 a4) ∧ w'.cell? ⟨g, 5, none⟩ = some (.int .u8 a5) ∧ w'.cell? ⟨g, 6, none⟩ = some (.int .u8 a6) ∧ w'.cell? ⟨g, 7, none⟩ = some (.int .u8 a7) ∧ w'.cell? ⟨h, 0, none⟩ = some (.int .u8 r0) ∧ w'.cell? ⟨h, 1, none⟩ = some (.int .u8 r1) ∧ w'.cell? ⟨h, 2, none⟩ = some (.int .u8 r2) ∧ w'.cell? ⟨h, 3, none⟩ = some (.int .u8 r3) ∧ w'.cell? ⟨h, 4, none⟩ = some (.int .u8 r4) ∧ w'.cell? ⟨h, 5, none⟩ = some (.int .u8 r5) ∧ w'.cell? ⟨h, 6, none⟩ = some (.int .u8 r6) ∧ w'.cell? ⟨h, 7, none⟩ = some (.int .u8 r7)) (first | (with_reducible exact hS11) | (with_reducible exact hS10) | (with_reducible exact hS9) | (with_reducible exact hS8) | (with_reducible exact hS7) | (with_reducible exact hS6) | go_keep)
      (first
        | (go_at_call 15; refine (told_any _).mono ?_; rintro e w7 ⟨rfl, hb7⟩; have E7 : Hid (Below w6.heap.size w6 w7) := ((below_draws w6 _ 1).trans hb7); have hS7 := cells_two HKK.out.1 HKK.out.2 E7.out; clear hb7)
        | (go_at_call 23; refine (With_any _ k [a0, a1, a2, a3, a4, a5, a6, a7] HA.out B2 N c2 ps HPO.out (HSP.out.later E7.out)).mono ?_; rintro e w8 ⟨rfl, hb8⟩; rw [HWI.out, show dgA [r0, r1, r2, r3, r4, r5, r6, r7] = #[.int .u8 r0, .int .u8 r1, .int .u8 r2, .int .u8 r3, .int .u8 r4, .int .u8 r5, .int .u8 r6, .int .u8 r7] from rfl]; have E8 : Hid (Below w6.heap.size w6 w8) := (E7.out.trans (hb8.mono E7.out.size)); have hS8 := cells_two HKK.out.1 HKK.out.2 E8.out; clear hb8)
        | (go_at_call 14; have _t := tok1; refine (plain_any _ B2 N c2 ps HPO.out (HSP.out.later E8.out) (by omega)).mono ?_; rintro e w9 ⟨⟨v, rfl, hown⟩, hb9⟩; obtain ⟨B9, c9, rfl⟩ := own_form hown; have HS9 := Lib.hid (Sl.of_own hown); have E9 : Hid (Below w6.heap.size w6 w9) := (E8.out.trans (hb9.mono E8.out.size)); have hS9 := cells_two HKK.out.1 HKK.out.2 E9.out; clear hb9 hown tok1 _t)
        | (go_at_call 14; refine (plain_any _ B6 M c6 ps HPO.out (HSQ.out.later E9.out) (by omega)).mono ?_; rintro e w10 ⟨⟨v, rfl, hown⟩, hb10⟩; obtain ⟨B10, c10, rfl⟩ := own_form hown; have HS10 := Lib.hid (Sl.of_own hown); have HS9' := Lib.hid (HS9.out.later hb10); have E10 : Hid (Below w6.heap.size w6 w10) := (E9.out.trans (hb10.mono E9.out.size)); have hS10 := cells_two HKK.out.1 HKK.out.2 E10.out; clear hb10 hown)
        | (go_at_call 20; refine (rSame_any _ B9 B10 N M c9 c10 ps ps HPO.out HPO.out HS9'.out HS10.out).mono ?_; rintro e w11 ⟨rfl, q11, rfl⟩; rw [eqD_self]; have E11 : Hid (Below w6.heap.size w6 (w10.drewN q11)) := (E10.out.trans ((below_draws w10 _ q11))); have hS11 := cells_two HKK.out.1 HKK.out.2 E11.out))
    have HBF := Lib.hid (HB3.out.trans ((HB6.out.trans (E11.out.mono HB6.out.size)).mono HB3.out.size))
    clear heq hS6 hS7 hS8 hS9 hS10 hS11
    go_wp2_with fail
    go_ret
    exact ⟨rfl, HBF.out⟩
  · obtain rfl : m = 0 := by omega
    obtain ⟨B1, c1, rfl⟩ := own_form hown
    clear hown hb1 hls hm
    go_wp2_with fail
    refine (told_any _).mono ?_
    rintro e w2 ⟨rfl, hb2⟩
    have HB2 := Lib.hid (below_then HB1.out hb2)
    go_wp2_with fail
    go_ret
    exact ⟨rfl, HB2.out⟩
theorem law_TreeOthers' (A : Option Addr) (n c : Nat) (vs : List Int) (i : Int) (leaf : List Int) (w : World) (hs : Sl w w.heap.size 1 A n (vs.map (.int .u16))) (hv : ∀ z ∈ vs, (Lit.int .u16 z).wf = true) (_ : (Lit.int .i64 i).wf = true) (hd : DgOk leaf) :
    Calls Tryd.prog 7 #[.slice A n c, .int .i64 i, .agg (dgA leaf)] w fun e w' => e = .returned (.bool true) ∧ Below w.heap.size w w' := law_TreeOthers w A n c vs i leaf hd (u16_wf hv) hs
end Go.Proofs.YtimcjldehememaaDoor
